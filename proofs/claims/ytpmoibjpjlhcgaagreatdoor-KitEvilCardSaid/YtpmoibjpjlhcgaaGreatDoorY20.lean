/- A part of the proof: J3, J4, J6, J9, J10, J11, J12, J13, J14, J15, J16, J17, J18, J19, J20, J21, J22. -/
import Derived.Test.YtpmoibjpjlhcgaaGreatDoorY18
import Derived.Test.YtpmoibjpjlhcgaaGreatDoorY03
import Derived.Test.YtpmoibjpjlhcgaaGreatDoorY19
import Derived.Test.YtpmoibjpjlhcgaaGreatDoorY07
import Derived.Test.YtpmoibjpjlhcgaaGreatDoorY05
set_option linter.unusedSimpArgs false
set_option linter.unusedVariables false
set_option maxRecDepth 200000
set_option maxHeartbeats 8000000
namespace Go.Proofs.YtpmoibjpjlhcgaaGreatDoor.K
open Go Go.Ab Go.RowKit
abbrev rowW (l:List Int):List (List AV):=l.map fun x=>[uv x]
def imgB (s:ByteArray):Bool:=decide (12<=s.size)&&decide (s.extract 0 4=⟨#[83,69,69,68]⟩)&&decide (s.size<=65548)&&decide (wordAt s 8<=32768)&&decide ((s.size:Int)=12+4*wordAt s 4)
theorem D6 (s:ByteArray):imgB s=true↔isImg s:=by
 unfold imgB isImg
 simp only[Bool.and_eq_true,decide_eq_true_eq]
 exact⟨fun⟨⟨⟨⟨a,b⟩,c⟩,d⟩,e⟩=>⟨a,b,c,d,e⟩,fun⟨a,b,c,d,e⟩=>⟨⟨⟨⟨a,b⟩,c⟩,d⟩,e⟩⟩
def codeOf (s:ByteArray):List Int:=wordsOf (s.extract 12 s.size)
def readR (s:ByteArray):List AV:=if imgB s then[.agg [.vec 1 (rowW (codeOf s)),iv (wordAt s 8)],iv 0] else[.agg [.vec 1 [],iv 0],iv 7]
def readO :List AV->Option (List AV)
 |[.sc (.string s)]=>if s.size<=1048576 then some (readR s) else none
 |_=>none
def X47 :Orc:=⟨fun f args=>if f=56 then readO args else none,fun _ _ _ _ _=>none⟩
theorem Mb (I:Nat->Prop)(w:World): ∀l:List Int,RepRows I w 1 (rowW l) (l.map (Value.int .u32))
 |[]=>by simp[RepRows]
 |x::l=>by
  simp only[List.map_cons,RepRows]
  exact⟨[.int .u32 x],l.map (Value.int .u32),rfl,rfl,by simp[RepDL,RepD,Value.oneCell'],Mb I w l⟩
theorem X47_ok :Ba Tryz.prog X47:=by
 refine⟨fun f args rs h hok I w us hI hgl ha=>?_,fun k d f args hp v hp' h=>by simp[X47] at h⟩
 simp only[X47] at h
 split at h
 ·rename_i hf
  subst hf
  unfold readO at h
  split at h
  ·rename_i s
   split at h
   ·rename_i hs
    cases h
    obtain⟨u,rfl⟩: ∃u,us=[u]:=by
     have:=ha.1
     match us,this with
     |[u],_=>exact⟨u,rfl⟩
    have h0:=ha.2 0 _ _ rfl rfl
    obtain rfl:u= .string s:=by simpa[RepA,RepD] using h0.1
    refine(callsIn_wide.1 (read_in Fence.wide 6 trivial trivial trivial trivial trivial rfl (Nat.le_refl _) s hs w)).mono fun e W' hh=>?_
    have key: ∀u,Below w.heap.size w W'->(∃us bs,u=retV us/\(∀b∈bs,w.heap.size<=b/\ ¬I b)/\bs.Nodup/\RepResL Tryz.prog I W' (rtys Tryz.prog 56) (readR s) us bs)->CallPost Tryz.prog I w (rtys Tryz.prog 56) (readR s) u W':=fun u hB ⟨us,bs,h1,h2,h3,h4⟩=>
     ⟨fun b hb=>hB.block b hb,hB.size,hB.os,hB.tape,hB.output,I,us,bs,h1,fun _ h=>h,fun _ h=> .inl h,fun b hb=>Nat.lt_of_lt_of_le (hI b hb) hB.size,h2,h3,h4⟩
    rcases hh with⟨h1,rfl,hB⟩|⟨h1,v,rfl,hown,hB⟩
    ·have hb:imgB s=false:=by rw[Bool.eq_false_iff];exact fun h=>h1 ((D6 s).1 h)
     refine⟨_,rfl,key _ hB ⟨[.agg #[.slice none 0 0,.int .i64 0],.int .i64 7],[],rfl,by simp,List.nodup_nil,?_⟩⟩
     unfold readR
     rw[hb,if_neg (by simp),Y8]
     simp only[RepResL,RepRes,Oj,Ol,if_true,Bool.false_eq_true,if_false]
     refine⟨_,_,[],[],rfl,rfl,⟨_,_,rfl,rfl,?_⟩,_,_,[],[],rfl,rfl,⟨rfl,by simp[RepD,Value.oneCell']⟩,rfl,rfl⟩
     simp only[tcs_58,RepHL]
     exact⟨_,_,[],[],rfl,rfl,.inl ⟨rfl,rfl,rfl⟩,_,_,[],[],rfl,rfl,⟨rfl,by simp[RepD,Value.oneCell']⟩,rfl,rfl⟩
    ·have hb:imgB s=true:=(D6 s).2 h1
     have hv: ∃bs,(∀b∈bs,w.heap.size<=b/\ ¬I b)/\bs.Nodup/\RepH Tryz.prog I (fun _=>False) W' 41 (.vec 1 (rowW (codeOf s))) v bs:=by
      obtain⟨hl,⟨rfl,h0⟩|⟨g,cap,cur,rfl,hb,hg,hc,hm,hs,ht⟩⟩:=hown
      ·refine⟨[],by simp,List.nodup_nil,.inl ⟨?_,rfl,rfl⟩⟩
       have:codeOf s=[]:=List.eq_nil_of_length_eq_zero h0
       rw[this];rfl
      ·refine⟨[g],fun b hbb=>?_,by simp,.inr ⟨g,cap,cur,(0,0),23,rfl,?_,by simp,hg,fun j _=>by simp,by simpa using hs,?_,hm,?_,fun hi=>by have:=hI g hi;omega,fun h=>h⟩⟩
       ·rw[List.mem_singleton] at hbb;subst hbb
        exact⟨hb,fun hi=>by have:=hI _ hi;omega⟩
       ·simp[codeOf]
       ·simpa[codeOf] using hc
       ·have e:(rowW (codeOf s)).length*1=(wordsOf (s.extract 12 s.size)).length*1:=by simp[codeOf]
        rw[e,ht]
        exact Mb I W' _
     obtain⟨bs,b1,b2,b3⟩:=hv
     refine⟨_,rfl,key _ hB ⟨[.agg #[v,.int .i64 (wordAt s 8)],.int .i64 0],bs,rfl,b1,b2,?_⟩⟩
     unfold readR
     rw[hb,if_pos rfl,Y8]
     simp only[RepResL,RepRes,Oj,Ol,if_true,Bool.false_eq_true,if_false]
     refine⟨_,_,bs,[],rfl,by simp,⟨_,_,rfl,rfl,?_⟩,_,_,[],[],rfl,rfl,⟨rfl,by simp[RepD,Value.oneCell']⟩,rfl,rfl⟩
     simp only[tcs_58,RepHL]
     exact⟨_,_,bs,[],rfl,by simp,b3,_,_,[],[],rfl,rfl,⟨rfl,by simp[RepD,Value.oneCell']⟩,rfl,rfl⟩
   ·cases h
  ·cases h
 ·cases h
end Go.Proofs.YtpmoibjpjlhcgaaGreatDoor.K
namespace Go.Proofs.YtpmoibjpjlhcgaaGreatDoor.K
open Go Go.Ab
def E47 :Cfg:={eq:=fun _=>false,hp:=fun f=>f==205||f==258||f==260,yl:=fun _=>false}
@[simp] theorem E47_hp (f:Nat):E47.hp f=(f==205||f==258||f==260):=rfl
@[simp] theorem E47_eq (f:Nat):E47.eq f=false:=rfl
@[simp] theorem E47_off :E47.off=0:=rfl
@[simp] theorem E47_ws :E47.ws=0:=rfl
@[simp] theorem E47_cl :E47.cl=false:=rfl
@[simp] theorem E47_frz (f:Nat):E47.frz f=false:=rfl
@[simp] theorem E47_inl (f:Nat):E47.inl f=false:=rfl
@[simp] theorem E47_bx (t:Nat):E47.bx t=false:=rfl
theorem wrapN {k:Nat}(h:k<9223372036854775807):IntKind.i64.wrap ((k:Int)+1)=(k:Int)+1:=Ag (by omega) (by omega)
def U (n:Int):Prop:=0<=n/\n<4294967296
def b4 (w:Int):List Int:=[w%256,w/256%256,w/65536%256,w/16777216%256]
def bys (l:List Int):List Int:=l.flatMap b4
abbrev rowB (l:List Int):List (List AV):=l.map fun x=>[.sc (.int .u8 x)]
def toBytes (l:List Int):List UInt8:=l.map fun x=>UInt8.ofNat x.toNat
def txtW (l:List Int):ByteArray:=⟨⟨toBytes (bys l)⟩⟩
@[simp] theorem fd8 (w:Int):w.fdiv (2^min 8 IntKind.u32.bits)=w/256:=by rw[show(2:Int)^min 8 IntKind.u32.bits=256 from by decide+kernel];exact Int.fdiv_eq_ediv_of_nonneg _ (by omega)
@[simp] theorem fd16 (w:Int):w.fdiv (2^min 16 IntKind.u32.bits)=w/65536:=by rw[show(2:Int)^min 16 IntKind.u32.bits=65536 from by decide+kernel];exact Int.fdiv_eq_ediv_of_nonneg _ (by omega)
@[simp] theorem fd24 (w:Int):w.fdiv (2^min 24 IntKind.u32.bits)=w/16777216:=by rw[show(2:Int)^min 24 IntKind.u32.bits=16777216 from by decide+kernel];exact Int.fdiv_eq_ediv_of_nonneg _ (by omega)
theorem D8 : ∀l:List Int,bytesOfRows (rowB l)=some (toBytes l)
 |[]=>rfl
 |x::l=>by
  have:=D8 l
  unfold rowB at this⊢
  simp only[List.map_cons,bytesOfRows,this,Option.map_some,toBytes]
theorem Ej : ∀l:List Int,(bys l).length=4*l.length
 |[]=>rfl
 |x::l=>by
  have:=Ej l
  unfold bys at this⊢
  simp only[List.flatMap_cons,List.length_append,this,List.length_cons,b4,List.length_nil];omega
end Go.Proofs.YtpmoibjpjlhcgaaGreatDoor.K
namespace Go.Proofs.YtpmoibjpjlhcgaaGreatDoor.K
open Go Go.Ab
def txtI (l:List Int)(data:Int):ByteArray:=⟨#[83,69,69,68]⟩++txtW [(l.length:Int),data]++txtW l
end Go.Proofs.YtpmoibjpjlhcgaaGreatDoor.K
namespace Go.Proofs.YtpmoibjpjlhcgaaGreatDoor.K
open Go Go.Ab
structure Ins where
 (op a b c:Int)
@[simp] def Ins.row (i:Ins):List AV:=[iv i.op,iv i.a,iv i.b,iv i.c]
def Ins.enc (i:Ins):Int:=i.op*16777216+i.a*1048576+i.b*65536+i.c
def mI (N:Int):List Ins:=[⟨1,1,0,83⟩,⟨24,1,0,0⟩,⟨1,1,0,69⟩,⟨24,1,0,0⟩,⟨24,1,0,0⟩,⟨1,1,0,68⟩,⟨24,1,0,0⟩,⟨1,8,0,8⟩,⟨1,7,0,1⟩,⟨1,4,0,N⟩,⟨3,2,4,0⟩,⟨21,15,0,19⟩,⟨21,15,0,19⟩,⟨27,2,3,0⟩,⟨21,15,0,19⟩,⟨4,3,3,7⟩,⟨14,5,3,4⟩,⟨20,5,0,13⟩,⟨26,0,0,0⟩,⟨24,2,0,0⟩,⟨13,2,2,8⟩,⟨24,2,0,0⟩,⟨13,2,2,8⟩,⟨24,2,0,0⟩,⟨13,2,2,8⟩,⟨24,2,0,0⟩,⟨13,2,2,8⟩,⟨22,15,0,0⟩]
def mcode (N:Int):List Int:=(mI N).map Ins.enc
end Go.Proofs.YtpmoibjpjlhcgaaGreatDoor.K
namespace Go.Proofs.YtpmoibjpjlhcgaaGreatDoor.K
open Go Go.Ab
theorem mcode_U (n:Nat)(h:n<=88): ∀x∈mcode n,U x:=by
 intro x hx
 unfold U
 simp only[mcode,mI,List.map_cons,List.map_nil,List.mem_cons,List.not_mem_nil,or_false,Ins.enc] at hx
 omega
theorem Bka (n:Int):(mcode n).length=28:=by simp[mcode,mI]
def mirC (l:List Int):List Int:=mcode ((28+l.length:Nat):Int)++l
theorem Dy (l:List Int):(mirC l).length=28+l.length:=by simp[mirC,Bka]
theorem Ts (l:List Int)(h:l.length<=60)(hU: ∀x∈l,U x): ∀x∈mirC l,U x:=by
 intro x hx
 rcases List.mem_append.1 hx with h1|h1
 ·exact mcode_U (28+l.length) (by omega) x h1
 ·exact hU x h1
end Go.Proofs.YtpmoibjpjlhcgaaGreatDoor.K
namespace Go.Proofs.YtpmoibjpjlhcgaaGreatDoor.K
open Go Go.Ab
abbrev xv (n:Int):AV:= .sc (.int .u64 n)
theorem d51 (b:Bool):(lim Tryz.prog E47 X47).dat 298 [bv b]=some [uv (if b then 1 else 0)]:=by
 refine fnW Tryz.func298 rfl rfl Vk rfl Exa rfl ?_
 cases b
 all_goals
  repeat' (first|refine ZN ?_|refine Z2 ?_ ?_|(intro h h';try simp[*,-h] at h'))
 all_goals rfl
def hf (w:Int):Nat->Int
 |0=>w
 |k+1=>hf w k/2
theorem hf_le {w:Int}(h:U w): ∀k,U (hf w k)
 |0=>h
 |k+1=>by
  have:=hf_le h k
  unfold U at this⊢
  simp only[hf]
  omega
theorem d50 (w:Int)(hU:U w):(lim Tryz.prog E47 X47).dat 297 [iv 13,uv w,uv 8]=some [uv (w/256)]:=by
 refine fnW Tryz.func297 rfl rfl Vl rfl Eya rfl ?_
 have e0:IntKind.u64.wrap w=w:=by unfold U at hU;rw[IntKind.wrap_u64];omega
 repeat' (first|refine ZN ?_|refine Z2 ?_ ?_|(intro h h';try simp[*,-h] at h'))
 refine Ah (n:=8) (fun s0 m q=> ∃k:Nat,m=8 - k/\k<=8/\q.fr 0=s0.fr 0/\q.fr 2=s0.fr 2/\q.fr 8=uv k/\q.fr 7=xv (hf w k)) ⟨0,by simp,by omega,by simp,by simp,by simp,by simp[hf]⟩ ?_
 rintro m ⟨fr,hp⟩ ⟨k,rfl,hk,hs0,hs2,hs8,hs7⟩
 simp at hs0 hs2 hs8 hs7
 by_cases hlt:k<8
 ·have hh:=hf_le hU k
  unfold U at hh
  have e1:IntKind.u64.wrap ((hf w k).tdiv 2)=hf w (k+1):=by
   rw[Int.tdiv_eq_ediv_of_nonneg hh.1,IntKind.wrap_u64]
   simp only[hf];omega
  have hw:IntKind.u32.wrap ((k:Int)+1)=(k:Int)+1:=by rw[IntKind.wrap_u32];omega
  have hlI:(k:Int)<8:=by omega
  repeat' (first|refine ZN ?_|refine Z2 ?_ ?_|(intro h h';try simp[*,-h] at h'))
  exact⟨_,by omega,k+1,rfl,hlt,by simp[*],by simp[*],by simp[*],by simp[*]⟩
 ·obtain rfl:k=8:=by omega
  have hh:=hf_le hU 8
  unfold U at hh
  have e1:hf w 8=w/256:=by simp only[hf];omega
  have e2:IntKind.u32.wrap (w/256)=w/256:=by rw[<-e1,IntKind.wrap_u32];omega
  rw[e1] at hs7
  simp only[Int.cast_ofNat_Int] at hs8
  exact ZS
theorem d47_4 (x y:Int)(hx:U x)(hy:U y):(lim Tryz.prog E47 X47).dat 261 [iv 4,uv x,uv y]=some [uv ((x+y)%4294967296),iv 0]:=by
 refine fnW Tryz.func261 rfl rfl Hr rfl L9 rfl ?_
 have h50:=d50 x hx
 have h51:=d51
 unfold U at*
 have e0:IntKind.u64.wrap x=x:=by rw[IntKind.wrap_u64];omega
 have e1:IntKind.u64.wrap y=y:=by rw[IntKind.wrap_u64];omega
 have e2:IntKind.u64.wrap (x+y)=x+y:=by rw[IntKind.wrap_u64];omega
 have e3:(x+y).tmod 4294967296=(x+y)%4294967296:=Int.tmod_eq_emod_of_nonneg (by omega)
 have e4:IntKind.u64.wrap ((x+y)%4294967296)=(x+y)%4294967296:=by rw[IntKind.wrap_u64];omega
 have e5:IntKind.u32.wrap ((x+y)%4294967296)=(x+y)%4294967296:=by rw[IntKind.wrap_u32];omega
 exact ZS
theorem d47_13 (x:Int)(hx:U x):(lim Tryz.prog E47 X47).dat 261 [iv 13,uv x,uv 8]=some [uv (x/256),iv 0]:=by
 refine fnW Tryz.func261 rfl rfl Hr rfl L9 rfl ?_
 have h50:=d50 x hx
 have h51:=d51
 unfold U at*
 have e0:IntKind.u64.wrap x=x:=by rw[IntKind.wrap_u64];omega
 exact ZS
theorem d47_14 (x y:Int)(hx:U x)(hy:U y):(lim Tryz.prog E47 X47).dat 261 [iv 14,uv x,uv y]=some [uv (if x<y then 1 else 0),iv 0]:=by
 refine fnW Tryz.func261 rfl rfl Hr rfl L9 rfl ?_
 have h50:=d50 x hx
 have h51:=d51
 unfold U at*
 have e0:IntKind.u64.wrap x=x:=by rw[IntKind.wrap_u64];omega
 have e1:IntKind.u64.wrap y=y:=by rw[IntKind.wrap_u64];omega
 repeat' (first|refine ZN ?_|refine Z2 ?_ ?_|(intro h h';try simp[*,-h] at h'))
 all_goals simp[*]
theorem d45 (l:List Int)(b:Nat)(hl:l.length<=1048576)(hb:b<l.length):(lim Tryz.prog E47 X47).dat 259 [.sl false 1 (rowW l),uv b,iv 0]=some [uv l[b],bv true]:=by
 refine fnW Tryz.func259 rfl rfl Vs rfl E2a rfl ?_
 have e0:IntKind.u32.wrap (b:Int)=b:=by rw[IntKind.wrap_u32];omega
 have e1:IntKind.u64.wrap (b:Int)=b:=by rw[IntKind.wrap_u64];omega
 have e2:IntKind.u64.wrap (l.length:Int)=l.length:=by rw[IntKind.wrap_u64];omega
 have e3: ¬(l.length:Int)<=b:=by omega
 have wz:IntKind.u32.wrap 0=0:=by decide+kernel
 repeat' (first|refine ZN ?_|refine Z2 ?_ ?_|(intro h h';try simp[*,-h] at h'))
 all_goals simp[*]
end Go.Proofs.YtpmoibjpjlhcgaaGreatDoor.K
namespace Go.Proofs.YtpmoibjpjlhcgaaGreatDoor.K
open Go Go.Ab
def partsOf (op:Int):ByteArray:=
 if op=1\/op=2\/op=19\/op=20\/op=21\/op=25 then⟨#[97,99]⟩
 else if op=3 then⟨#[97,98]⟩
 else if op=16\/op=17\/op=27 then⟨#[97,98,99]⟩
 else if op=18 then⟨#[99]⟩
 else if op=22\/op=23\/op=24 then⟨#[97]⟩
 else if op=26 then⟨#[]⟩
 else if op=4\/op=5\/op=6\/op=7\/op=8\/op=9\/op=10\/op=11\/op=12\/op=13\/op=14\/op=15 then⟨#[97,98,114]⟩
 else⟨#[63]⟩
theorem d52_0 :(lim Tryz.prog E47 X47).dat 133 [iv 0]=some [.sc (.string ⟨#[63]⟩)]:=lim_dat.2 ⟨100,by kernel_rfl⟩
theorem d52_1 :(lim Tryz.prog E47 X47).dat 133 [iv 1]=some [.sc (.string ⟨#[97,99]⟩)]:=lim_dat.2 ⟨100,by kernel_rfl⟩
theorem d52_2 :(lim Tryz.prog E47 X47).dat 133 [iv 2]=some [.sc (.string ⟨#[97,99]⟩)]:=lim_dat.2 ⟨100,by kernel_rfl⟩
theorem d52_3 :(lim Tryz.prog E47 X47).dat 133 [iv 3]=some [.sc (.string ⟨#[97,98]⟩)]:=lim_dat.2 ⟨100,by kernel_rfl⟩
theorem d52_4 :(lim Tryz.prog E47 X47).dat 133 [iv 4]=some [.sc (.string ⟨#[97,98,114]⟩)]:=lim_dat.2 ⟨100,by kernel_rfl⟩
theorem d52_5 :(lim Tryz.prog E47 X47).dat 133 [iv 5]=some [.sc (.string ⟨#[97,98,114]⟩)]:=lim_dat.2 ⟨100,by kernel_rfl⟩
theorem d52_6 :(lim Tryz.prog E47 X47).dat 133 [iv 6]=some [.sc (.string ⟨#[97,98,114]⟩)]:=lim_dat.2 ⟨100,by kernel_rfl⟩
theorem d52_7 :(lim Tryz.prog E47 X47).dat 133 [iv 7]=some [.sc (.string ⟨#[97,98,114]⟩)]:=lim_dat.2 ⟨100,by kernel_rfl⟩
theorem d52_8 :(lim Tryz.prog E47 X47).dat 133 [iv 8]=some [.sc (.string ⟨#[97,98,114]⟩)]:=lim_dat.2 ⟨100,by kernel_rfl⟩
theorem d52_9 :(lim Tryz.prog E47 X47).dat 133 [iv 9]=some [.sc (.string ⟨#[97,98,114]⟩)]:=lim_dat.2 ⟨100,by kernel_rfl⟩
theorem d52_10 :(lim Tryz.prog E47 X47).dat 133 [iv 10]=some [.sc (.string ⟨#[97,98,114]⟩)]:=lim_dat.2 ⟨100,by kernel_rfl⟩
theorem d52_11 :(lim Tryz.prog E47 X47).dat 133 [iv 11]=some [.sc (.string ⟨#[97,98,114]⟩)]:=lim_dat.2 ⟨100,by kernel_rfl⟩
theorem d52_12 :(lim Tryz.prog E47 X47).dat 133 [iv 12]=some [.sc (.string ⟨#[97,98,114]⟩)]:=lim_dat.2 ⟨100,by kernel_rfl⟩
theorem d52_13 :(lim Tryz.prog E47 X47).dat 133 [iv 13]=some [.sc (.string ⟨#[97,98,114]⟩)]:=lim_dat.2 ⟨100,by kernel_rfl⟩
theorem d52_14 :(lim Tryz.prog E47 X47).dat 133 [iv 14]=some [.sc (.string ⟨#[97,98,114]⟩)]:=lim_dat.2 ⟨100,by kernel_rfl⟩
theorem d52_15 :(lim Tryz.prog E47 X47).dat 133 [iv 15]=some [.sc (.string ⟨#[97,98,114]⟩)]:=lim_dat.2 ⟨100,by kernel_rfl⟩
theorem d52_16 :(lim Tryz.prog E47 X47).dat 133 [iv 16]=some [.sc (.string ⟨#[97,98,99]⟩)]:=lim_dat.2 ⟨100,by kernel_rfl⟩
theorem d52_17 :(lim Tryz.prog E47 X47).dat 133 [iv 17]=some [.sc (.string ⟨#[97,98,99]⟩)]:=lim_dat.2 ⟨100,by kernel_rfl⟩
theorem d52_18 :(lim Tryz.prog E47 X47).dat 133 [iv 18]=some [.sc (.string ⟨#[99]⟩)]:=lim_dat.2 ⟨100,by kernel_rfl⟩
theorem d52_19 :(lim Tryz.prog E47 X47).dat 133 [iv 19]=some [.sc (.string ⟨#[97,99]⟩)]:=lim_dat.2 ⟨100,by kernel_rfl⟩
theorem d52_20 :(lim Tryz.prog E47 X47).dat 133 [iv 20]=some [.sc (.string ⟨#[97,99]⟩)]:=lim_dat.2 ⟨100,by kernel_rfl⟩
theorem d52_21 :(lim Tryz.prog E47 X47).dat 133 [iv 21]=some [.sc (.string ⟨#[97,99]⟩)]:=lim_dat.2 ⟨100,by kernel_rfl⟩
theorem d52_22 :(lim Tryz.prog E47 X47).dat 133 [iv 22]=some [.sc (.string ⟨#[97]⟩)]:=lim_dat.2 ⟨100,by kernel_rfl⟩
theorem d52_23 :(lim Tryz.prog E47 X47).dat 133 [iv 23]=some [.sc (.string ⟨#[97]⟩)]:=lim_dat.2 ⟨100,by kernel_rfl⟩
theorem d52_24 :(lim Tryz.prog E47 X47).dat 133 [iv 24]=some [.sc (.string ⟨#[97]⟩)]:=lim_dat.2 ⟨100,by kernel_rfl⟩
theorem d52_25 :(lim Tryz.prog E47 X47).dat 133 [iv 25]=some [.sc (.string ⟨#[97,99]⟩)]:=lim_dat.2 ⟨100,by kernel_rfl⟩
theorem d52_26 :(lim Tryz.prog E47 X47).dat 133 [iv 26]=some [.sc (.string ⟨#[]⟩)]:=lim_dat.2 ⟨100,by kernel_rfl⟩
theorem d52_27 :(lim Tryz.prog E47 X47).dat 133 [iv 27]=some [.sc (.string ⟨#[97,98,99]⟩)]:=lim_dat.2 ⟨100,by kernel_rfl⟩
theorem d52_x (op:Int)(h:27<op):(lim Tryz.prog E47 X47).dat 133 [iv op]=some [.sc (.string ⟨#[63]⟩)]:=by
 refine fnW Tryz.func133 rfl rfl Xz rfl Fva rfl ?_
 have n0: ¬op<=15:=by omega
 have n1: ¬op=1:=by omega
 have n2: ¬op=2:=by omega
 have n3: ¬op=3:=by omega
 have n4: ¬op=4:=by omega
 have n5: ¬op=5:=by omega
 have n6: ¬op=6:=by omega
 have n7: ¬op=7:=by omega
 have n8: ¬op=8:=by omega
 have n9: ¬op=9:=by omega
 have n10: ¬op=10:=by omega
 have n11: ¬op=11:=by omega
 have n12: ¬op=12:=by omega
 have n13: ¬op=13:=by omega
 have n14: ¬op=14:=by omega
 have n15: ¬op=15:=by omega
 have n16: ¬op=16:=by omega
 have n17: ¬op=17:=by omega
 have n18: ¬op=18:=by omega
 have n19: ¬op=19:=by omega
 have n20: ¬op=20:=by omega
 have n21: ¬op=21:=by omega
 have n22: ¬op=22:=by omega
 have n23: ¬op=23:=by omega
 have n24: ¬op=24:=by omega
 have n25: ¬op=25:=by omega
 have n26: ¬op=26:=by omega
 have n27: ¬op=27:=by omega
 exact ZS
theorem d52 (op:Int)(h:0<=op):(lim Tryz.prog E47 X47).dat 133 [iv op]=some [.sc (.string (partsOf op))]:=by
 by_cases hx:27<op
 ·rw[d52_x op hx]
  unfold partsOf
  rw[if_neg (by omega),if_neg (by omega),if_neg (by omega),if_neg (by omega),if_neg (by omega),if_neg (by omega),if_neg (by omega)]
 have:op=0\/op=1\/op=2\/op=3\/op=4\/op=5\/op=6\/op=7\/op=8\/op=9\/op=10\/op=11\/op=12\/op=13\/op=14\/op=15\/op=16\/op=17\/op=18\/op=19\/op=20\/op=21\/op=22\/op=23\/op=24\/op=25\/op=26\/op=27:=by omega
 rcases this with rfl|rfl|rfl|rfl|rfl|rfl|rfl|rfl|rfl|rfl|rfl|rfl|rfl|rfl|rfl|rfl|rfl|rfl|rfl|rfl|rfl|rfl|rfl|rfl|rfl|rfl|rfl|rfl
 ·rw[d52_0];rfl
 ·rw[d52_1];rfl
 ·rw[d52_2];rfl
 ·rw[d52_3];rfl
 ·rw[d52_4];rfl
 ·rw[d52_5];rfl
 ·rw[d52_6];rfl
 ·rw[d52_7];rfl
 ·rw[d52_8];rfl
 ·rw[d52_9];rfl
 ·rw[d52_10];rfl
 ·rw[d52_11];rfl
 ·rw[d52_12];rfl
 ·rw[d52_13];rfl
 ·rw[d52_14];rfl
 ·rw[d52_15];rfl
 ·rw[d52_16];rfl
 ·rw[d52_17];rfl
 ·rw[d52_18];rfl
 ·rw[d52_19];rfl
 ·rw[d52_20];rfl
 ·rw[d52_21];rfl
 ·rw[d52_22];rfl
 ·rw[d52_23];rfl
 ·rw[d52_24];rfl
 ·rw[d52_25];rfl
 ·rw[d52_26];rfl
 ·rw[d52_27];rfl
theorem Jca :(lim Tryz.prog E47 X47).dat 134 [.sc (.string ⟨#[97,99]⟩),.sc (.int .u8 97)]=some [bv true]:=lim_dat.2 ⟨100,by kernel_rfl⟩
theorem Jba :(lim Tryz.prog E47 X47).dat 134 [.sc (.string ⟨#[97,99]⟩),.sc (.int .u8 98)]=some [bv false]:=lim_dat.2 ⟨100,by kernel_rfl⟩
theorem Jaa :(lim Tryz.prog E47 X47).dat 134 [.sc (.string ⟨#[97,99]⟩),.sc (.int .u8 99)]=some [bv true]:=lim_dat.2 ⟨100,by kernel_rfl⟩
theorem H9a :(lim Tryz.prog E47 X47).dat 134 [.sc (.string ⟨#[97,99]⟩),.sc (.int .u8 114)]=some [bv false]:=lim_dat.2 ⟨100,by kernel_rfl⟩
theorem Jga :(lim Tryz.prog E47 X47).dat 134 [.sc (.string ⟨#[97,98]⟩),.sc (.int .u8 97)]=some [bv true]:=lim_dat.2 ⟨100,by kernel_rfl⟩
theorem Jfa :(lim Tryz.prog E47 X47).dat 134 [.sc (.string ⟨#[97,98]⟩),.sc (.int .u8 98)]=some [bv true]:=lim_dat.2 ⟨100,by kernel_rfl⟩
theorem Jea :(lim Tryz.prog E47 X47).dat 134 [.sc (.string ⟨#[97,98]⟩),.sc (.int .u8 99)]=some [bv false]:=lim_dat.2 ⟨100,by kernel_rfl⟩
theorem Jda :(lim Tryz.prog E47 X47).dat 134 [.sc (.string ⟨#[97,98]⟩),.sc (.int .u8 114)]=some [bv false]:=lim_dat.2 ⟨100,by kernel_rfl⟩
theorem B9a :(lim Tryz.prog E47 X47).dat 134 [.sc (.string ⟨#[97,98,99]⟩),.sc (.int .u8 97)]=some [bv true]:=lim_dat.2 ⟨100,by kernel_rfl⟩
theorem B8a :(lim Tryz.prog E47 X47).dat 134 [.sc (.string ⟨#[97,98,99]⟩),.sc (.int .u8 98)]=some [bv true]:=lim_dat.2 ⟨100,by kernel_rfl⟩
theorem B7a :(lim Tryz.prog E47 X47).dat 134 [.sc (.string ⟨#[97,98,99]⟩),.sc (.int .u8 99)]=some [bv true]:=lim_dat.2 ⟨100,by kernel_rfl⟩
theorem B6a :(lim Tryz.prog E47 X47).dat 134 [.sc (.string ⟨#[97,98,99]⟩),.sc (.int .u8 114)]=some [bv false]:=lim_dat.2 ⟨100,by kernel_rfl⟩
theorem d53_c_a :(lim Tryz.prog E47 X47).dat 134 [.sc (.string ⟨#[99]⟩),.sc (.int .u8 97)]=some [bv false]:=lim_dat.2 ⟨100,by kernel_rfl⟩
theorem d53_c_b :(lim Tryz.prog E47 X47).dat 134 [.sc (.string ⟨#[99]⟩),.sc (.int .u8 98)]=some [bv false]:=lim_dat.2 ⟨100,by kernel_rfl⟩
theorem d53_c_c :(lim Tryz.prog E47 X47).dat 134 [.sc (.string ⟨#[99]⟩),.sc (.int .u8 99)]=some [bv true]:=lim_dat.2 ⟨100,by kernel_rfl⟩
theorem d53_c_r :(lim Tryz.prog E47 X47).dat 134 [.sc (.string ⟨#[99]⟩),.sc (.int .u8 114)]=some [bv false]:=lim_dat.2 ⟨100,by kernel_rfl⟩
theorem d53_a_a :(lim Tryz.prog E47 X47).dat 134 [.sc (.string ⟨#[97]⟩),.sc (.int .u8 97)]=some [bv true]:=lim_dat.2 ⟨100,by kernel_rfl⟩
theorem d53_a_b :(lim Tryz.prog E47 X47).dat 134 [.sc (.string ⟨#[97]⟩),.sc (.int .u8 98)]=some [bv false]:=lim_dat.2 ⟨100,by kernel_rfl⟩
theorem d53_a_c :(lim Tryz.prog E47 X47).dat 134 [.sc (.string ⟨#[97]⟩),.sc (.int .u8 99)]=some [bv false]:=lim_dat.2 ⟨100,by kernel_rfl⟩
theorem d53_a_r :(lim Tryz.prog E47 X47).dat 134 [.sc (.string ⟨#[97]⟩),.sc (.int .u8 114)]=some [bv false]:=lim_dat.2 ⟨100,by kernel_rfl⟩
theorem d53__a :(lim Tryz.prog E47 X47).dat 134 [.sc (.string ⟨#[]⟩),.sc (.int .u8 97)]=some [bv false]:=lim_dat.2 ⟨100,by kernel_rfl⟩
theorem d53__b :(lim Tryz.prog E47 X47).dat 134 [.sc (.string ⟨#[]⟩),.sc (.int .u8 98)]=some [bv false]:=lim_dat.2 ⟨100,by kernel_rfl⟩
theorem d53__c :(lim Tryz.prog E47 X47).dat 134 [.sc (.string ⟨#[]⟩),.sc (.int .u8 99)]=some [bv false]:=lim_dat.2 ⟨100,by kernel_rfl⟩
theorem d53__r :(lim Tryz.prog E47 X47).dat 134 [.sc (.string ⟨#[]⟩),.sc (.int .u8 114)]=some [bv false]:=lim_dat.2 ⟨100,by kernel_rfl⟩
theorem B5a :(lim Tryz.prog E47 X47).dat 134 [.sc (.string ⟨#[97,98,114]⟩),.sc (.int .u8 97)]=some [bv true]:=lim_dat.2 ⟨100,by kernel_rfl⟩
theorem B4a :(lim Tryz.prog E47 X47).dat 134 [.sc (.string ⟨#[97,98,114]⟩),.sc (.int .u8 98)]=some [bv true]:=lim_dat.2 ⟨100,by kernel_rfl⟩
theorem B3a :(lim Tryz.prog E47 X47).dat 134 [.sc (.string ⟨#[97,98,114]⟩),.sc (.int .u8 99)]=some [bv false]:=lim_dat.2 ⟨100,by kernel_rfl⟩
theorem B2a :(lim Tryz.prog E47 X47).dat 134 [.sc (.string ⟨#[97,98,114]⟩),.sc (.int .u8 114)]=some [bv true]:=lim_dat.2 ⟨100,by kernel_rfl⟩
theorem d53_x_a :(lim Tryz.prog E47 X47).dat 134 [.sc (.string ⟨#[63]⟩),.sc (.int .u8 97)]=some [bv false]:=lim_dat.2 ⟨100,by kernel_rfl⟩
theorem d53_x_b :(lim Tryz.prog E47 X47).dat 134 [.sc (.string ⟨#[63]⟩),.sc (.int .u8 98)]=some [bv false]:=lim_dat.2 ⟨100,by kernel_rfl⟩
theorem d53_x_c :(lim Tryz.prog E47 X47).dat 134 [.sc (.string ⟨#[63]⟩),.sc (.int .u8 99)]=some [bv false]:=lim_dat.2 ⟨100,by kernel_rfl⟩
theorem d53_x_r :(lim Tryz.prog E47 X47).dat 134 [.sc (.string ⟨#[63]⟩),.sc (.int .u8 114)]=some [bv false]:=lim_dat.2 ⟨100,by kernel_rfl⟩
theorem d54 (h:Bool)(x m:Int):(lim Tryz.prog E47 X47).dat 135 [bv h,iv x,iv m]=some [bv (if h then decide (0<=x)&&decide (x<=m) else decide (x=0))]:=by
 refine fnW Tryz.func135 rfl rfl Xy rfl Fua rfl ?_
 cases h
 all_goals by_cases h1:x=0
 all_goals by_cases h2:0<=x
 all_goals by_cases h3:x<=m
 all_goals
  repeat' (first|refine ZN ?_|refine Z2 ?_ ?_|(intro h h';try simp[*,-h] at h'))
 all_goals simp[*]
end Go.Proofs.YtpmoibjpjlhcgaaGreatDoor.K
namespace Go.Proofs.YtpmoibjpjlhcgaaGreatDoor.K
open Go Go.Ab
section
variable {P:Program}{E:Cfg}{k:Nat}{call:Orc}{all:Array Oper}{os:List Oper}{fr:Nat->AV}{hp:Hp}{Q:AS->Prop}{d d' j:Nat}{op:Op}{ty:TypeId}{pos:String}{aft:Array Edge}{b:Bool}{fs:List Foot}
theorem K8 {us:List Value}(hd:(all[j]?).bind (·.dst)=some d')(hc:fr d'= .sc (.tuple ⟨us⟩))(r:Wd P E k call all os ⟨setd fr (some d) (.sc undef),hp⟩ (⟨[],[]⟩::fs) Q):Wd P E k call all (⟨some d,op,ty,pos,aft,some (j,b)⟩::os) ⟨fr,hp⟩ fs Q:=by
 obtain⟨st',fs',h1,h2⟩:=r
 exact⟨st',fs',by simp only[runDraw,stepF,guardA,hd,hc];exact h1,h2⟩
end
def wi (h:Bool)(x m:Int):Bool:=if h then decide (0<=x)&&decide (x<=m) else decide (x=0)
def hasB (P:ByteArray)(c:UInt8):Bool:=P.data.toList.contains c
def rightI (i:Ins):Bool:=decide (partsOf i.op≠⟨#[63]⟩)&&wi (hasB (partsOf i.op) 97) i.a 15&&wi (hasB (partsOf i.op) 98) i.b 15&&wi (hasB (partsOf i.op) 99||hasB (partsOf i.op) 114) i.c (if hasB (partsOf i.op) 114 then 15 else 65535)
theorem d48x (i:Ins)(P:ByteArray)(ra rb rc rr nq:Bool)(h52:(lim Tryz.prog E47 X47).dat 133 [iv i.op]=some [.sc (.string P)])(hq:decide (P=⟨#[63]⟩)= !nq)(h53a:(lim Tryz.prog E47 X47).dat 134 [.sc (.string P),.sc (.int .u8 97)]=some [bv ra])(h53b:(lim Tryz.prog E47 X47).dat 134 [.sc (.string P),.sc (.int .u8 98)]=some [bv rb])(h53c:(lim Tryz.prog E47 X47).dat 134 [.sc (.string P),.sc (.int .u8 99)]=some [bv rc])(h53r:(lim Tryz.prog E47 X47).dat 134 [.sc (.string P),.sc (.int .u8 114)]=some [bv rr]):(lim Tryz.prog E47 X47).dat 97 [.agg i.row]=some [bv (nq&&wi ra i.a 15&&wi rb i.b 15&&wi (rc||rr) i.c (if rr then 15 else 65535))]:=by
 refine fnW Tryz.func97 rfl rfl Cpa rfl rtys_97 rfl ?_
 have h54a:=d54 ra i.a 15
 have h54b:=d54 rb i.b 15
 have h54c:=d54 (rc||rr) i.c (if rr then 15 else 65535)
 simp only[<-wi.eq_def] at h54a h54b h54c
 obtain⟨op,a,b,c⟩:=i
 simp only[Ins.row] at*
 generalize wi ra a 15=xa at*
 generalize wi rb b 15=xb at*
 generalize wi (rc||rr) c (if rr then 15 else 65535)=xc at*
 cases nq
 ·have hP:P=⟨#[63]⟩:=by simpa using hq
  subst hP
  clear hq
  cases rr<;>cases rc
  all_goals simp only[Bool.not_true,Bool.not_false,Bool.or_true,Bool.or_false,if_true,if_false,Bool.false_eq_true] at*
  all_goals
   repeat' (first|refine ZN ?_|refine Z2 ?_ ?_|(intro h h';try simp[*,-h] at h'))
  all_goals simp[*]
 have hP: ¬P=⟨#[63]⟩:=by simpa using hq
 clear hq
 cases rr<;>cases rc
 all_goals simp only[Bool.not_true,Bool.not_false,Bool.or_true,Bool.or_false,if_true,if_false,Bool.false_eq_true] at*
 all_goals
  repeat' (first|refine ZN ?_|refine Z2 ?_ ?_|(intro h h';try simp[*,-h] at h'))
 all_goals simp[*]
end Go.Proofs.YtpmoibjpjlhcgaaGreatDoor.K
namespace Go.Proofs.YtpmoibjpjlhcgaaGreatDoor.K
open Go Go.Ab
theorem Bga (op:Int):partsOf op=⟨#[97,99]⟩\/partsOf op=⟨#[97,98]⟩\/partsOf op=⟨#[97,98,99]⟩\/partsOf op=⟨#[99]⟩\/partsOf op=⟨#[97]⟩\/partsOf op=⟨#[]⟩\/partsOf op=⟨#[97,98,114]⟩\/partsOf op=⟨#[63]⟩:=by
 unfold partsOf
 repeat' split
 all_goals simp
theorem d48 (i:Ins)(h:0<=i.op):(lim Tryz.prog E47 X47).dat 97 [.agg i.row]=some [bv (rightI i)]:=by
 have h52:=d52 i.op h
 unfold rightI
 rcases Bga i.op with e|e|e|e|e|e|e|e
 ·rw[e] at h52⊢
  rw[d48x i ⟨#[97,99]⟩ true false true false true h52 (by decide) Jca Jba Jaa H9a]
  rfl
 ·rw[e] at h52⊢
  rw[d48x i ⟨#[97,98]⟩ true true false false true h52 (by decide) Jga Jfa Jea Jda]
  rfl
 ·rw[e] at h52⊢
  rw[d48x i ⟨#[97,98,99]⟩ true true true false true h52 (by decide) B9a B8a B7a B6a]
  rfl
 ·rw[e] at h52⊢
  rw[d48x i ⟨#[99]⟩ false false true false true h52 (by decide) d53_c_a d53_c_b d53_c_c d53_c_r]
  rfl
 ·rw[e] at h52⊢
  rw[d48x i ⟨#[97]⟩ true false false false true h52 (by decide) d53_a_a d53_a_b d53_a_c d53_a_r]
  rfl
 ·rw[e] at h52⊢
  rw[d48x i ⟨#[]⟩ false false false false true h52 (by decide) d53__a d53__b d53__c d53__r]
  rfl
 ·rw[e] at h52⊢
  rw[d48x i ⟨#[97,98,114]⟩ true true false true true h52 (by decide) B5a B4a B3a B2a]
  rfl
 ·rw[e] at h52⊢
  rw[d48x i ⟨#[63]⟩ false false false false false h52 (by decide) d53_x_a d53_x_b d53_x_c d53_x_r]
  rfl
def insW (w:Int):Ins:=⟨w/16777216,w/1048576%16,w/65536%16,w%65536⟩
def decR (w:Int):List AV:=if rightI (insW w) then(insW w).row else[iv 0,iv 0,iv 0,iv 0]
def okR (w:Int):Bool:=rightI (insW w)
theorem d43 (w:Int)(hU:U w):(lim Tryz.prog E47 X47).dat 257 [uv w]=some [.agg (decR w),iv (if okR w then 0 else 7)]:=by
 refine fnW Tryz.func257 rfl rfl Vt rfl E3a rfl ?_
 unfold U at hU
 have h48:=d48 (insW w) (by show 0<=w/16777216;omega)
 have w1:IntKind.u32.wrap (w.tdiv 16777216)=w/16777216:=by rw[Int.tdiv_eq_ediv_of_nonneg hU.1,IntKind.wrap_u32];omega
 have w2:IntKind.u32.wrap (w.tdiv 1048576)=w/1048576:=by rw[Int.tdiv_eq_ediv_of_nonneg hU.1,IntKind.wrap_u32];omega
 have w3:IntKind.u32.wrap (w.tdiv 65536)=w/65536:=by rw[Int.tdiv_eq_ediv_of_nonneg hU.1,IntKind.wrap_u32];omega
 have t2:(w/1048576).tmod 16=w/1048576%16:=Int.tmod_eq_emod_of_nonneg (by omega)
 have t3:(w/65536).tmod 16=w/65536%16:=Int.tmod_eq_emod_of_nonneg (by omega)
 have t4:w.tmod 65536=w%65536:=Int.tmod_eq_emod_of_nonneg (by omega)
 have i1:IntKind.i64.wrap (w/16777216)=w/16777216:=Ag (by omega) (by omega)
 have i2:IntKind.i64.wrap (w/1048576%16)=w/1048576%16:=Ag (by omega) (by omega)
 have i3:IntKind.i64.wrap (w/65536%16)=w/65536%16:=Ag (by omega) (by omega)
 have i4:IntKind.i64.wrap (w%65536)=w%65536:=Ag (by omega) (by omega)
 have r2:IntKind.u32.wrap (w/1048576%16)=w/1048576%16:=by rw[IntKind.wrap_u32];omega
 have r3:IntKind.u32.wrap (w/65536%16)=w/65536%16:=by rw[IntKind.wrap_u32];omega
 have r4:IntKind.u32.wrap (w%65536)=w%65536:=by rw[IntKind.wrap_u32];omega
 unfold decR okR
 simp only[Ins.row] at h48⊢
 generalize rightI (insW w)=r at h48
 simp only[insW] at h48⊢
 clear hU
 cases r
 all_goals
  repeat' (first|refine ZN ?_|refine Z2 ?_ ?_|(intro h h';try simp[*,-h] at h'))
 all_goals rfl
abbrev rowD (l:List Int):List (List AV):=l.map decR
abbrev rowK (l:List Int):List (List AV):=l.map fun w=>[bv (okR w)]
end Go.Proofs.YtpmoibjpjlhcgaaGreatDoor.K
namespace Go.Proofs.YtpmoibjpjlhcgaaGreatDoor.K
open Go Go.Ab
def Z4 :List AV:=[iv 0,iv 0,iv 0,iv 0]
def fil {α:Type}(f:Int->α)(z:α)(l:List Int)(k:Nat):List α:=(l.take k).map f++List.replicate (l.length - k) z
theorem Aba {α:Type}(f:Int->α)(z:α)(l:List Int)(k:Nat)(h:k<=l.length):(fil f z l k).length=l.length:=by simp[fil];omega
theorem R8 {α:Type}(f:Int->α)(z:α)(l:List Int):fil f z l 0=List.replicate l.length z:=by simp[fil]
theorem fil_all {α:Type}(f:Int->α)(z:α)(l:List Int):fil f z l l.length=l.map f:=by simp[fil]
theorem Aca {α:Type}(f:Int->α)(z:α)(l:List Int)(k:Nat)(h:k<l.length):(fil f z l k)[k]?=some z:=by
 unfold fil
 rw[List.getElem?_append_right (by simp;omega)]
 simp[List.length_take,Nat.min_eq_left (Nat.le_of_lt h),List.getElem?_replicate];omega
theorem Aaa {α:Type}(f:Int->α)(z:α)(l:List Int)(k:Nat)(w:Int)(h:l[k]?=some w):(fil f z l k).set k (f w)=fil f z l (k+1):=by
 have hk:=(List.getElem?_eq_some_iff.1 h).1
 unfold fil
 rw[List.set_append_right _ _ (by simp;omega),List.take_add_one,h,List.map_append]
 obtain⟨m,hm⟩: ∃m,l.length - k=m+1:=⟨l.length - k - 1,by omega⟩
 rw[show l.length - (k+1)=m from by omega,hm,List.replicate_succ]
 simp[Nat.min_eq_left (Nat.le_of_lt hk)]
theorem B1a (w:Int): ∃a b c d:Int,decR w=[iv a,iv b,iv c,iv d]:=by
 unfold decR
 split
 ·exact⟨_,_,_,_,rfl⟩
 ·exact⟨0,0,0,0,rfl⟩
theorem d38 (l:List Int)(data:Int)(hl:l.length<=1048576)(hU: ∀x∈l,U x):(lim Tryz.prog E47 X47).dat 204 [.agg [.sl false 1 (rowW l),iv data]]=some [.vec 4 (rowD l),.vec 1 (rowK l)]:=by
 refine fnW Tryz.func204 rfl rfl We rfl Faa rfl ?_
 have n1:4*l.length<=140737488355328:=by omega
 have n2:l.length<=140737488355328:=by omega
 have n3:(l.length:Int)*32<=140737488355328:=by omega
 have n4:(l.length:Int)<=9223372036854775807:=by omega
 have n5:(l.length:Int)<=140737488355328:=by omega
 repeat' (first|refine ZN ?_|refine Z2 ?_ ?_|(intro h h';try simp[*,-h] at h'))
 refine Ah (n:=l.length) (fun s0 m q=> ∃k:Nat,m=l.length - k/\k<=l.length/\q.fr 6=iv k/\q.fr 1=s0.fr 1/\q.fr 4=s0.fr 4/\q.fr 5=s0.fr 5/\q.hp ⟨0,1,0⟩=s0.hp ⟨0,1,0⟩/\q.hp ⟨0,12,0⟩= .arr 1 4 118 (fil decR Z4 l k) false/\q.hp ⟨0,16,0⟩= .arr 1 1 4 (fil (fun w=>[bv (okR w)]) [bv false] l k) false) ⟨0,by simp,by omega,by simp,by simp,by simp,by simp,by simp,by simp[R8,Z4],by simp[R8]⟩ ?_
 rintro m ⟨fr,hp⟩ ⟨k,rfl,hk,hs6,hs1,hs4,hs5,hh1,hh12,hh16⟩
 simp at hs6 hs1 hs4 hs5 hh1 hh12 hh16
 have f1:=Aba decR Z4 l k hk
 have f2:=Aba (fun w=>[bv (okR w)]) [bv false] l k hk
 by_cases hlt:k<l.length
 ·have hg:=List.getElem?_eq_getElem hlt
  have hw:=wrapN (k:=k) (by omega)
  have hd:=d43 _ (hU _ (List.getElem_mem hlt))
  obtain⟨w,hwl⟩: ∃w,l[k]=w:=⟨_,rfl⟩
  rw[hwl] at hg hd
  have hwe: ∀h,l[k]'h=w:=fun _=>hwl
  have f3:=Aaa decR Z4 l k w hg
  have f4:=Aaa (fun w=>[bv (okR w)]) [bv false] l k w hg
  have f5: ∀h,(fil decR Z4 l k)[k]'h=[iv 0,iv 0,iv 0,iv 0]:=fun h=>by
   have:=Aca decR Z4 l k hlt
   rw[List.getElem?_eq_getElem (by omega)] at this
   simpa[Z4] using this
  have f6: ∀h,(fil (fun w=>[bv (okR w)]) [bv false] l k)[k]'h=[bv false]:=fun h=>by
   have:=Aca (fun w=>[bv (okR w)]) [bv false] l k hlt
   rw[List.getElem?_eq_getElem (by omega)] at this
   simpa using this
  obtain⟨a,b,c,d,hde⟩:=B1a w
  rw[hde] at hd f3
  clear hU
  generalize fil decR Z4 l k=F1 at*
  generalize fil (fun w=>[bv (okR w)]) [bv false] l k=F2 at*
  have hok:((if okR w=true then(0:Int) else 7)==0)=okR w:=by cases okR w<;>rfl
  have hlI:(k:Int)<l.length:=by omega
  repeat' (first|refine ZN ?_|refine Z2 ?_ ?_|(intro h h';try simp[*,-h] at h'))
  exact⟨_,by omega,k+1,rfl,hlt,by simp[*],by simp[*],by simp[*],by simp[*],by simp[*],by simp[*],by simp[*]⟩
 ·obtain rfl:k=l.length:=by omega
  rw[fil_all] at hh12 hh16
  have q1:(rowD l).take l.length=rowD l:=List.take_of_length_le (by simp)
  have q2:(rowK l).take l.length=rowK l:=List.take_of_length_le (by simp)
  exact ZS
end Go.Proofs.YtpmoibjpjlhcgaaGreatDoor.K
namespace Go.Proofs.YtpmoibjpjlhcgaaGreatDoor.K
open Go Go.Ab
attribute [-simp] Prog.bind getCs putCs
attribute [local simp ↓] run_bind
attribute [local simp ↓] Ax
attribute [local simp] Av As facetsC A5 A0
theorem d28 (l:List Int):(lim Tryz.prog E47 X47).dat 94 [.agg [.sl false 1 (rowW l),iv 0]]=some [.agg ([iv 0]++List.replicate 16 (uv 0)++[.vec 1 [],iv 0,.sc (.string ⟨#[]⟩),iv 0,iv 0])]:=by
 refine fnW Tryz.func94 rfl rfl Cqa rfl rtys_94 rfl ?_
 exact ZS
end Go.Proofs.YtpmoibjpjlhcgaaGreatDoor.K
namespace Go.Proofs.YtpmoibjpjlhcgaaGreatDoor.K
open Go Go.Ab
attribute [-simp] Prog.bind getCs putCs
attribute [local simp ↓] run_bind
attribute [local simp ↓] Ax
attribute [local simp] Av As facetsC A5 A0
structure MS where
 pc:Nat
 R:Nat->Int
 steps:Nat
 en:Int
 out:List Int
def setR (R:Nat->Int)(a:Nat)(x:Int):Nat->Int:=fun j=>if j=a then x else R j
def bxc (s:MS)(g n:Nat)(ws:List Int)(inp:ByteArray):List AV:=[iv s.pc,uv (s.R 0),uv (s.R 1),uv (s.R 2),uv (s.R 3),uv (s.R 4),uv (s.R 5),uv (s.R 6),uv (s.R 7),uv (s.R 8),uv (s.R 9),uv (s.R 10),uv (s.R 11),uv (s.R 12),uv (s.R 13),uv (s.R 14),uv (s.R 15),.own ⟨0,13,18⟩ 2 0,iv 0,.sc (.string ⟨#[]⟩),iv s.steps,iv s.en,.own ⟨0,13,23⟩ g s.out.length,.own ⟨0,13,24⟩ 2 n,.own ⟨0,13,25⟩ 2 n,.sl false 1 (rowW ws),.sc (.string inp),.own ⟨0,13,28⟩ 2 n]
theorem h44_1 (x:Int)(s:MS)(g n:Nat)(ws:List Int)(inp:ByteArray)(hpc:s.pc<=1000000)(d:Nat)(hp1:Hp)(hx:hp1 ⟨0,13,0⟩= .box 1 (bxc s g n ws inp) false):(lim Tryz.prog E47 X47).hpc 1 d 258 [.ptr ⟨0,13,0⟩ 1 0,iv 1,uv x] hp1=some (.tup [],upd hp1 ⟨0,13,0⟩ (.box 1 (bxc {s with R:=setR s.R 1 x,pc:=s.pc+1} g n ws inp) false)):=by
 have key: ∃v hp',(lim Tryz.prog E47 X47).hpc 1 d 258 [.ptr ⟨0,13,0⟩ 1 0,iv 1,uv x] hp1=some (v,hp')/\(v= .tup []/\hp'=upd hp1 ⟨0,13,0⟩ (.box 1 (bxc {s with R:=setR s.R 1 x,pc:=s.pc+1} g n ws inp) false)):=by
  refine Aw (R:=fun v hp'=>v= .tup []/\hp'=upd hp1 ⟨0,13,0⟩ (.box 1 (bxc {s with R:=setR s.R 1 x,pc:=s.pc+1} g n ws inp) false)) Tryz.func258 rfl rfl Ck rfl rfl ?_
  have hw:=wrapN (k:=s.pc) (by omega)
  simp only[bxc] at hx
  repeat' (first|refine ZN ?_|refine Z2 ?_ ?_|(intro h h';try simp[*,-h] at h'))
  exact⟨by simp,_,_,rfl,rfl,by simp[bxc,setR]⟩
 obtain⟨v,hp',h1,rfl,rfl⟩:=key
 exact h1
theorem h44_2 (x:Int)(s:MS)(g n:Nat)(ws:List Int)(inp:ByteArray)(hpc:s.pc<=1000000)(d:Nat)(hp1:Hp)(hx:hp1 ⟨0,13,0⟩= .box 1 (bxc s g n ws inp) false):(lim Tryz.prog E47 X47).hpc 1 d 258 [.ptr ⟨0,13,0⟩ 1 0,iv 2,uv x] hp1=some (.tup [],upd hp1 ⟨0,13,0⟩ (.box 1 (bxc {s with R:=setR s.R 2 x,pc:=s.pc+1} g n ws inp) false)):=by
 have key: ∃v hp',(lim Tryz.prog E47 X47).hpc 1 d 258 [.ptr ⟨0,13,0⟩ 1 0,iv 2,uv x] hp1=some (v,hp')/\(v= .tup []/\hp'=upd hp1 ⟨0,13,0⟩ (.box 1 (bxc {s with R:=setR s.R 2 x,pc:=s.pc+1} g n ws inp) false)):=by
  refine Aw (R:=fun v hp'=>v= .tup []/\hp'=upd hp1 ⟨0,13,0⟩ (.box 1 (bxc {s with R:=setR s.R 2 x,pc:=s.pc+1} g n ws inp) false)) Tryz.func258 rfl rfl Ck rfl rfl ?_
  have hw:=wrapN (k:=s.pc) (by omega)
  simp only[bxc] at hx
  repeat' (first|refine ZN ?_|refine Z2 ?_ ?_|(intro h h';try simp[*,-h] at h'))
  exact⟨by simp,_,_,rfl,rfl,by simp[bxc,setR]⟩
 obtain⟨v,hp',h1,rfl,rfl⟩:=key
 exact h1
theorem h44_3 (x:Int)(s:MS)(g n:Nat)(ws:List Int)(inp:ByteArray)(hpc:s.pc<=1000000)(d:Nat)(hp1:Hp)(hx:hp1 ⟨0,13,0⟩= .box 1 (bxc s g n ws inp) false):(lim Tryz.prog E47 X47).hpc 1 d 258 [.ptr ⟨0,13,0⟩ 1 0,iv 3,uv x] hp1=some (.tup [],upd hp1 ⟨0,13,0⟩ (.box 1 (bxc {s with R:=setR s.R 3 x,pc:=s.pc+1} g n ws inp) false)):=by
 have key: ∃v hp',(lim Tryz.prog E47 X47).hpc 1 d 258 [.ptr ⟨0,13,0⟩ 1 0,iv 3,uv x] hp1=some (v,hp')/\(v= .tup []/\hp'=upd hp1 ⟨0,13,0⟩ (.box 1 (bxc {s with R:=setR s.R 3 x,pc:=s.pc+1} g n ws inp) false)):=by
  refine Aw (R:=fun v hp'=>v= .tup []/\hp'=upd hp1 ⟨0,13,0⟩ (.box 1 (bxc {s with R:=setR s.R 3 x,pc:=s.pc+1} g n ws inp) false)) Tryz.func258 rfl rfl Ck rfl rfl ?_
  have hw:=wrapN (k:=s.pc) (by omega)
  simp only[bxc] at hx
  repeat' (first|refine ZN ?_|refine Z2 ?_ ?_|(intro h h';try simp[*,-h] at h'))
  exact⟨by simp,_,_,rfl,rfl,by simp[bxc,setR]⟩
 obtain⟨v,hp',h1,rfl,rfl⟩:=key
 exact h1
theorem h44_4 (x:Int)(s:MS)(g n:Nat)(ws:List Int)(inp:ByteArray)(hpc:s.pc<=1000000)(d:Nat)(hp1:Hp)(hx:hp1 ⟨0,13,0⟩= .box 1 (bxc s g n ws inp) false):(lim Tryz.prog E47 X47).hpc 1 d 258 [.ptr ⟨0,13,0⟩ 1 0,iv 4,uv x] hp1=some (.tup [],upd hp1 ⟨0,13,0⟩ (.box 1 (bxc {s with R:=setR s.R 4 x,pc:=s.pc+1} g n ws inp) false)):=by
 have key: ∃v hp',(lim Tryz.prog E47 X47).hpc 1 d 258 [.ptr ⟨0,13,0⟩ 1 0,iv 4,uv x] hp1=some (v,hp')/\(v= .tup []/\hp'=upd hp1 ⟨0,13,0⟩ (.box 1 (bxc {s with R:=setR s.R 4 x,pc:=s.pc+1} g n ws inp) false)):=by
  refine Aw (R:=fun v hp'=>v= .tup []/\hp'=upd hp1 ⟨0,13,0⟩ (.box 1 (bxc {s with R:=setR s.R 4 x,pc:=s.pc+1} g n ws inp) false)) Tryz.func258 rfl rfl Ck rfl rfl ?_
  have hw:=wrapN (k:=s.pc) (by omega)
  simp only[bxc] at hx
  repeat' (first|refine ZN ?_|refine Z2 ?_ ?_|(intro h h';try simp[*,-h] at h'))
  exact⟨by simp,_,_,rfl,rfl,by simp[bxc,setR]⟩
 obtain⟨v,hp',h1,rfl,rfl⟩:=key
 exact h1
theorem h44_5 (x:Int)(s:MS)(g n:Nat)(ws:List Int)(inp:ByteArray)(hpc:s.pc<=1000000)(d:Nat)(hp1:Hp)(hx:hp1 ⟨0,13,0⟩= .box 1 (bxc s g n ws inp) false):(lim Tryz.prog E47 X47).hpc 1 d 258 [.ptr ⟨0,13,0⟩ 1 0,iv 5,uv x] hp1=some (.tup [],upd hp1 ⟨0,13,0⟩ (.box 1 (bxc {s with R:=setR s.R 5 x,pc:=s.pc+1} g n ws inp) false)):=by
 have key: ∃v hp',(lim Tryz.prog E47 X47).hpc 1 d 258 [.ptr ⟨0,13,0⟩ 1 0,iv 5,uv x] hp1=some (v,hp')/\(v= .tup []/\hp'=upd hp1 ⟨0,13,0⟩ (.box 1 (bxc {s with R:=setR s.R 5 x,pc:=s.pc+1} g n ws inp) false)):=by
  refine Aw (R:=fun v hp'=>v= .tup []/\hp'=upd hp1 ⟨0,13,0⟩ (.box 1 (bxc {s with R:=setR s.R 5 x,pc:=s.pc+1} g n ws inp) false)) Tryz.func258 rfl rfl Ck rfl rfl ?_
  have hw:=wrapN (k:=s.pc) (by omega)
  simp only[bxc] at hx
  repeat' (first|refine ZN ?_|refine Z2 ?_ ?_|(intro h h';try simp[*,-h] at h'))
  exact⟨by simp,_,_,rfl,rfl,by simp[bxc,setR]⟩
 obtain⟨v,hp',h1,rfl,rfl⟩:=key
 exact h1
theorem h44_7 (x:Int)(s:MS)(g n:Nat)(ws:List Int)(inp:ByteArray)(hpc:s.pc<=1000000)(d:Nat)(hp1:Hp)(hx:hp1 ⟨0,13,0⟩= .box 1 (bxc s g n ws inp) false):(lim Tryz.prog E47 X47).hpc 1 d 258 [.ptr ⟨0,13,0⟩ 1 0,iv 7,uv x] hp1=some (.tup [],upd hp1 ⟨0,13,0⟩ (.box 1 (bxc {s with R:=setR s.R 7 x,pc:=s.pc+1} g n ws inp) false)):=by
 have key: ∃v hp',(lim Tryz.prog E47 X47).hpc 1 d 258 [.ptr ⟨0,13,0⟩ 1 0,iv 7,uv x] hp1=some (v,hp')/\(v= .tup []/\hp'=upd hp1 ⟨0,13,0⟩ (.box 1 (bxc {s with R:=setR s.R 7 x,pc:=s.pc+1} g n ws inp) false)):=by
  refine Aw (R:=fun v hp'=>v= .tup []/\hp'=upd hp1 ⟨0,13,0⟩ (.box 1 (bxc {s with R:=setR s.R 7 x,pc:=s.pc+1} g n ws inp) false)) Tryz.func258 rfl rfl Ck rfl rfl ?_
  have hw:=wrapN (k:=s.pc) (by omega)
  simp only[bxc] at hx
  repeat' (first|refine ZN ?_|refine Z2 ?_ ?_|(intro h h';try simp[*,-h] at h'))
  exact⟨by simp,_,_,rfl,rfl,by simp[bxc,setR]⟩
 obtain⟨v,hp',h1,rfl,rfl⟩:=key
 exact h1
theorem h44_8 (x:Int)(s:MS)(g n:Nat)(ws:List Int)(inp:ByteArray)(hpc:s.pc<=1000000)(d:Nat)(hp1:Hp)(hx:hp1 ⟨0,13,0⟩= .box 1 (bxc s g n ws inp) false):(lim Tryz.prog E47 X47).hpc 1 d 258 [.ptr ⟨0,13,0⟩ 1 0,iv 8,uv x] hp1=some (.tup [],upd hp1 ⟨0,13,0⟩ (.box 1 (bxc {s with R:=setR s.R 8 x,pc:=s.pc+1} g n ws inp) false)):=by
 have key: ∃v hp',(lim Tryz.prog E47 X47).hpc 1 d 258 [.ptr ⟨0,13,0⟩ 1 0,iv 8,uv x] hp1=some (v,hp')/\(v= .tup []/\hp'=upd hp1 ⟨0,13,0⟩ (.box 1 (bxc {s with R:=setR s.R 8 x,pc:=s.pc+1} g n ws inp) false)):=by
  refine Aw (R:=fun v hp'=>v= .tup []/\hp'=upd hp1 ⟨0,13,0⟩ (.box 1 (bxc {s with R:=setR s.R 8 x,pc:=s.pc+1} g n ws inp) false)) Tryz.func258 rfl rfl Ck rfl rfl ?_
  have hw:=wrapN (k:=s.pc) (by omega)
  simp only[bxc] at hx
  repeat' (first|refine ZN ?_|refine Z2 ?_ ?_|(intro h h';try simp[*,-h] at h'))
  exact⟨by simp,_,_,rfl,rfl,by simp[bxc,setR]⟩
 obtain⟨v,hp',h1,rfl,rfl⟩:=key
 exact h1
theorem h46 (b:Bool)(to:Nat)(s:MS)(g n:Nat)(ws:List Int)(inp:ByteArray)(hpc:s.pc<=1000000)(d:Nat)(hp1:Hp)(hx:hp1 ⟨0,13,0⟩= .box 1 (bxc s g n ws inp) false):(lim Tryz.prog E47 X47).hpc 1 d 260 [.ptr ⟨0,13,0⟩ 1 0,bv b,iv to] hp1=some (.tup [],upd hp1 ⟨0,13,0⟩ (.box 1 (bxc {s with pc:=if b then to else s.pc+1} g n ws inp) false)):=by
 have key: ∃v hp',(lim Tryz.prog E47 X47).hpc 1 d 260 [.ptr ⟨0,13,0⟩ 1 0,bv b,iv to] hp1=some (v,hp')/\(v= .tup []/\hp'=upd hp1 ⟨0,13,0⟩ (.box 1 (bxc {s with pc:=if b then to else s.pc+1} g n ws inp) false)):=by
  refine Aw (R:=fun v hp'=>v= .tup []/\hp'=upd hp1 ⟨0,13,0⟩ (.box 1 (bxc {s with pc:=if b then to else s.pc+1} g n ws inp) false)) Tryz.func260 rfl rfl Vr rfl rfl ?_
  have hw:=wrapN (k:=s.pc) (by omega)
  simp only[bxc] at hx
  cases b
  all_goals
   repeat' (first|refine ZN ?_|refine Z2 ?_ ?_|(intro h h';try simp[*,-h] at h'))
  all_goals exact⟨by simp,_,_,rfl,rfl,by simp[bxc,setR]⟩
 obtain⟨v,hp',h1,rfl,rfl⟩:=key
 exact h1
end Go.Proofs.YtpmoibjpjlhcgaaGreatDoor.K
namespace Go.Proofs.YtpmoibjpjlhcgaaGreatDoor.K
open Go Go.Ab
attribute [-simp] Prog.bind getCs putCs
attribute [local simp ↓] run_bind
attribute [local simp ↓] Ax
attribute [local simp] Av As facetsC A5 A0
def N5 (l:List Int)(x:Int):List (List AV):=rowB (l++[x])
abbrev rowI (l:List Int):List (List AV):=l.map fun x=>[iv x]
theorem Bj (l:List Int)(i:Nat)(x:Int):(rowI l).set i [iv x]=rowI (l.set i x):=by simp[List.map_set]
def Post (s:MS)(g n:Nat)(ws:List Int)(inp:ByteArray)(cs:List Int)(hp hp':Hp):Prop:=
 hp' ⟨0,13,0⟩= .box 1 (bxc s g n ws inp) false/\hp' ⟨0,13,23⟩= .arr g 1 5 (rowB s.out) false/\hp' ⟨0,13,28⟩= .arr 2 1 3 (rowI cs) false/\cs.length=n/\ ∀y:Nm,y.d=0->y≠⟨0,13,0⟩->y≠⟨0,13,23⟩->y≠⟨0,13,28⟩->hp' y=hp y
end Go.Proofs.YtpmoibjpjlhcgaaGreatDoor.K
namespace Go.Proofs.YtpmoibjpjlhcgaaGreatDoor.K
open Go Go.Ab
attribute [-simp] Prog.bind getCs putCs
attribute [local simp ↓] run_bind
attribute [local simp ↓] Ax
attribute [local simp] Av As facetsC A5 A0
theorem P0 (s:MS)(g n:Nat)(ws:List Int)(inp:ByteArray)(RD RK:List (List AV))(cs:List Int)(v:Nat)(hv:v<=65535)(d:Nat)(hp1:Hp)
  (hx:hp1 ⟨0,13,0⟩= .box 1 (bxc s g n ws inp) false) (ho:hp1 ⟨0,13,23⟩= .arr g 1 5 (rowB s.out) false) (hc:hp1 ⟨0,13,24⟩= .arr 2 4 118 RD false) (hcl:RD.length=n) (hcp:RD[s.pc]?=some [iv 1,iv 1,iv 0,iv v])
  (hk:hp1 ⟨0,13,25⟩= .arr 2 1 4 RK false) (hkl:RK.length=n) (hkp:RK[s.pc]?=some [bv true]) (hn:hp1 ⟨0,13,28⟩= .arr 2 1 3 (rowI cs) false) (hnl:cs.length=n) (hpc:s.pc<n) (hn1:n<=100000) (hst:s.steps<=100000):
  ∃hp' g' cs',(lim Tryz.prog E47 X47).hpc 0 d 205 [.ptr ⟨0,13,0⟩ 1 0] hp1=some (.tup [],hp')/\Post {s with steps:=s.steps+1,R:=setR s.R 1 v,pc:=s.pc+1} g' n ws inp cs' hp1 hp':=by
 have key: ∃z hp',(lim Tryz.prog E47 X47).hpc 0 d 205 [.ptr ⟨0,13,0⟩ 1 0] hp1=some (z,hp')/\(z= .tup []/\ ∃g' cs',Post {s with steps:=s.steps+1,R:=setR s.R 1 v,pc:=s.pc+1} g' n ws inp cs' hp1 hp'):=by
  refine Aw (R:=fun z hp'=>z= .tup []/\ ∃g' cs',Post {s with steps:=s.steps+1,R:=setR s.R 1 v,pc:=s.pc+1} g' n ws inp cs' hp1 hp') Tryz.func205 rfl rfl A4 rfl rfl ?_
  obtain⟨p,R,st,en,out⟩:=s
  simp only[bxc] at hx
  simp only at ho hcp hkp hpc hst
  have hst1:=wrapN (k:=st) (by omega)
  have hp1':=wrapN (k:=p) (by omega)
  have hcg: ∀h,RD[p]'h=[iv 1,iv 1,iv 0,iv v]:=fun h=>by rw[List.getElem?_eq_getElem h] at hcp;exact Option.some.inj hcp
  have hkg: ∀h,RK[p]'h=[bv true]:=fun h=>by rw[List.getElem?_eq_getElem h] at hkp;exact Option.some.inj hkp
  obtain⟨cx,hcx⟩: ∃cx,cs[p]?=some cx:=⟨_,List.getElem?_eq_getElem (by omega)⟩
  have hRl:(rowI cs).length=n:=by simp[hnl]
  have hRp:(rowI cs)[p]?=some [iv cx]:=by rw[List.getElem?_map,hcx];rfl
  have hRg: ∀h,(rowI cs)[p]'h=[iv cx]:=fun h=>by rw[List.getElem?_eq_getElem h] at hRp;exact Option.some.inj hRp
  have hRs:=Bj cs p (IntKind.i64.wrap (cx+1))
  have hcsl:(cs.set p (IntKind.i64.wrap (cx+1))).length=n:=by simp[hnl]
  have hHP:=Lib.hid (⟨rfl,rfl⟩:hp1=hp1/\cs.set p (IntKind.i64.wrap (cx+1))=cs.set p (IntKind.i64.wrap (cx+1)))
  generalize cs.set p (IntKind.i64.wrap (cx+1))=cs' at hRs hcsl
  generalize rowI cs=RN at hn hRl hRp hRg hRs
  clear hcx hnl
  have hpI: ¬(n:Int)<=p:=by omega
  have hp0': ¬(p:Int)<0:=by omega
  have u0:IntKind.u32.wrap (v:Int)=v:=by rw[IntKind.wrap_u32];omega
  have hset:=fun d hp=>h44_1 v ⟨p,R,st+1,en,out⟩ g n ws inp (by simp only;omega) d hp
  simp only[bxc,setR,Int.natCast_add,Int.cast_ofNat_Int,reduceIte,Nat.reduceEqDiff] at hset
  repeat' (first|refine ZN ?_|refine Z2 ?_ ?_|(intro h h';try simp[*,-h] at h'))
  all_goals exact⟨by simp,_,_,rfl,rfl,g,cs',by simp[bxc,setR, *],by simp[*],by simp[*],hcsl,fun y h0 h1 h2 h3=>(by have e1: ∀i,y≠⟨1,i,0⟩:=fun i e=>(by subst e;simp at h0);simp[h1,h2,h3,e1])⟩
 obtain⟨z,hp',h1,rfl,g',cs',h2⟩:=key
 exact⟨hp',g',cs',h1,h2⟩
theorem h39_li8 (s:MS)(g n:Nat)(ws:List Int)(inp:ByteArray)(RD RK:List (List AV))(cs:List Int)(v:Nat)(hv:v<=65535)(d:Nat)(hp1:Hp)
  (hx:hp1 ⟨0,13,0⟩= .box 1 (bxc s g n ws inp) false) (ho:hp1 ⟨0,13,23⟩= .arr g 1 5 (rowB s.out) false) (hc:hp1 ⟨0,13,24⟩= .arr 2 4 118 RD false) (hcl:RD.length=n) (hcp:RD[s.pc]?=some [iv 1,iv 8,iv 0,iv v])
  (hk:hp1 ⟨0,13,25⟩= .arr 2 1 4 RK false) (hkl:RK.length=n) (hkp:RK[s.pc]?=some [bv true]) (hn:hp1 ⟨0,13,28⟩= .arr 2 1 3 (rowI cs) false) (hnl:cs.length=n) (hpc:s.pc<n) (hn1:n<=100000) (hst:s.steps<=100000):
  ∃hp' g' cs',(lim Tryz.prog E47 X47).hpc 0 d 205 [.ptr ⟨0,13,0⟩ 1 0] hp1=some (.tup [],hp')/\Post {s with steps:=s.steps+1,R:=setR s.R 8 v,pc:=s.pc+1} g' n ws inp cs' hp1 hp':=by
 have key: ∃z hp',(lim Tryz.prog E47 X47).hpc 0 d 205 [.ptr ⟨0,13,0⟩ 1 0] hp1=some (z,hp')/\(z= .tup []/\ ∃g' cs',Post {s with steps:=s.steps+1,R:=setR s.R 8 v,pc:=s.pc+1} g' n ws inp cs' hp1 hp'):=by
  refine Aw (R:=fun z hp'=>z= .tup []/\ ∃g' cs',Post {s with steps:=s.steps+1,R:=setR s.R 8 v,pc:=s.pc+1} g' n ws inp cs' hp1 hp') Tryz.func205 rfl rfl A4 rfl rfl ?_
  obtain⟨p,R,st,en,out⟩:=s
  simp only[bxc] at hx
  simp only at ho hcp hkp hpc hst
  have hst1:=wrapN (k:=st) (by omega)
  have hp1':=wrapN (k:=p) (by omega)
  have hcg: ∀h,RD[p]'h=[iv 1,iv 8,iv 0,iv v]:=fun h=>by rw[List.getElem?_eq_getElem h] at hcp;exact Option.some.inj hcp
  have hkg: ∀h,RK[p]'h=[bv true]:=fun h=>by rw[List.getElem?_eq_getElem h] at hkp;exact Option.some.inj hkp
  obtain⟨cx,hcx⟩: ∃cx,cs[p]?=some cx:=⟨_,List.getElem?_eq_getElem (by omega)⟩
  have hRl:(rowI cs).length=n:=by simp[hnl]
  have hRp:(rowI cs)[p]?=some [iv cx]:=by rw[List.getElem?_map,hcx];rfl
  have hRg: ∀h,(rowI cs)[p]'h=[iv cx]:=fun h=>by rw[List.getElem?_eq_getElem h] at hRp;exact Option.some.inj hRp
  have hRs:=Bj cs p (IntKind.i64.wrap (cx+1))
  have hcsl:(cs.set p (IntKind.i64.wrap (cx+1))).length=n:=by simp[hnl]
  have hHP:=Lib.hid (⟨rfl,rfl⟩:hp1=hp1/\cs.set p (IntKind.i64.wrap (cx+1))=cs.set p (IntKind.i64.wrap (cx+1)))
  generalize cs.set p (IntKind.i64.wrap (cx+1))=cs' at hRs hcsl
  generalize rowI cs=RN at hn hRl hRp hRg hRs
  clear hcx hnl
  have hpI: ¬(n:Int)<=p:=by omega
  have hp0': ¬(p:Int)<0:=by omega
  have u0:IntKind.u32.wrap (v:Int)=v:=by rw[IntKind.wrap_u32];omega
  have hset:=fun d hp=>h44_8 v ⟨p,R,st+1,en,out⟩ g n ws inp (by simp only;omega) d hp
  simp only[bxc,setR,Int.natCast_add,Int.cast_ofNat_Int,reduceIte,Nat.reduceEqDiff] at hset
  repeat' (first|refine ZN ?_|refine Z2 ?_ ?_|(intro h h';try simp[*,-h] at h'))
  all_goals exact⟨by simp,_,_,rfl,rfl,g,cs',by simp[bxc,setR, *],by simp[*],by simp[*],hcsl,fun y h0 h1 h2 h3=>(by have e1: ∀i,y≠⟨1,i,0⟩:=fun i e=>(by subst e;simp at h0);simp[h1,h2,h3,e1])⟩
 obtain⟨z,hp',h1,rfl,g',cs',h2⟩:=key
 exact⟨hp',g',cs',h1,h2⟩
theorem h39_li7 (s:MS)(g n:Nat)(ws:List Int)(inp:ByteArray)(RD RK:List (List AV))(cs:List Int)(v:Nat)(hv:v<=65535)(d:Nat)(hp1:Hp)
  (hx:hp1 ⟨0,13,0⟩= .box 1 (bxc s g n ws inp) false) (ho:hp1 ⟨0,13,23⟩= .arr g 1 5 (rowB s.out) false) (hc:hp1 ⟨0,13,24⟩= .arr 2 4 118 RD false) (hcl:RD.length=n) (hcp:RD[s.pc]?=some [iv 1,iv 7,iv 0,iv v])
  (hk:hp1 ⟨0,13,25⟩= .arr 2 1 4 RK false) (hkl:RK.length=n) (hkp:RK[s.pc]?=some [bv true]) (hn:hp1 ⟨0,13,28⟩= .arr 2 1 3 (rowI cs) false) (hnl:cs.length=n) (hpc:s.pc<n) (hn1:n<=100000) (hst:s.steps<=100000):
  ∃hp' g' cs',(lim Tryz.prog E47 X47).hpc 0 d 205 [.ptr ⟨0,13,0⟩ 1 0] hp1=some (.tup [],hp')/\Post {s with steps:=s.steps+1,R:=setR s.R 7 v,pc:=s.pc+1} g' n ws inp cs' hp1 hp':=by
 have key: ∃z hp',(lim Tryz.prog E47 X47).hpc 0 d 205 [.ptr ⟨0,13,0⟩ 1 0] hp1=some (z,hp')/\(z= .tup []/\ ∃g' cs',Post {s with steps:=s.steps+1,R:=setR s.R 7 v,pc:=s.pc+1} g' n ws inp cs' hp1 hp'):=by
  refine Aw (R:=fun z hp'=>z= .tup []/\ ∃g' cs',Post {s with steps:=s.steps+1,R:=setR s.R 7 v,pc:=s.pc+1} g' n ws inp cs' hp1 hp') Tryz.func205 rfl rfl A4 rfl rfl ?_
  obtain⟨p,R,st,en,out⟩:=s
  simp only[bxc] at hx
  simp only at ho hcp hkp hpc hst
  have hst1:=wrapN (k:=st) (by omega)
  have hp1':=wrapN (k:=p) (by omega)
  have hcg: ∀h,RD[p]'h=[iv 1,iv 7,iv 0,iv v]:=fun h=>by rw[List.getElem?_eq_getElem h] at hcp;exact Option.some.inj hcp
  have hkg: ∀h,RK[p]'h=[bv true]:=fun h=>by rw[List.getElem?_eq_getElem h] at hkp;exact Option.some.inj hkp
  obtain⟨cx,hcx⟩: ∃cx,cs[p]?=some cx:=⟨_,List.getElem?_eq_getElem (by omega)⟩
  have hRl:(rowI cs).length=n:=by simp[hnl]
  have hRp:(rowI cs)[p]?=some [iv cx]:=by rw[List.getElem?_map,hcx];rfl
  have hRg: ∀h,(rowI cs)[p]'h=[iv cx]:=fun h=>by rw[List.getElem?_eq_getElem h] at hRp;exact Option.some.inj hRp
  have hRs:=Bj cs p (IntKind.i64.wrap (cx+1))
  have hcsl:(cs.set p (IntKind.i64.wrap (cx+1))).length=n:=by simp[hnl]
  have hHP:=Lib.hid (⟨rfl,rfl⟩:hp1=hp1/\cs.set p (IntKind.i64.wrap (cx+1))=cs.set p (IntKind.i64.wrap (cx+1)))
  generalize cs.set p (IntKind.i64.wrap (cx+1))=cs' at hRs hcsl
  generalize rowI cs=RN at hn hRl hRp hRg hRs
  clear hcx hnl
  have hpI: ¬(n:Int)<=p:=by omega
  have hp0': ¬(p:Int)<0:=by omega
  have u0:IntKind.u32.wrap (v:Int)=v:=by rw[IntKind.wrap_u32];omega
  have hset:=fun d hp=>h44_7 v ⟨p,R,st+1,en,out⟩ g n ws inp (by simp only;omega) d hp
  simp only[bxc,setR,Int.natCast_add,Int.cast_ofNat_Int,reduceIte,Nat.reduceEqDiff] at hset
  repeat' (first|refine ZN ?_|refine Z2 ?_ ?_|(intro h h';try simp[*,-h] at h'))
  all_goals exact⟨by simp,_,_,rfl,rfl,g,cs',by simp[bxc,setR, *],by simp[*],by simp[*],hcsl,fun y h0 h1 h2 h3=>(by have e1: ∀i,y≠⟨1,i,0⟩:=fun i e=>(by subst e;simp at h0);simp[h1,h2,h3,e1])⟩
 obtain⟨z,hp',h1,rfl,g',cs',h2⟩:=key
 exact⟨hp',g',cs',h1,h2⟩
theorem h39_li4 (s:MS)(g n:Nat)(ws:List Int)(inp:ByteArray)(RD RK:List (List AV))(cs:List Int)(v:Nat)(hv:v<=65535)(d:Nat)(hp1:Hp)
  (hx:hp1 ⟨0,13,0⟩= .box 1 (bxc s g n ws inp) false) (ho:hp1 ⟨0,13,23⟩= .arr g 1 5 (rowB s.out) false) (hc:hp1 ⟨0,13,24⟩= .arr 2 4 118 RD false) (hcl:RD.length=n) (hcp:RD[s.pc]?=some [iv 1,iv 4,iv 0,iv v])
  (hk:hp1 ⟨0,13,25⟩= .arr 2 1 4 RK false) (hkl:RK.length=n) (hkp:RK[s.pc]?=some [bv true]) (hn:hp1 ⟨0,13,28⟩= .arr 2 1 3 (rowI cs) false) (hnl:cs.length=n) (hpc:s.pc<n) (hn1:n<=100000) (hst:s.steps<=100000):
  ∃hp' g' cs',(lim Tryz.prog E47 X47).hpc 0 d 205 [.ptr ⟨0,13,0⟩ 1 0] hp1=some (.tup [],hp')/\Post {s with steps:=s.steps+1,R:=setR s.R 4 v,pc:=s.pc+1} g' n ws inp cs' hp1 hp':=by
 have key: ∃z hp',(lim Tryz.prog E47 X47).hpc 0 d 205 [.ptr ⟨0,13,0⟩ 1 0] hp1=some (z,hp')/\(z= .tup []/\ ∃g' cs',Post {s with steps:=s.steps+1,R:=setR s.R 4 v,pc:=s.pc+1} g' n ws inp cs' hp1 hp'):=by
  refine Aw (R:=fun z hp'=>z= .tup []/\ ∃g' cs',Post {s with steps:=s.steps+1,R:=setR s.R 4 v,pc:=s.pc+1} g' n ws inp cs' hp1 hp') Tryz.func205 rfl rfl A4 rfl rfl ?_
  obtain⟨p,R,st,en,out⟩:=s
  simp only[bxc] at hx
  simp only at ho hcp hkp hpc hst
  have hst1:=wrapN (k:=st) (by omega)
  have hp1':=wrapN (k:=p) (by omega)
  have hcg: ∀h,RD[p]'h=[iv 1,iv 4,iv 0,iv v]:=fun h=>by rw[List.getElem?_eq_getElem h] at hcp;exact Option.some.inj hcp
  have hkg: ∀h,RK[p]'h=[bv true]:=fun h=>by rw[List.getElem?_eq_getElem h] at hkp;exact Option.some.inj hkp
  obtain⟨cx,hcx⟩: ∃cx,cs[p]?=some cx:=⟨_,List.getElem?_eq_getElem (by omega)⟩
  have hRl:(rowI cs).length=n:=by simp[hnl]
  have hRp:(rowI cs)[p]?=some [iv cx]:=by rw[List.getElem?_map,hcx];rfl
  have hRg: ∀h,(rowI cs)[p]'h=[iv cx]:=fun h=>by rw[List.getElem?_eq_getElem h] at hRp;exact Option.some.inj hRp
  have hRs:=Bj cs p (IntKind.i64.wrap (cx+1))
  have hcsl:(cs.set p (IntKind.i64.wrap (cx+1))).length=n:=by simp[hnl]
  have hHP:=Lib.hid (⟨rfl,rfl⟩:hp1=hp1/\cs.set p (IntKind.i64.wrap (cx+1))=cs.set p (IntKind.i64.wrap (cx+1)))
  generalize cs.set p (IntKind.i64.wrap (cx+1))=cs' at hRs hcsl
  generalize rowI cs=RN at hn hRl hRp hRg hRs
  clear hcx hnl
  have hpI: ¬(n:Int)<=p:=by omega
  have hp0': ¬(p:Int)<0:=by omega
  have u0:IntKind.u32.wrap (v:Int)=v:=by rw[IntKind.wrap_u32];omega
  have hset:=fun d hp=>h44_4 v ⟨p,R,st+1,en,out⟩ g n ws inp (by simp only;omega) d hp
  simp only[bxc,setR,Int.natCast_add,Int.cast_ofNat_Int,reduceIte,Nat.reduceEqDiff] at hset
  repeat' (first|refine ZN ?_|refine Z2 ?_ ?_|(intro h h';try simp[*,-h] at h'))
  all_goals exact⟨by simp,_,_,rfl,rfl,g,cs',by simp[bxc,setR, *],by simp[*],by simp[*],hcsl,fun y h0 h1 h2 h3=>(by have e1: ∀i,y≠⟨1,i,0⟩:=fun i e=>(by subst e;simp at h0);simp[h1,h2,h3,e1])⟩
 obtain⟨z,hp',h1,rfl,g',cs',h2⟩:=key
 exact⟨hp',g',cs',h1,h2⟩
theorem h39_mov (s:MS)(g n:Nat)(ws:List Int)(inp:ByteArray)(RD RK:List (List AV))(cs:List Int)(d:Nat)(hp1:Hp)
  (hx:hp1 ⟨0,13,0⟩= .box 1 (bxc s g n ws inp) false) (ho:hp1 ⟨0,13,23⟩= .arr g 1 5 (rowB s.out) false) (hc:hp1 ⟨0,13,24⟩= .arr 2 4 118 RD false) (hcl:RD.length=n) (hcp:RD[s.pc]?=some [iv 3,iv 2,iv 4,iv 0])
  (hk:hp1 ⟨0,13,25⟩= .arr 2 1 4 RK false) (hkl:RK.length=n) (hkp:RK[s.pc]?=some [bv true]) (hn:hp1 ⟨0,13,28⟩= .arr 2 1 3 (rowI cs) false) (hnl:cs.length=n) (hpc:s.pc<n) (hn1:n<=100000) (hst:s.steps<=100000):
  ∃hp' g' cs',(lim Tryz.prog E47 X47).hpc 0 d 205 [.ptr ⟨0,13,0⟩ 1 0] hp1=some (.tup [],hp')/\Post {s with steps:=s.steps+1,R:=setR s.R 2 (s.R 4),pc:=s.pc+1} g' n ws inp cs' hp1 hp':=by
 have key: ∃z hp',(lim Tryz.prog E47 X47).hpc 0 d 205 [.ptr ⟨0,13,0⟩ 1 0] hp1=some (z,hp')/\(z= .tup []/\ ∃g' cs',Post {s with steps:=s.steps+1,R:=setR s.R 2 (s.R 4),pc:=s.pc+1} g' n ws inp cs' hp1 hp'):=by
  refine Aw (R:=fun z hp'=>z= .tup []/\ ∃g' cs',Post {s with steps:=s.steps+1,R:=setR s.R 2 (s.R 4),pc:=s.pc+1} g' n ws inp cs' hp1 hp') Tryz.func205 rfl rfl A4 rfl rfl ?_
  obtain⟨p,R,st,en,out⟩:=s
  simp only[bxc] at hx
  simp only at ho hcp hkp hpc hst
  have hst1:=wrapN (k:=st) (by omega)
  have hp1':=wrapN (k:=p) (by omega)
  have hcg: ∀h,RD[p]'h=[iv 3,iv 2,iv 4,iv 0]:=fun h=>by rw[List.getElem?_eq_getElem h] at hcp;exact Option.some.inj hcp
  have hkg: ∀h,RK[p]'h=[bv true]:=fun h=>by rw[List.getElem?_eq_getElem h] at hkp;exact Option.some.inj hkp
  obtain⟨cx,hcx⟩: ∃cx,cs[p]?=some cx:=⟨_,List.getElem?_eq_getElem (by omega)⟩
  have hRl:(rowI cs).length=n:=by simp[hnl]
  have hRp:(rowI cs)[p]?=some [iv cx]:=by rw[List.getElem?_map,hcx];rfl
  have hRg: ∀h,(rowI cs)[p]'h=[iv cx]:=fun h=>by rw[List.getElem?_eq_getElem h] at hRp;exact Option.some.inj hRp
  have hRs:=Bj cs p (IntKind.i64.wrap (cx+1))
  have hcsl:(cs.set p (IntKind.i64.wrap (cx+1))).length=n:=by simp[hnl]
  have hHP:=Lib.hid (⟨rfl,rfl⟩:hp1=hp1/\cs.set p (IntKind.i64.wrap (cx+1))=cs.set p (IntKind.i64.wrap (cx+1)))
  generalize cs.set p (IntKind.i64.wrap (cx+1))=cs' at hRs hcsl
  generalize rowI cs=RN at hn hRl hRp hRg hRs
  clear hcx hnl
  have hpI: ¬(n:Int)<=p:=by omega
  have hp0': ¬(p:Int)<0:=by omega
  have hset:=fun d hp=>h44_2 (R 4) ⟨p,R,st+1,en,out⟩ g n ws inp (by simp only;omega) d hp
  simp only[bxc,setR,Int.natCast_add,Int.cast_ofNat_Int,reduceIte,Nat.reduceEqDiff] at hset
  repeat' (first|refine ZN ?_|refine Z2 ?_ ?_|(intro h h';try simp[*,-h] at h'))
  all_goals exact⟨by simp,_,_,rfl,rfl,g,cs',by simp[bxc,setR, *],by simp[*],by simp[*],hcsl,fun y h0 h1 h2 h3=>(by have e1: ∀i,y≠⟨1,i,0⟩:=fun i e=>(by subst e;simp at h0);simp[h1,h2,h3,e1])⟩
 obtain⟨z,hp',h1,rfl,g',cs',h2⟩:=key
 exact⟨hp',g',cs',h1,h2⟩
theorem Mu (s:MS)(g n:Nat)(ws:List Int)(inp:ByteArray)(RD RK:List (List AV))(cs:List Int)(d:Nat)(hp1:Hp)
  (hx:hp1 ⟨0,13,0⟩= .box 1 (bxc s g n ws inp) false) (ho:hp1 ⟨0,13,23⟩= .arr g 1 5 (rowB s.out) false) (hc:hp1 ⟨0,13,24⟩= .arr 2 4 118 RD false) (hcl:RD.length=n) (hcp:RD[s.pc]?=some [iv 21,iv 15,iv 0,iv 19])
  (hk:hp1 ⟨0,13,25⟩= .arr 2 1 4 RK false) (hkl:RK.length=n) (hkp:RK[s.pc]?=some [bv true]) (hn:hp1 ⟨0,13,28⟩= .arr 2 1 3 (rowI cs) false) (hnl:cs.length=n) (hpc:s.pc<n) (hn1:n<=100000) (hst:s.steps<=100000):
  ∃hp' g' cs',(lim Tryz.prog E47 X47).hpc 0 d 205 [.ptr ⟨0,13,0⟩ 1 0] hp1=some (.tup [],hp')/\Post {s with steps:=s.steps+1,R:=setR s.R 15 (s.pc+1),pc:=19} g' n ws inp cs' hp1 hp':=by
 have key: ∃z hp',(lim Tryz.prog E47 X47).hpc 0 d 205 [.ptr ⟨0,13,0⟩ 1 0] hp1=some (z,hp')/\(z= .tup []/\ ∃g' cs',Post {s with steps:=s.steps+1,R:=setR s.R 15 (s.pc+1),pc:=19} g' n ws inp cs' hp1 hp'):=by
  refine Aw (R:=fun z hp'=>z= .tup []/\ ∃g' cs',Post {s with steps:=s.steps+1,R:=setR s.R 15 (s.pc+1),pc:=19} g' n ws inp cs' hp1 hp') Tryz.func205 rfl rfl A4 rfl rfl ?_
  obtain⟨p,R,st,en,out⟩:=s
  simp only[bxc] at hx
  simp only at ho hcp hkp hpc hst
  have hst1:=wrapN (k:=st) (by omega)
  have hp1':=wrapN (k:=p) (by omega)
  have hcg: ∀h,RD[p]'h=[iv 21,iv 15,iv 0,iv 19]:=fun h=>by rw[List.getElem?_eq_getElem h] at hcp;exact Option.some.inj hcp
  have hkg: ∀h,RK[p]'h=[bv true]:=fun h=>by rw[List.getElem?_eq_getElem h] at hkp;exact Option.some.inj hkp
  obtain⟨cx,hcx⟩: ∃cx,cs[p]?=some cx:=⟨_,List.getElem?_eq_getElem (by omega)⟩
  have hRl:(rowI cs).length=n:=by simp[hnl]
  have hRp:(rowI cs)[p]?=some [iv cx]:=by rw[List.getElem?_map,hcx];rfl
  have hRg: ∀h,(rowI cs)[p]'h=[iv cx]:=fun h=>by rw[List.getElem?_eq_getElem h] at hRp;exact Option.some.inj hRp
  have hRs:=Bj cs p (IntKind.i64.wrap (cx+1))
  have hcsl:(cs.set p (IntKind.i64.wrap (cx+1))).length=n:=by simp[hnl]
  have hHP:=Lib.hid (⟨rfl,rfl⟩:hp1=hp1/\cs.set p (IntKind.i64.wrap (cx+1))=cs.set p (IntKind.i64.wrap (cx+1)))
  generalize cs.set p (IntKind.i64.wrap (cx+1))=cs' at hRs hcsl
  generalize rowI cs=RN at hn hRl hRp hRg hRs
  clear hcx hnl
  have hpI: ¬(n:Int)<=p:=by omega
  have hp0': ¬(p:Int)<0:=by omega
  have u0:IntKind.u32.wrap (p:Int)=p:=by rw[IntKind.wrap_u32];omega
  have u1:IntKind.u32.wrap ((p:Int)+1)=(p:Int)+1:=by rw[IntKind.wrap_u32];omega
  repeat' (first|refine ZN ?_|refine Z2 ?_ ?_|(intro h h';try simp[*,-h] at h'))
  all_goals exact⟨by simp,_,_,rfl,rfl,g,cs',by simp[bxc,setR, *],by simp[*],by simp[*],hcsl,fun y h0 h1 h2 h3=>(by have e1: ∀i,y≠⟨1,i,0⟩:=fun i e=>(by subst e;simp at h0);simp[h1,h2,h3,e1])⟩
 obtain⟨z,hp',h1,rfl,g',cs',h2⟩:=key
 exact⟨hp',g',cs',h1,h2⟩
theorem h39_ret (s:MS)(g n:Nat)(ws:List Int)(inp:ByteArray)(RD RK:List (List AV))(cs:List Int)(q:Nat)(hq:s.R 15=q)(hq1:q<=100000)(d:Nat)(hp1:Hp)
  (hx:hp1 ⟨0,13,0⟩= .box 1 (bxc s g n ws inp) false) (ho:hp1 ⟨0,13,23⟩= .arr g 1 5 (rowB s.out) false) (hc:hp1 ⟨0,13,24⟩= .arr 2 4 118 RD false) (hcl:RD.length=n) (hcp:RD[s.pc]?=some [iv 22,iv 15,iv 0,iv 0])
  (hk:hp1 ⟨0,13,25⟩= .arr 2 1 4 RK false) (hkl:RK.length=n) (hkp:RK[s.pc]?=some [bv true]) (hn:hp1 ⟨0,13,28⟩= .arr 2 1 3 (rowI cs) false) (hnl:cs.length=n) (hpc:s.pc<n) (hn1:n<=100000) (hst:s.steps<=100000):
  ∃hp' g' cs',(lim Tryz.prog E47 X47).hpc 0 d 205 [.ptr ⟨0,13,0⟩ 1 0] hp1=some (.tup [],hp')/\Post {s with steps:=s.steps+1,pc:=q} g' n ws inp cs' hp1 hp':=by
 have key: ∃z hp',(lim Tryz.prog E47 X47).hpc 0 d 205 [.ptr ⟨0,13,0⟩ 1 0] hp1=some (z,hp')/\(z= .tup []/\ ∃g' cs',Post {s with steps:=s.steps+1,pc:=q} g' n ws inp cs' hp1 hp'):=by
  refine Aw (R:=fun z hp'=>z= .tup []/\ ∃g' cs',Post {s with steps:=s.steps+1,pc:=q} g' n ws inp cs' hp1 hp') Tryz.func205 rfl rfl A4 rfl rfl ?_
  obtain⟨p,R,st,en,out⟩:=s
  simp only[bxc] at hx
  simp only at ho hcp hkp hpc hst
  have hst1:=wrapN (k:=st) (by omega)
  have hp1':=wrapN (k:=p) (by omega)
  have hcg: ∀h,RD[p]'h=[iv 22,iv 15,iv 0,iv 0]:=fun h=>by rw[List.getElem?_eq_getElem h] at hcp;exact Option.some.inj hcp
  have hkg: ∀h,RK[p]'h=[bv true]:=fun h=>by rw[List.getElem?_eq_getElem h] at hkp;exact Option.some.inj hkp
  obtain⟨cx,hcx⟩: ∃cx,cs[p]?=some cx:=⟨_,List.getElem?_eq_getElem (by omega)⟩
  have hRl:(rowI cs).length=n:=by simp[hnl]
  have hRp:(rowI cs)[p]?=some [iv cx]:=by rw[List.getElem?_map,hcx];rfl
  have hRg: ∀h,(rowI cs)[p]'h=[iv cx]:=fun h=>by rw[List.getElem?_eq_getElem h] at hRp;exact Option.some.inj hRp
  have hRs:=Bj cs p (IntKind.i64.wrap (cx+1))
  have hcsl:(cs.set p (IntKind.i64.wrap (cx+1))).length=n:=by simp[hnl]
  have hHP:=Lib.hid (⟨rfl,rfl⟩:hp1=hp1/\cs.set p (IntKind.i64.wrap (cx+1))=cs.set p (IntKind.i64.wrap (cx+1)))
  generalize cs.set p (IntKind.i64.wrap (cx+1))=cs' at hRs hcsl
  generalize rowI cs=RN at hn hRl hRp hRg hRs
  clear hcx hnl
  have hpI: ¬(n:Int)<=p:=by omega
  have hp0': ¬(p:Int)<0:=by omega
  simp only at hq
  have u0:IntKind.i64.wrap (q:Int)=q:=Ag (by omega) (by omega)
  repeat' (first|refine ZN ?_|refine Z2 ?_ ?_|(intro h h';try simp[*,-h] at h'))
  all_goals exact⟨by simp,_,_,rfl,rfl,g,cs',by simp[bxc,setR, *],by simp[*],by simp[*],hcsl,fun y h0 h1 h2 h3=>(by have e1: ∀i,y≠⟨1,i,0⟩:=fun i e=>(by subst e;simp at h0);simp[h1,h2,h3,e1])⟩
 obtain⟨z,hp',h1,rfl,g',cs',h2⟩:=key
 exact⟨hp',g',cs',h1,h2⟩
end Go.Proofs.YtpmoibjpjlhcgaaGreatDoor.K
namespace Go.Proofs.YtpmoibjpjlhcgaaGreatDoor.K
open Go Go.Ab
attribute [-simp] Prog.bind getCs putCs
attribute [local simp ↓] run_bind
attribute [local simp ↓] Ax
attribute [local simp] Av As facetsC A5 A0
theorem Hla (s:MS)(g n:Nat)(ws:List Int)(inp:ByteArray)(RD RK:List (List AV))(cs:List Int)(d:Nat)(hp1:Hp)
  (hx:hp1 ⟨0,13,0⟩= .box 1 (bxc s g n ws inp) false) (ho:hp1 ⟨0,13,23⟩= .arr g 1 5 (rowB s.out) false) (hc:hp1 ⟨0,13,24⟩= .arr 2 4 118 RD false) (hcl:RD.length=n) (hcp:RD[s.pc]?=some [iv 26,iv 0,iv 0,iv 0])
  (hk:hp1 ⟨0,13,25⟩= .arr 2 1 4 RK false) (hkl:RK.length=n) (hkp:RK[s.pc]?=some [bv true]) (hn:hp1 ⟨0,13,28⟩= .arr 2 1 3 (rowI cs) false) (hnl:cs.length=n) (hpc:s.pc<n) (hn1:n<=100000) (hst:s.steps<=100000):
  ∃hp' g' cs',(lim Tryz.prog E47 X47).hpc 0 d 205 [.ptr ⟨0,13,0⟩ 1 0] hp1=some (.tup [],hp')/\Post {s with steps:=s.steps+1,en:=1} g' n ws inp cs' hp1 hp':=by
 have key: ∃z hp',(lim Tryz.prog E47 X47).hpc 0 d 205 [.ptr ⟨0,13,0⟩ 1 0] hp1=some (z,hp')/\(z= .tup []/\ ∃g' cs',Post {s with steps:=s.steps+1,en:=1} g' n ws inp cs' hp1 hp'):=by
  refine Aw (R:=fun z hp'=>z= .tup []/\ ∃g' cs',Post {s with steps:=s.steps+1,en:=1} g' n ws inp cs' hp1 hp') Tryz.func205 rfl rfl A4 rfl rfl ?_
  obtain⟨p,R,st,en,out⟩:=s
  simp only[bxc] at hx
  simp only at ho hcp hkp hpc hst
  have hst1:=wrapN (k:=st) (by omega)
  have hp1':=wrapN (k:=p) (by omega)
  have hcg: ∀h,RD[p]'h=[iv 26,iv 0,iv 0,iv 0]:=fun h=>by rw[List.getElem?_eq_getElem h] at hcp;exact Option.some.inj hcp
  have hkg: ∀h,RK[p]'h=[bv true]:=fun h=>by rw[List.getElem?_eq_getElem h] at hkp;exact Option.some.inj hkp
  obtain⟨cx,hcx⟩: ∃cx,cs[p]?=some cx:=⟨_,List.getElem?_eq_getElem (by omega)⟩
  have hRl:(rowI cs).length=n:=by simp[hnl]
  have hRp:(rowI cs)[p]?=some [iv cx]:=by rw[List.getElem?_map,hcx];rfl
  have hRg: ∀h,(rowI cs)[p]'h=[iv cx]:=fun h=>by rw[List.getElem?_eq_getElem h] at hRp;exact Option.some.inj hRp
  have hRs:=Bj cs p (IntKind.i64.wrap (cx+1))
  have hcsl:(cs.set p (IntKind.i64.wrap (cx+1))).length=n:=by simp[hnl]
  have hHP:=Lib.hid (⟨rfl,rfl⟩:hp1=hp1/\cs.set p (IntKind.i64.wrap (cx+1))=cs.set p (IntKind.i64.wrap (cx+1)))
  generalize cs.set p (IntKind.i64.wrap (cx+1))=cs' at hRs hcsl
  generalize rowI cs=RN at hn hRl hRp hRg hRs
  clear hcx hnl
  have hpI: ¬(n:Int)<=p:=by omega
  have hp0': ¬(p:Int)<0:=by omega
  repeat' (first|refine ZN ?_|refine Z2 ?_ ?_|(intro h h';try simp[*,-h] at h'))
  all_goals exact⟨by simp,_,_,rfl,rfl,g,cs',by simp[bxc,setR, *],by simp[*],by simp[*],hcsl,fun y h0 h1 h2 h3=>(by have e1: ∀i,y≠⟨1,i,0⟩:=fun i e=>(by subst e;simp at h0);simp[h1,h2,h3,e1])⟩
 obtain⟨z,hp',h1,rfl,g',cs',h2⟩:=key
 exact⟨hp',g',cs',h1,h2⟩
theorem h39_ldc (s:MS)(g n:Nat)(ws:List Int)(inp:ByteArray)(RD RK:List (List AV))(cs:List Int)(j:Nat)(hj:s.R 3=j)(hjl:j<ws.length)(hwl:ws.length<=100000)(d:Nat)(hp1:Hp)
  (hx:hp1 ⟨0,13,0⟩= .box 1 (bxc s g n ws inp) false) (ho:hp1 ⟨0,13,23⟩= .arr g 1 5 (rowB s.out) false) (hc:hp1 ⟨0,13,24⟩= .arr 2 4 118 RD false) (hcl:RD.length=n) (hcp:RD[s.pc]?=some [iv 27,iv 2,iv 3,iv 0])
  (hk:hp1 ⟨0,13,25⟩= .arr 2 1 4 RK false) (hkl:RK.length=n) (hkp:RK[s.pc]?=some [bv true]) (hn:hp1 ⟨0,13,28⟩= .arr 2 1 3 (rowI cs) false) (hnl:cs.length=n) (hpc:s.pc<n) (hn1:n<=100000) (hst:s.steps<=100000):
  ∃hp' g' cs',(lim Tryz.prog E47 X47).hpc 0 d 205 [.ptr ⟨0,13,0⟩ 1 0] hp1=some (.tup [],hp')/\Post {s with steps:=s.steps+1,R:=setR s.R 2 ws[j],pc:=s.pc+1} g' n ws inp cs' hp1 hp':=by
 have key: ∃z hp',(lim Tryz.prog E47 X47).hpc 0 d 205 [.ptr ⟨0,13,0⟩ 1 0] hp1=some (z,hp')/\(z= .tup []/\ ∃g' cs',Post {s with steps:=s.steps+1,R:=setR s.R 2 ws[j],pc:=s.pc+1} g' n ws inp cs' hp1 hp'):=by
  refine Aw (R:=fun z hp'=>z= .tup []/\ ∃g' cs',Post {s with steps:=s.steps+1,R:=setR s.R 2 ws[j],pc:=s.pc+1} g' n ws inp cs' hp1 hp') Tryz.func205 rfl rfl A4 rfl rfl ?_
  obtain⟨p,R,st,en,out⟩:=s
  simp only[bxc] at hx
  simp only at ho hcp hkp hpc hst
  have hst1:=wrapN (k:=st) (by omega)
  have hp1':=wrapN (k:=p) (by omega)
  have hcg: ∀h,RD[p]'h=[iv 27,iv 2,iv 3,iv 0]:=fun h=>by rw[List.getElem?_eq_getElem h] at hcp;exact Option.some.inj hcp
  have hkg: ∀h,RK[p]'h=[bv true]:=fun h=>by rw[List.getElem?_eq_getElem h] at hkp;exact Option.some.inj hkp
  obtain⟨cx,hcx⟩: ∃cx,cs[p]?=some cx:=⟨_,List.getElem?_eq_getElem (by omega)⟩
  have hRl:(rowI cs).length=n:=by simp[hnl]
  have hRp:(rowI cs)[p]?=some [iv cx]:=by rw[List.getElem?_map,hcx];rfl
  have hRg: ∀h,(rowI cs)[p]'h=[iv cx]:=fun h=>by rw[List.getElem?_eq_getElem h] at hRp;exact Option.some.inj hRp
  have hRs:=Bj cs p (IntKind.i64.wrap (cx+1))
  have hcsl:(cs.set p (IntKind.i64.wrap (cx+1))).length=n:=by simp[hnl]
  have hHP:=Lib.hid (⟨rfl,rfl⟩:hp1=hp1/\cs.set p (IntKind.i64.wrap (cx+1))=cs.set p (IntKind.i64.wrap (cx+1)))
  generalize cs.set p (IntKind.i64.wrap (cx+1))=cs' at hRs hcsl
  generalize rowI cs=RN at hn hRl hRp hRg hRs
  clear hcx hnl
  have hpI: ¬(n:Int)<=p:=by omega
  have hp0': ¬(p:Int)<0:=by omega
  simp only at hj
  have h45:=d45 ws j (by omega) hjl
  have hset:=fun d hp=>h44_2 ws[j] ⟨p,R,st+1,en,out⟩ g n ws inp (by simp only;omega) d hp
  simp only[bxc,setR,Int.natCast_add,Int.cast_ofNat_Int,reduceIte,Nat.reduceEqDiff] at hset
  repeat' (first|refine ZN ?_|refine Z2 ?_ ?_|(intro h h';try simp[*,-h] at h'))
  all_goals exact⟨by simp,_,_,rfl,rfl,g,cs',by simp[bxc,setR, *],by simp[*],by simp[*],hcsl,fun y h0 h1 h2 h3=>(by have e1: ∀i,y≠⟨1,i,0⟩:=fun i e=>(by subst e;simp at h0);simp[h1,h2,h3,e1])⟩
 obtain⟨z,hp',h1,rfl,g',cs',h2⟩:=key
 exact⟨hp',g',cs',h1,h2⟩
theorem h39_add (s:MS)(g n:Nat)(ws:List Int)(inp:ByteArray)(RD RK:List (List AV))(cs:List Int)(h3:U (s.R 3))(h7:U (s.R 7))(d:Nat)(hp1:Hp)
  (hx:hp1 ⟨0,13,0⟩= .box 1 (bxc s g n ws inp) false) (ho:hp1 ⟨0,13,23⟩= .arr g 1 5 (rowB s.out) false) (hc:hp1 ⟨0,13,24⟩= .arr 2 4 118 RD false) (hcl:RD.length=n) (hcp:RD[s.pc]?=some [iv 4,iv 3,iv 3,iv 7])
  (hk:hp1 ⟨0,13,25⟩= .arr 2 1 4 RK false) (hkl:RK.length=n) (hkp:RK[s.pc]?=some [bv true]) (hn:hp1 ⟨0,13,28⟩= .arr 2 1 3 (rowI cs) false) (hnl:cs.length=n) (hpc:s.pc<n) (hn1:n<=100000) (hst:s.steps<=100000):
  ∃hp' g' cs',(lim Tryz.prog E47 X47).hpc 0 d 205 [.ptr ⟨0,13,0⟩ 1 0] hp1=some (.tup [],hp')/\Post {s with steps:=s.steps+1,R:=setR s.R 3 ((s.R 3+s.R 7)%4294967296),pc:=s.pc+1} g' n ws inp cs' hp1 hp':=by
 have key: ∃z hp',(lim Tryz.prog E47 X47).hpc 0 d 205 [.ptr ⟨0,13,0⟩ 1 0] hp1=some (z,hp')/\(z= .tup []/\ ∃g' cs',Post {s with steps:=s.steps+1,R:=setR s.R 3 ((s.R 3+s.R 7)%4294967296),pc:=s.pc+1} g' n ws inp cs' hp1 hp'):=by
  refine Aw (R:=fun z hp'=>z= .tup []/\ ∃g' cs',Post {s with steps:=s.steps+1,R:=setR s.R 3 ((s.R 3+s.R 7)%4294967296),pc:=s.pc+1} g' n ws inp cs' hp1 hp') Tryz.func205 rfl rfl A4 rfl rfl ?_
  obtain⟨p,R,st,en,out⟩:=s
  simp only[bxc] at hx
  simp only at ho hcp hkp hpc hst
  have hst1:=wrapN (k:=st) (by omega)
  have hp1':=wrapN (k:=p) (by omega)
  have hcg: ∀h,RD[p]'h=[iv 4,iv 3,iv 3,iv 7]:=fun h=>by rw[List.getElem?_eq_getElem h] at hcp;exact Option.some.inj hcp
  have hkg: ∀h,RK[p]'h=[bv true]:=fun h=>by rw[List.getElem?_eq_getElem h] at hkp;exact Option.some.inj hkp
  obtain⟨cx,hcx⟩: ∃cx,cs[p]?=some cx:=⟨_,List.getElem?_eq_getElem (by omega)⟩
  have hRl:(rowI cs).length=n:=by simp[hnl]
  have hRp:(rowI cs)[p]?=some [iv cx]:=by rw[List.getElem?_map,hcx];rfl
  have hRg: ∀h,(rowI cs)[p]'h=[iv cx]:=fun h=>by rw[List.getElem?_eq_getElem h] at hRp;exact Option.some.inj hRp
  have hRs:=Bj cs p (IntKind.i64.wrap (cx+1))
  have hcsl:(cs.set p (IntKind.i64.wrap (cx+1))).length=n:=by simp[hnl]
  have hHP:=Lib.hid (⟨rfl,rfl⟩:hp1=hp1/\cs.set p (IntKind.i64.wrap (cx+1))=cs.set p (IntKind.i64.wrap (cx+1)))
  generalize cs.set p (IntKind.i64.wrap (cx+1))=cs' at hRs hcsl
  generalize rowI cs=RN at hn hRl hRp hRg hRs
  clear hcx hnl
  have hpI: ¬(n:Int)<=p:=by omega
  have hp0': ¬(p:Int)<0:=by omega
  have h47:=d47_4 (R 3) (R 7) h3 h7
  have hset:=fun d hp=>h44_3 ((R 3+R 7)%4294967296) ⟨p,R,st+1,en,out⟩ g n ws inp (by simp only;omega) d hp
  simp only[bxc,setR,Int.natCast_add,Int.cast_ofNat_Int,reduceIte,Nat.reduceEqDiff] at hset
  repeat' (first|refine ZN ?_|refine Z2 ?_ ?_|(intro h h';try simp[*,-h] at h'))
  all_goals exact⟨by simp,_,_,rfl,rfl,g,cs',by simp[bxc,setR, *],by simp[*],by simp[*],hcsl,fun y h0 h1 h2 h3=>(by have e1: ∀i,y≠⟨1,i,0⟩:=fun i e=>(by subst e;simp at h0);simp[h1,h2,h3,e1])⟩
 obtain⟨z,hp',h1,rfl,g',cs',h2⟩:=key
 exact⟨hp',g',cs',h1,h2⟩
theorem h39_lt (s:MS)(g n:Nat)(ws:List Int)(inp:ByteArray)(RD RK:List (List AV))(cs:List Int)(h3:U (s.R 3))(h4:U (s.R 4))(d:Nat)(hp1:Hp)
  (hx:hp1 ⟨0,13,0⟩= .box 1 (bxc s g n ws inp) false) (ho:hp1 ⟨0,13,23⟩= .arr g 1 5 (rowB s.out) false) (hc:hp1 ⟨0,13,24⟩= .arr 2 4 118 RD false) (hcl:RD.length=n) (hcp:RD[s.pc]?=some [iv 14,iv 5,iv 3,iv 4])
  (hk:hp1 ⟨0,13,25⟩= .arr 2 1 4 RK false) (hkl:RK.length=n) (hkp:RK[s.pc]?=some [bv true]) (hn:hp1 ⟨0,13,28⟩= .arr 2 1 3 (rowI cs) false) (hnl:cs.length=n) (hpc:s.pc<n) (hn1:n<=100000) (hst:s.steps<=100000):
  ∃hp' g' cs',(lim Tryz.prog E47 X47).hpc 0 d 205 [.ptr ⟨0,13,0⟩ 1 0] hp1=some (.tup [],hp')/\Post {s with steps:=s.steps+1,R:=setR s.R 5 (if s.R 3<s.R 4 then 1 else 0),pc:=s.pc+1} g' n ws inp cs' hp1 hp':=by
 have key: ∃z hp',(lim Tryz.prog E47 X47).hpc 0 d 205 [.ptr ⟨0,13,0⟩ 1 0] hp1=some (z,hp')/\(z= .tup []/\ ∃g' cs',Post {s with steps:=s.steps+1,R:=setR s.R 5 (if s.R 3<s.R 4 then 1 else 0),pc:=s.pc+1} g' n ws inp cs' hp1 hp'):=by
  refine Aw (R:=fun z hp'=>z= .tup []/\ ∃g' cs',Post {s with steps:=s.steps+1,R:=setR s.R 5 (if s.R 3<s.R 4 then 1 else 0),pc:=s.pc+1} g' n ws inp cs' hp1 hp') Tryz.func205 rfl rfl A4 rfl rfl ?_
  obtain⟨p,R,st,en,out⟩:=s
  simp only[bxc] at hx
  simp only at ho hcp hkp hpc hst
  have hst1:=wrapN (k:=st) (by omega)
  have hp1':=wrapN (k:=p) (by omega)
  have hcg: ∀h,RD[p]'h=[iv 14,iv 5,iv 3,iv 4]:=fun h=>by rw[List.getElem?_eq_getElem h] at hcp;exact Option.some.inj hcp
  have hkg: ∀h,RK[p]'h=[bv true]:=fun h=>by rw[List.getElem?_eq_getElem h] at hkp;exact Option.some.inj hkp
  obtain⟨cx,hcx⟩: ∃cx,cs[p]?=some cx:=⟨_,List.getElem?_eq_getElem (by omega)⟩
  have hRl:(rowI cs).length=n:=by simp[hnl]
  have hRp:(rowI cs)[p]?=some [iv cx]:=by rw[List.getElem?_map,hcx];rfl
  have hRg: ∀h,(rowI cs)[p]'h=[iv cx]:=fun h=>by rw[List.getElem?_eq_getElem h] at hRp;exact Option.some.inj hRp
  have hRs:=Bj cs p (IntKind.i64.wrap (cx+1))
  have hcsl:(cs.set p (IntKind.i64.wrap (cx+1))).length=n:=by simp[hnl]
  have hHP:=Lib.hid (⟨rfl,rfl⟩:hp1=hp1/\cs.set p (IntKind.i64.wrap (cx+1))=cs.set p (IntKind.i64.wrap (cx+1)))
  generalize cs.set p (IntKind.i64.wrap (cx+1))=cs' at hRs hcsl
  generalize rowI cs=RN at hn hRl hRp hRg hRs
  clear hcx hnl
  have hpI: ¬(n:Int)<=p:=by omega
  have hp0': ¬(p:Int)<0:=by omega
  have h47:=d47_14 (R 3) (R 4) h3 h4
  have hset:=fun d hp=>h44_5 (if R 3<R 4 then 1 else 0) ⟨p,R,st+1,en,out⟩ g n ws inp (by simp only;omega) d hp
  simp only[bxc,setR,Int.natCast_add,Int.cast_ofNat_Int,reduceIte,Nat.reduceEqDiff] at hset
  repeat' (first|refine ZN ?_|refine Z2 ?_ ?_|(intro h h';try simp[*,-h] at h'))
  all_goals exact⟨by simp,_,_,rfl,rfl,g,cs',by simp[bxc,setR, *],by simp[*],by simp[*],hcsl,fun y h0 h1 h2 h3=>(by have e1: ∀i,y≠⟨1,i,0⟩:=fun i e=>(by subst e;simp at h0);simp[h1,h2,h3,e1])⟩
 obtain⟨z,hp',h1,rfl,g',cs',h2⟩:=key
 exact⟨hp',g',cs',h1,h2⟩
theorem Li (s:MS)(g n:Nat)(ws:List Int)(inp:ByteArray)(RD RK:List (List AV))(cs:List Int)(h2:U (s.R 2))(h8:s.R 8=8)(d:Nat)(hp1:Hp)
  (hx:hp1 ⟨0,13,0⟩= .box 1 (bxc s g n ws inp) false) (ho:hp1 ⟨0,13,23⟩= .arr g 1 5 (rowB s.out) false) (hc:hp1 ⟨0,13,24⟩= .arr 2 4 118 RD false) (hcl:RD.length=n) (hcp:RD[s.pc]?=some [iv 13,iv 2,iv 2,iv 8])
  (hk:hp1 ⟨0,13,25⟩= .arr 2 1 4 RK false) (hkl:RK.length=n) (hkp:RK[s.pc]?=some [bv true]) (hn:hp1 ⟨0,13,28⟩= .arr 2 1 3 (rowI cs) false) (hnl:cs.length=n) (hpc:s.pc<n) (hn1:n<=100000) (hst:s.steps<=100000):
  ∃hp' g' cs',(lim Tryz.prog E47 X47).hpc 0 d 205 [.ptr ⟨0,13,0⟩ 1 0] hp1=some (.tup [],hp')/\Post {s with steps:=s.steps+1,R:=setR s.R 2 (s.R 2/256),pc:=s.pc+1} g' n ws inp cs' hp1 hp':=by
 have key: ∃z hp',(lim Tryz.prog E47 X47).hpc 0 d 205 [.ptr ⟨0,13,0⟩ 1 0] hp1=some (z,hp')/\(z= .tup []/\ ∃g' cs',Post {s with steps:=s.steps+1,R:=setR s.R 2 (s.R 2/256),pc:=s.pc+1} g' n ws inp cs' hp1 hp'):=by
  refine Aw (R:=fun z hp'=>z= .tup []/\ ∃g' cs',Post {s with steps:=s.steps+1,R:=setR s.R 2 (s.R 2/256),pc:=s.pc+1} g' n ws inp cs' hp1 hp') Tryz.func205 rfl rfl A4 rfl rfl ?_
  obtain⟨p,R,st,en,out⟩:=s
  simp only[bxc] at hx
  simp only at ho hcp hkp hpc hst
  have hst1:=wrapN (k:=st) (by omega)
  have hp1':=wrapN (k:=p) (by omega)
  have hcg: ∀h,RD[p]'h=[iv 13,iv 2,iv 2,iv 8]:=fun h=>by rw[List.getElem?_eq_getElem h] at hcp;exact Option.some.inj hcp
  have hkg: ∀h,RK[p]'h=[bv true]:=fun h=>by rw[List.getElem?_eq_getElem h] at hkp;exact Option.some.inj hkp
  obtain⟨cx,hcx⟩: ∃cx,cs[p]?=some cx:=⟨_,List.getElem?_eq_getElem (by omega)⟩
  have hRl:(rowI cs).length=n:=by simp[hnl]
  have hRp:(rowI cs)[p]?=some [iv cx]:=by rw[List.getElem?_map,hcx];rfl
  have hRg: ∀h,(rowI cs)[p]'h=[iv cx]:=fun h=>by rw[List.getElem?_eq_getElem h] at hRp;exact Option.some.inj hRp
  have hRs:=Bj cs p (IntKind.i64.wrap (cx+1))
  have hcsl:(cs.set p (IntKind.i64.wrap (cx+1))).length=n:=by simp[hnl]
  have hHP:=Lib.hid (⟨rfl,rfl⟩:hp1=hp1/\cs.set p (IntKind.i64.wrap (cx+1))=cs.set p (IntKind.i64.wrap (cx+1)))
  generalize cs.set p (IntKind.i64.wrap (cx+1))=cs' at hRs hcsl
  generalize rowI cs=RN at hn hRl hRp hRg hRs
  clear hcx hnl
  have hpI: ¬(n:Int)<=p:=by omega
  have hp0': ¬(p:Int)<0:=by omega
  simp only at h8
  have h47:=d47_13 (R 2) h2
  have hset:=fun d hp=>h44_2 (R 2/256) ⟨p,R,st+1,en,out⟩ g n ws inp (by simp only;omega) d hp
  simp only[bxc,setR,Int.natCast_add,Int.cast_ofNat_Int,reduceIte,Nat.reduceEqDiff] at hset
  repeat' (first|refine ZN ?_|refine Z2 ?_ ?_|(intro h h';try simp[*,-h] at h'))
  all_goals exact⟨by simp,_,_,rfl,rfl,g,cs',by simp[bxc,setR, *],by simp[*],by simp[*],hcsl,fun y h0 h1 h2 h3=>(by have e1: ∀i,y≠⟨1,i,0⟩:=fun i e=>(by subst e;simp at h0);simp[h1,h2,h3,e1])⟩
 obtain⟨z,hp',h1,rfl,g',cs',h2⟩:=key
 exact⟨hp',g',cs',h1,h2⟩
end Go.Proofs.YtpmoibjpjlhcgaaGreatDoor.K
namespace Go.Proofs.YtpmoibjpjlhcgaaGreatDoor.K
open Go Go.Ab
attribute [-simp] Prog.bind getCs putCs
attribute [local simp ↓] run_bind
attribute [local simp ↓] Ax
attribute [local simp] Av As facetsC A5 A0
theorem h39_jnz (s:MS)(g n:Nat)(ws:List Int)(inp:ByteArray)(RD RK:List (List AV))(cs:List Int)(d:Nat)(hp1:Hp)
  (hx:hp1 ⟨0,13,0⟩= .box 1 (bxc s g n ws inp) false) (ho:hp1 ⟨0,13,23⟩= .arr g 1 5 (rowB s.out) false) (hc:hp1 ⟨0,13,24⟩= .arr 2 4 118 RD false) (hcl:RD.length=n) (hcp:RD[s.pc]?=some [iv 20,iv 5,iv 0,iv 13])
  (hk:hp1 ⟨0,13,25⟩= .arr 2 1 4 RK false) (hkl:RK.length=n) (hkp:RK[s.pc]?=some [bv true]) (hn:hp1 ⟨0,13,28⟩= .arr 2 1 3 (rowI cs) false) (hnl:cs.length=n) (hpc:s.pc<n) (hn1:n<=100000) (hst:s.steps<=100000):
  ∃hp' g' cs',(lim Tryz.prog E47 X47).hpc 0 d 205 [.ptr ⟨0,13,0⟩ 1 0] hp1=some (.tup [],hp')/\Post {s with steps:=s.steps+1,pc:=if s.R 5≠0 then 13 else s.pc+1} g' n ws inp cs' hp1 hp':=by
 have key: ∃z hp',(lim Tryz.prog E47 X47).hpc 0 d 205 [.ptr ⟨0,13,0⟩ 1 0] hp1=some (z,hp')/\(z= .tup []/\ ∃g' cs',Post {s with steps:=s.steps+1,pc:=if s.R 5≠0 then 13 else s.pc+1} g' n ws inp cs' hp1 hp'):=by
  refine Aw (R:=fun z hp'=>z= .tup []/\ ∃g' cs',Post {s with steps:=s.steps+1,pc:=if s.R 5≠0 then 13 else s.pc+1} g' n ws inp cs' hp1 hp') Tryz.func205 rfl rfl A4 rfl rfl ?_
  obtain⟨p,R,st,en,out⟩:=s
  simp only[bxc] at hx
  simp only at ho hcp hkp hpc hst
  have hst1:=wrapN (k:=st) (by omega)
  have hp1':=wrapN (k:=p) (by omega)
  have hcg: ∀h,RD[p]'h=[iv 20,iv 5,iv 0,iv 13]:=fun h=>by rw[List.getElem?_eq_getElem h] at hcp;exact Option.some.inj hcp
  have hkg: ∀h,RK[p]'h=[bv true]:=fun h=>by rw[List.getElem?_eq_getElem h] at hkp;exact Option.some.inj hkp
  obtain⟨cx,hcx⟩: ∃cx,cs[p]?=some cx:=⟨_,List.getElem?_eq_getElem (by omega)⟩
  have hRl:(rowI cs).length=n:=by simp[hnl]
  have hRp:(rowI cs)[p]?=some [iv cx]:=by rw[List.getElem?_map,hcx];rfl
  have hRg: ∀h,(rowI cs)[p]'h=[iv cx]:=fun h=>by rw[List.getElem?_eq_getElem h] at hRp;exact Option.some.inj hRp
  have hRs:=Bj cs p (IntKind.i64.wrap (cx+1))
  have hcsl:(cs.set p (IntKind.i64.wrap (cx+1))).length=n:=by simp[hnl]
  have hHP:=Lib.hid (⟨rfl,rfl⟩:hp1=hp1/\cs.set p (IntKind.i64.wrap (cx+1))=cs.set p (IntKind.i64.wrap (cx+1)))
  generalize cs.set p (IntKind.i64.wrap (cx+1))=cs' at hRs hcsl
  generalize rowI cs=RN at hn hRl hRp hRg hRs
  clear hcx hnl
  have hpI: ¬(n:Int)<=p:=by omega
  have hp0': ¬(p:Int)<0:=by omega
  have hset:=fun d hp=>h46 (R 5 !=0) 13 ⟨p,R,st+1,en,out⟩ g n ws inp (by simp only;omega) d hp
  simp only[bxc,setR,Int.natCast_add,Int.cast_ofNat_Int,reduceIte,Nat.reduceEqDiff] at hset
  by_cases h5:R 5=0
  all_goals first
   |have hb:(R 5 !=0)=false:=by simp[h5]
   |have hb:(R 5 !=0)=true:=by simp[h5]
  all_goals rw[hb] at hset
  all_goals simp only[if_true,Bool.false_eq_true,if_false] at hset
  all_goals
   repeat' (first|refine ZN ?_|refine Z2 ?_ ?_|(intro h h';try simp[*,-h] at h'))
  all_goals exact⟨by simp,_,_,rfl,rfl,g,cs',by simp[bxc,setR, *],by simp[*],by simp[*],hcsl,fun y h0 h1 h2 h3=>(by have e1: ∀i,y≠⟨1,i,0⟩:=fun i e=>(by subst e;simp at h0);simp[h1,h2,h3,e1])⟩
 obtain⟨z,hp',h1,rfl,g',cs',h2⟩:=key
 exact⟨hp',g',cs',h1,h2⟩
theorem Jl (s:MS)(g n:Nat)(ws:List Int)(inp:ByteArray)(RD RK:List (List AV))(cs:List Int)(ho1:s.out.length<=65535)(hr:0<=s.R 1)(d:Nat)(hp1:Hp)
  (hx:hp1 ⟨0,13,0⟩= .box 1 (bxc s g n ws inp) false) (ho:hp1 ⟨0,13,23⟩= .arr g 1 5 (rowB s.out) false) (hc:hp1 ⟨0,13,24⟩= .arr 2 4 118 RD false) (hcl:RD.length=n) (hcp:RD[s.pc]?=some [iv 24,iv 1,iv 0,iv 0])
  (hk:hp1 ⟨0,13,25⟩= .arr 2 1 4 RK false) (hkl:RK.length=n) (hkp:RK[s.pc]?=some [bv true]) (hn:hp1 ⟨0,13,28⟩= .arr 2 1 3 (rowI cs) false) (hnl:cs.length=n) (hpc:s.pc<n) (hn1:n<=100000) (hst:s.steps<=100000):
  ∃hp' g' cs',(lim Tryz.prog E47 X47).hpc 0 d 205 [.ptr ⟨0,13,0⟩ 1 0] hp1=some (.tup [],hp')/\Post {s with steps:=s.steps+1,out:=s.out++[s.R 1%256],pc:=s.pc+1} g' n ws inp cs' hp1 hp':=by
 have key: ∃z hp',(lim Tryz.prog E47 X47).hpc 0 d 205 [.ptr ⟨0,13,0⟩ 1 0] hp1=some (z,hp')/\(z= .tup []/\ ∃g' cs',Post {s with steps:=s.steps+1,out:=s.out++[s.R 1%256],pc:=s.pc+1} g' n ws inp cs' hp1 hp'):=by
  refine Aw (R:=fun z hp'=>z= .tup []/\ ∃g' cs',Post {s with steps:=s.steps+1,out:=s.out++[s.R 1%256],pc:=s.pc+1} g' n ws inp cs' hp1 hp') Tryz.func205 rfl rfl A4 rfl rfl ?_
  obtain⟨p,R,st,en,out⟩:=s
  simp only[bxc] at hx
  simp only at ho hcp hkp hpc hst
  have hst1:=wrapN (k:=st) (by omega)
  have hp1':=wrapN (k:=p) (by omega)
  have hcg: ∀h,RD[p]'h=[iv 24,iv 1,iv 0,iv 0]:=fun h=>by rw[List.getElem?_eq_getElem h] at hcp;exact Option.some.inj hcp
  have hkg: ∀h,RK[p]'h=[bv true]:=fun h=>by rw[List.getElem?_eq_getElem h] at hkp;exact Option.some.inj hkp
  obtain⟨cx,hcx⟩: ∃cx,cs[p]?=some cx:=⟨_,List.getElem?_eq_getElem (by omega)⟩
  have hRl:(rowI cs).length=n:=by simp[hnl]
  have hRp:(rowI cs)[p]?=some [iv cx]:=by rw[List.getElem?_map,hcx];rfl
  have hRg: ∀h,(rowI cs)[p]'h=[iv cx]:=fun h=>by rw[List.getElem?_eq_getElem h] at hRp;exact Option.some.inj hRp
  have hRs:=Bj cs p (IntKind.i64.wrap (cx+1))
  have hcsl:(cs.set p (IntKind.i64.wrap (cx+1))).length=n:=by simp[hnl]
  have hHP:=Lib.hid (⟨rfl,rfl⟩:hp1=hp1/\cs.set p (IntKind.i64.wrap (cx+1))=cs.set p (IntKind.i64.wrap (cx+1)))
  generalize cs.set p (IntKind.i64.wrap (cx+1))=cs' at hRs hcsl
  generalize rowI cs=RN at hn hRl hRp hRg hRs
  clear hcx hnl
  have hpI: ¬(n:Int)<=p:=by omega
  have hp0': ¬(p:Int)<0:=by omega
  simp only at ho1 hr
  have u0:(R 1).tmod 256=R 1%256:=Int.tmod_eq_emod_of_nonneg hr
  have u1:IntKind.u32.wrap (R 1%256)=R 1%256:=by rw[IntKind.wrap_u32];omega
  have u2:IntKind.u8.wrap (R 1%256)=R 1%256:=by rw[IntKind.wrap_u8];omega
  have u3: ¬(65536:Int)<=out.length:=by omega
  have u4:out.length+1<=140737488355328:=by omega
  have u5:out.length<=9223372036854775806:=by omega
  have u6:rowB out++[[.sc (.int .u8 (R 1%256))]]=N5 out (R 1%256):=by simp[N5]
  repeat' (first|refine ZN ?_|refine Z2 ?_ ?_|(intro h h';try simp[*,-h] at h'))
  all_goals clear u6
  all_goals exact⟨by simp,_,_,rfl,rfl,g+1,cs',by simp[bxc,setR, *],by simp[*,N5],by simp[*],hcsl,fun y h0 h1 h2 h3=>(by have e1: ∀i,y≠⟨1,i,0⟩:=fun i e=>(by subst e;simp at h0);simp[h1,h2,h3,e1])⟩
 obtain⟨z,hp',h1,rfl,g',cs',h2⟩:=key
 exact⟨hp',g',cs',h1,h2⟩
theorem Jk (s:MS)(g n:Nat)(ws:List Int)(inp:ByteArray)(RD RK:List (List AV))(cs:List Int)(ho1:s.out.length<=65535)(hr:0<=s.R 2)(d:Nat)(hp1:Hp)
  (hx:hp1 ⟨0,13,0⟩= .box 1 (bxc s g n ws inp) false) (ho:hp1 ⟨0,13,23⟩= .arr g 1 5 (rowB s.out) false) (hc:hp1 ⟨0,13,24⟩= .arr 2 4 118 RD false) (hcl:RD.length=n) (hcp:RD[s.pc]?=some [iv 24,iv 2,iv 0,iv 0])
  (hk:hp1 ⟨0,13,25⟩= .arr 2 1 4 RK false) (hkl:RK.length=n) (hkp:RK[s.pc]?=some [bv true]) (hn:hp1 ⟨0,13,28⟩= .arr 2 1 3 (rowI cs) false) (hnl:cs.length=n) (hpc:s.pc<n) (hn1:n<=100000) (hst:s.steps<=100000):
  ∃hp' g' cs',(lim Tryz.prog E47 X47).hpc 0 d 205 [.ptr ⟨0,13,0⟩ 1 0] hp1=some (.tup [],hp')/\Post {s with steps:=s.steps+1,out:=s.out++[s.R 2%256],pc:=s.pc+1} g' n ws inp cs' hp1 hp':=by
 have key: ∃z hp',(lim Tryz.prog E47 X47).hpc 0 d 205 [.ptr ⟨0,13,0⟩ 1 0] hp1=some (z,hp')/\(z= .tup []/\ ∃g' cs',Post {s with steps:=s.steps+1,out:=s.out++[s.R 2%256],pc:=s.pc+1} g' n ws inp cs' hp1 hp'):=by
  refine Aw (R:=fun z hp'=>z= .tup []/\ ∃g' cs',Post {s with steps:=s.steps+1,out:=s.out++[s.R 2%256],pc:=s.pc+1} g' n ws inp cs' hp1 hp') Tryz.func205 rfl rfl A4 rfl rfl ?_
  obtain⟨p,R,st,en,out⟩:=s
  simp only[bxc] at hx
  simp only at ho hcp hkp hpc hst
  have hst1:=wrapN (k:=st) (by omega)
  have hp1':=wrapN (k:=p) (by omega)
  have hcg: ∀h,RD[p]'h=[iv 24,iv 2,iv 0,iv 0]:=fun h=>by rw[List.getElem?_eq_getElem h] at hcp;exact Option.some.inj hcp
  have hkg: ∀h,RK[p]'h=[bv true]:=fun h=>by rw[List.getElem?_eq_getElem h] at hkp;exact Option.some.inj hkp
  obtain⟨cx,hcx⟩: ∃cx,cs[p]?=some cx:=⟨_,List.getElem?_eq_getElem (by omega)⟩
  have hRl:(rowI cs).length=n:=by simp[hnl]
  have hRp:(rowI cs)[p]?=some [iv cx]:=by rw[List.getElem?_map,hcx];rfl
  have hRg: ∀h,(rowI cs)[p]'h=[iv cx]:=fun h=>by rw[List.getElem?_eq_getElem h] at hRp;exact Option.some.inj hRp
  have hRs:=Bj cs p (IntKind.i64.wrap (cx+1))
  have hcsl:(cs.set p (IntKind.i64.wrap (cx+1))).length=n:=by simp[hnl]
  have hHP:=Lib.hid (⟨rfl,rfl⟩:hp1=hp1/\cs.set p (IntKind.i64.wrap (cx+1))=cs.set p (IntKind.i64.wrap (cx+1)))
  generalize cs.set p (IntKind.i64.wrap (cx+1))=cs' at hRs hcsl
  generalize rowI cs=RN at hn hRl hRp hRg hRs
  clear hcx hnl
  have hpI: ¬(n:Int)<=p:=by omega
  have hp0': ¬(p:Int)<0:=by omega
  simp only at ho1 hr
  have u0:(R 2).tmod 256=R 2%256:=Int.tmod_eq_emod_of_nonneg hr
  have u1:IntKind.u32.wrap (R 2%256)=R 2%256:=by rw[IntKind.wrap_u32];omega
  have u2:IntKind.u8.wrap (R 2%256)=R 2%256:=by rw[IntKind.wrap_u8];omega
  have u3: ¬(65536:Int)<=out.length:=by omega
  have u4:out.length+1<=140737488355328:=by omega
  have u5:out.length<=9223372036854775806:=by omega
  have u6:rowB out++[[.sc (.int .u8 (R 2%256))]]=N5 out (R 2%256):=by simp[N5]
  repeat' (first|refine ZN ?_|refine Z2 ?_ ?_|(intro h h';try simp[*,-h] at h'))
  all_goals clear u6
  all_goals exact⟨by simp,_,_,rfl,rfl,g+1,cs',by simp[bxc,setR, *],by simp[*,N5],by simp[*],hcsl,fun y h0 h1 h2 h3=>(by have e1: ∀i,y≠⟨1,i,0⟩:=fun i e=>(by subst e;simp at h0);simp[h1,h2,h3,e1])⟩
 obtain⟨z,hp',h1,rfl,g',cs',h2⟩:=key
 exact⟨hp',g',cs',h1,h2⟩
end Go.Proofs.YtpmoibjpjlhcgaaGreatDoor.K
namespace Go.Proofs.YtpmoibjpjlhcgaaGreatDoor.K
open Go Go.Ab
@[simp] theorem Dq (R:Nat->Int)(a:Nat)(x:Int):setR R a x a=x:=by simp[setR]
theorem Y4 (R:Nat->Int){a b:Nat}(x:Int)(h:b≠a):setR R a x b=R b:=by simp[setR,h]
@[simp] theorem E7 (R:Nat->Int)(a:Nat)(x y:Int):setR (setR R a x) a y=setR R a y:=by
 funext j;unfold setR;split<;>rfl
def sR (s:MS)(a:Nat)(x:Int):MS:={s with steps:=s.steps+1,R:=setR s.R a x,pc:=s.pc+1}
def pO (s:MS)(a:Nat):MS:={s with steps:=s.steps+1,out:=s.out++[s.R a%256],pc:=s.pc+1}
def cL (s:MS):MS:={s with steps:=s.steps+1,R:=setR s.R 15 (s.pc+1),pc:=19}
def nx (l:List Int)(s:MS):MS:=match s.pc with
 |0=>sR s 1 83
 |1=>pO s 1
 |2=>sR s 1 69
 |3=>pO s 1
 |4=>pO s 1
 |5=>sR s 1 68
 |6=>pO s 1
 |7=>sR s 8 8
 |8=>sR s 7 1
 |9=>sR s 4 ((28+l.length:Nat):Int)
 |10=>sR s 2 (s.R 4)
 |11=>cL s
 |12=>cL s
 |13=>sR s 2 ((mirC l).getD (s.R 3).toNat 0)
 |14=>cL s
 |15=>sR s 3 ((s.R 3+s.R 7)%4294967296)
 |16=>sR s 5 (if s.R 3<s.R 4 then 1 else 0)
 |17=>{s with steps:=s.steps+1,pc:=if s.R 5≠0 then 13 else s.pc+1}
 |18=>{s with steps:=s.steps+1,en:=1}
 |19=>pO s 2
 |20=>sR s 2 (s.R 2/256)
 |21=>pO s 2
 |22=>sR s 2 (s.R 2/256)
 |23=>pO s 2
 |24=>sR s 2 (s.R 2/256)
 |25=>pO s 2
 |26=>sR s 2 (s.R 2/256)
 |_=>{s with steps:=s.steps+1,pc:=(s.R 15).toNat}
def Ok (l:List Int)(s:MS):Prop:=s.en=0/\s.pc<28/\s.steps<=100000/\s.out.length<=65535/\0<=s.R 1/\U (s.R 2)/\U (s.R 3)/\U (s.R 4)/\U (s.R 7)/\(s.pc=13-> ∃j:Nat,s.R 3=j/\j<(mirC l).length)/\(19<=s.pc->s.R 8=8)/\(s.pc=27-> ∃q:Nat,s.R 15=q/\q<=100000)
inductive Run (l:List Int):MS->Nat->MS->Prop
 |nil (s:MS):Run l s 0 s
 |step {s t:MS} {k:Nat} (h:Ok l s) (r:Run l (nx l s) k t):Run l s (k+1) t
theorem Aqa {w:Int}(h:U w):U (w/256):=by unfold U at*;omega
theorem Pc {n:Nat}(h:n<4294967296):U (n:Int):=by unfold U;omega
theorem two (l:List Int)(p:Nat)(hp:p=19\/p=21\/p=23\/p=25)(R:Nat->Int)(st:Nat)(out:List Int)(h1:0<=R 1)(h2:U (R 2))(h3:U (R 3))(h4:U (R 4))(h7:U (R 7))(h8:R 8=8)(hst:st<100000)(ho:out.length<65535){k:Nat}{t:MS}
  (r:Run l ⟨p+2,setR R 2 (R 2/256),st+2,0,out++[R 2%256]⟩ k t):Run l ⟨p,R,st,0,out⟩ (k+2) t:=by
 have e: ∀q st out,Ok l ⟨q,R,st,0,out⟩↔q<28/\st<=100000/\out.length<=65535/\0<=R 1/\U (R 2)/\U (R 3)/\U (R 4)/\U (R 7)/\(q=13-> ∃j:Nat,R 3=j/\j<(mirC l).length)/\(19<=q->R 8=8)/\(q=27-> ∃q:Nat,R 15=q/\q<=100000):=fun q st out=>by simp[Ok]
 refine .step ((e _ _ _).2 ⟨by omega,by omega,by omega,h1,h2,h3,h4,h7,by omega,fun _=>h8,by omega⟩) ?_
 have r':Run l ⟨p+1,R,st+1,0,out++[R 2%256]⟩ (k+1) t:=by
  refine .step ((e _ _ _).2 ⟨by omega,by omega,by simp;omega,h1,h2,h3,h4,h7,by omega,fun _=>h8,by omega⟩) ?_
  rcases hp with rfl|rfl|rfl|rfl<;>exact r
 rcases hp with rfl|rfl|rfl|rfl<;>exact r'
theorem Lr (l:List Int)(R:Nat->Int)(st:Nat)(out:List Int)(h1:0<=R 1)(h2:U (R 2))(h3:U (R 3))(h4:U (R 4))(h7:U (R 7))(h8:R 8=8)(hst:st+20<100000)(ho:out.length+20<65535)(q:Nat)(hq:R 15=q)(hq1:q<=100000){k:Nat}{t:MS}
  (r:Run l ⟨q,setR R 2 (R 2/4294967296),st+9,0,out++b4 (R 2)⟩ k t):Run l ⟨19,R,st,0,out⟩ (k+9) t:=by
 have u1:=Aqa h2
 have u2:=Aqa u1
 have u3:=Aqa u2
 have u4:=Aqa u3
 have n: ∀x j,j≠2->setR R 2 x j=R j:=fun x j h=>Y4 R x h
 refine two l 19 (by simp) R st out h1 h2 h3 h4 h7 h8 (by omega) (by omega) ?_
 refine two l 21 (by simp) _ _ _ (by rwa [n];simp) (by simpa using u1) (by rwa [n];simp) (by rwa [n];simp) (by rwa [n];simp) (by rwa [n];simp) (by omega) (by simp;omega) ?_
 simp only[Dq,E7]
 refine two l 23 (by simp) _ _ _ (by rwa [n];simp) (by simpa using u2) (by rwa [n];simp) (by rwa [n];simp) (by rwa [n];simp) (by rwa [n];simp) (by omega) (by simp;omega) ?_
 simp only[Dq,E7]
 refine two l 25 (by simp) _ _ _ (by rwa [n];simp) (by simpa using u3) (by rwa [n];simp) (by rwa [n];simp) (by rwa [n];simp) (by rwa [n];simp) (by omega) (by simp;omega) ?_
 simp only[Dq,E7]
 refine .step ⟨rfl,by simp,by simp only;omega,by simp;omega,?_,?_,?_,?_,?_,by simp,fun _=>?_,fun _=>⟨q,?_,hq1⟩⟩ ?_
 ·simpa[n] using h1
 ·simpa using u4
 ·simpa[n] using h3
 ·simpa[n] using h4
 ·simpa[n] using h7
 ·simpa[n] using h8
 ·simpa[n] using hq
 have e:nx l ⟨27,setR R 2 (R 2/256/256/256/256),st+8,0,out++b4 (R 2)⟩=⟨q,setR R 2 (R 2/4294967296),st+9,0,out++b4 (R 2)⟩:=by
  simp only[nx,n 15,n _ 15,ne_eq,Nat.reduceEqDiff,not_false_eq_true,hq,Int.toNat_natCast]
  rw[show R 2/256/256/256/256=R 2/4294967296 from by omega]
 have e2:out++[R 2%256]++[R 2/256%256]++[R 2/256/256%256]++[R 2/256/256/256%256]=out++b4 (R 2):=by
  unfold b4
  rw[show R 2/65536=R 2/256/256 from by omega,show R 2/16777216=R 2/256/256/256 from by omega]
  simp
 rw[e2]
 show Run l (nx l ⟨27,_,st+8,0,_⟩) k t
 rw[e]
 exact r
end Go.Proofs.YtpmoibjpjlhcgaaGreatDoor.K
