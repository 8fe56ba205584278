/- A part of the proof: Be. -/
import Derived.KernelRfl
import Derived.Test.YtpmoibjpjlhcgaaGreatDoorProg
import Derived.Test.YtpmoibjpjlhcgaaGreatDoorY05
import Derived.Test.YtpmoibjpjlhcgaaGreatDoorY06
set_option linter.unusedSimpArgs false
set_option linter.unusedVariables false
namespace Go.Proofs.YtpmoibjpjlhcgaaGreatDoor
open Go Go.Ab
def hpL :List Nat:=[45,46,47,73,74,75,76,77,78,111,112,113,162,238,239,240,241,290,292,
 168,169,242,243,244,245,171,172,173,247,248,249,250,251,252,293,
 126,127,202,203,254,255,256,294,295,174,175,176,
 86,123,124,180,181,184,190,193,195,198,179,182,183,185,186,187,188,189,191,192,194,196,197]
def frzL :List Nat:=[47,75,76,78,113,162,238,239,240,241,290,292]
def E47 :Cfg:={eq:=fun _=>false,hp:=fun f=>hpL.contains f,yl:=fun _=>false,inl:=fun f=>f==171,frz:=fun f=>frzL.contains f,ws:=70,cl:=true,bx:=fun t=>t==164}
@[simp] theorem E47_off :E47.off=0:=rfl
@[simp] theorem E47_bx (t:Nat):E47.bx t=(t==164):=rfl
@[simp] theorem E47_eq (t:Nat):E47.eq t=false:=rfl
@[simp] theorem E47_cl :E47.cl=true:=rfl
@[simp] theorem E47_ws :E47.ws=70:=rfl
@[simp] theorem wrap_1 :IntKind.i64.wrap 1=1:=by decide+kernel
@[simp] theorem wrap_2 :IntKind.i64.wrap 2=2:=by decide+kernel
@[simp] theorem wrap_0 :IntKind.i64.wrap 0=0:=by decide+kernel
theorem wrapN {k:Nat}(h:k<9223372036854775807):IntKind.i64.wrap ((k:Int)+1)=(k:Int)+1:=Ag (by omega) (by omega)
abbrev iv (n:Int):AV:= .sc (.int .i64 n)
abbrev uv (n:Int):AV:= .sc (.int .u32 n)
abbrev bv (b:Bool):AV:= .sc (.bool b)
abbrev tv (s:ByteArray):AV:= .sc (.string s)
def X46 :Orc:=⟨fun _ _=>none,fun _ _ _ _ _=>none⟩
noncomputable abbrev Lm (X:Orc):Orc:=lim Tryz.prog E47 X
end Go.Proofs.YtpmoibjpjlhcgaaGreatDoor
