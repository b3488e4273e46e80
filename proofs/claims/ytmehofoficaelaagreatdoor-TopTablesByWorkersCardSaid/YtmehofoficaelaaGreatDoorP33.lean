/- 33 -/
import Derived.Shelf.Slices.Delete
import Derived.Test.YtmehofoficaelaaGreatDoorP06
import Derived.Test.YtmehofoficaelaaGreatDoorProg
set_option linter.all false
namespace Go.AL
open Go Go.Proofs Go.Shelf Go.RowKit Go.Lib Go.Sort
def CP.of{P:Program}{ρ:Ren}(L:Lays2.n23 P ρ):CP P (ρ.f 23):=⟨λmX off cap i zs w b _ a hi=>by
 have h:=Any.slices_Delete_int L mX off cap i (i+1) zs w b ‹_› a U U;rw[(U:zs.length-(i+1-i)=zs.length-1),(U:i+1-i=1)]at h
 exact h⟩
end Go.AL
namespace Go.Proofs.YtmehofoficaelaaGreatDoor
open Go Go.AL Go.Proofs Go.Shelf
def aac:Go.Shelf.Ren:=⟨λ|23=>66|n=>n,λ|22=>37|n=>n,λ|n=>n⟩
def ahn:Go.Proofs.Lays2.n23 Tryz.prog aac:={
 mixed:=ia
 f23:=Tryz.func66.trans (congrArg some ia)
 t0:=Tryz.underlying0
 a0:=Tryz.isAgg0
 z0:=Tryz.sizeOf0
 v0:=Tryz.zeroValue0
 t3:=Tryz.underlying3
 a3:=Tryz.isAgg3
 z3:=Tryz.sizeOf3
 v3:=Tryz.zeroValue3
 t4:=Tryz.underlying4
 a4:=Tryz.isAgg4
 z4:=Tryz.sizeOf4
 v4:=Tryz.zeroValue4
 t22:=Tryz.underlying37
 a22:=Tryz.isAgg37
 z22:=Tryz.sizeOf37
 v22:=Tryz.zeroValue37
 i3:=by kernel_rfl }
def ahm(f:FuncId)(h:Nat.beq f 66=true):CP Tryz.prog f:=by have:=cO h;subst this;exact CP.of (ρ:=aac) ahn
