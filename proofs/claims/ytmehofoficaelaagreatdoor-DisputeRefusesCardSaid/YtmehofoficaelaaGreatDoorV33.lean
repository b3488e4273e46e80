/- 33 -/
import Derived.Shelf.Slices.Delete
import Derived.Test.YtmehofoficaelaaGreatDoorV06
import Derived.Test.YtmehofoficaelaaGreatDoorProg
set_option linter.all false
namespace Go.AL
open Go Go.Proofs Go.Shelf Go.RowKit Go.Lib Go.Sort
def AV.of{P:Program}{ρ:Ren}(L:Lays2.n23 P ρ):AV P (ρ.f 23):=⟨λl4 off cap i zs w b _ a hi=>by
 have h:=Any.slices_Delete_int L l4 off cap i (i+1) zs w b ‹_› a U U;rw[(U:zs.length-(i+1-i)=zs.length-1),(U:i+1-i=1)]at h
 exact h⟩
end Go.AL
namespace Go.Proofs.YtmehofoficaelaaGreatDoor
open Go Go.AL Go.Proofs Go.Shelf
def VJ:Go.Shelf.Ren:=⟨λ|23=>66|n=>n,λ|22=>37|n=>n,λ|n=>n⟩
def adj:Go.Proofs.Lays2.n23 Tryz.prog VJ:={
 mixed:=gu
 f23:=Tryz.func66.trans (congrArg some gu)
 t0:=Tryz.underlying0
 a0:=Tryz.isAgg0
 z0:=Tryz.sizeOf0
 v0:=Tryz.zeroValue0
 t3:=Tryz.underlying3
 a3:=Tryz.isAgg3
 z3:=Tryz.sizeOf3
 v3:=Tryz.zeroValue3
 t4:=Tryz.underlying4
 a4:=Tryz.isAgg4
 z4:=Tryz.sizeOf4
 v4:=Tryz.zeroValue4
 t22:=Tryz.underlying37
 a22:=Tryz.isAgg37
 z22:=Tryz.sizeOf37
 v22:=Tryz.zeroValue37
 i3:=by kernel_rfl }
def adi(f:FuncId)(h:Nat.beq f 66=true):AV Tryz.prog f:=by have:=cu h;subst this;exact AV.of (ρ:=VJ) adj
