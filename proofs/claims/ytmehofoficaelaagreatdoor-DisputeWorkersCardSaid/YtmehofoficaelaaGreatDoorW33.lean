/- Part 33 of DisputeWorkers. -/
import Derived.Shelf.Slices.Delete
import Derived.Test.YtmehofoficaelaaGreatDoorW06
import Derived.Test.YtmehofoficaelaaGreatDoorProg
set_option linter.all false
namespace Go.AL
open Go Go.Proofs Go.Shelf Go.RowKit Go.Lib Go.Sort
theorem AR.of{P:Program}{ρ:Ren}(L:Lays2.n23 P ρ):AR P (ρ.f 23):=⟨λlP off cap i zs w b _ a hi=>by
 have h:=Any.slices_Delete_int L lP off cap i (i+1) zs w b ‹_› a (by omega) (by omega);rw[show zs.length-(i+1-i)=zs.length-1 by omega,show i+1-i=1 by omega]at h
 exact h⟩
end Go.AL
namespace Go.Proofs.YtmehofoficaelaaGreatDoor
open Go Go.AL Go.Proofs Go.Shelf
def VK:Go.Shelf.Ren:=⟨λ|23=>66|n=>n,λ|22=>37|n=>n,λ|n=>n⟩
theorem ade:Go.Proofs.Lays2.n23 Tryz.prog VK:={
 mixed:=by kernel_rfl
 f23:=Tryz.func66.trans (congrArg some (by kernel_rfl))
 t0:=Tryz.underlying0
 a0:=Tryz.isAgg0
 z0:=Tryz.sizeOf0
 v0:=Tryz.zeroValue0
 t3:=Tryz.underlying3
 a3:=Tryz.isAgg3
 z3:=Tryz.sizeOf3
 v3:=Tryz.zeroValue3
 t4:=Tryz.underlying4
 a4:=Tryz.isAgg4
 z4:=Tryz.sizeOf4
 v4:=Tryz.zeroValue4
 t22:=Tryz.underlying37
 a22:=Tryz.isAgg37
 z22:=Tryz.sizeOf37
 v22:=Tryz.zeroValue37
 i3:=by kernel_rfl }
theorem adb(f:FuncId)(h:Nat.beq f 66=true):AR Tryz.prog f:=by have:=cj h;subst this;exact AR.of (ρ:=VK) ade
