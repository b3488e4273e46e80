/-
  PROVED: whatever the input, skewer/skewerlaw15.TableHurry returns true, and the arguments read as they did. CONDITIONS: the card's own: the four listed variables read as the program's text lays them; nothing else.
  How: the program is read as code for an abstract interpreter (G01 ..), whose relation is proved sound for the machine; the contracts of the functions are proved over it.
-/
import Derived.Test.YtnaefnajkaohgaaGreatDoorG52
set_option linter.all false
namespace Go.Proofs.YtnaefnajkaohgaaGreatDoor
open Go.ChangeShapes Go.WideShapes Go.ChangeAt Go.RowKit Go.AL
set_option maxRecDepth 100000
theorem tableHurry_card:Rows.TableHurryCardSaid:=
 Claim7.holds_tied_plain_at .later [] _ _ _ _ aao (fun _ h=>by cases h) (by kernel_rfl) (fun _ h=>by cases h) tableHurry_row_tie rfl ⟨rfl,rfl⟩ (by kernel_rfl) rfl
  (fun f fn hf Rt=>by
   obtain rfl:f=7:=cJ ((show Tryz.prog.funcNamed "skewer/skewerlaw15.TableHurry" = some 7 by kernel_rfl).symm.trans hf) |>.symm
   obtain rfl:fn=Tryz.f7:=(cJ (Tryz.func7.symm.trans Rt)).symm
   exact⟨by kernel_rfl,fun j t ht=>by
    rw[Tryz.params7]at ht
    have hm:t∈[32,25]:=by simpa using Array.mem_of_getElem? ht
    have ix:([32,25].all fun u => !Tryz.prog.wantsStandIn u)=true:=by kernel_rfl
    exact(show Tryz.prog.wantsStandIn t=false by simpa using ao.1 ix t hm)⟩)
  (by kernel_rfl)
