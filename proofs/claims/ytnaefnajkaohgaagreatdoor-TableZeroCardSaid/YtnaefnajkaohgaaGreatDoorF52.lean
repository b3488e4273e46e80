/-
  PROVED: whatever the input, skewer/skewerlaw15.TableZero returns true, and the arguments read as they did. CONDITIONS: the card's own: the four listed variables read as the program's text lays them; nothing else.
  How: the program is read as code for an abstract interpreter (F01 ..), whose relation is proved sound for the machine; the contracts of the functions are proved over it.
-/
import Derived.Test.YtnaefnajkaohgaaGreatDoorF51
set_option linter.all false
namespace Go.Proofs.YtnaefnajkaohgaaGreatDoor
open Go.ChangeShapes Go.WideShapes Go.ChangeAt Go.RowKit Go.AL
set_option maxRecDepth 100000
theorem tableZero_card:Rows.TableZeroCardSaid:=
 Claim7.holds_tied_plain_at .later [] _ _ _ _ Z5 (fun _ h=>by cases h) (by kernel_rfl) (fun _ h=>by cases h) tableZero_row_tie rfl ⟨rfl,rfl⟩ (by kernel_rfl) rfl
  (fun f fn hf Q5=>by
   obtain rfl:f=6:=cJ ((show Tryz.prog.funcNamed "skewer/skewerlaw15.TableZero" = some 6 by kernel_rfl).symm.trans hf) |>.symm
   obtain rfl:fn=Tryz.f6:=(cJ (Tryz.func6.symm.trans Q5)).symm
   exact⟨by kernel_rfl,fun j t ht=>by
    rw[Tryz.params6]at ht
    have hm:t∈[32,25]:=by simpa using Array.mem_of_getElem? ht
    have iq:([32,25].all fun u => !Tryz.prog.wantsStandIn u)=true:=by kernel_rfl
    exact(show Tryz.prog.wantsStandIn t=false by simpa using ao.1 iq t hm)⟩)
  (by kernel_rfl)
