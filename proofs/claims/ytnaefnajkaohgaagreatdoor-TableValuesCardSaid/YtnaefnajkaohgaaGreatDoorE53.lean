/-
  PROVED: whatever the input, skewer/skewerlaw15.TableValues returns true, and the arguments read as they did. CONDITIONS: the card's own: the four listed variables read as the program's text lays them; nothing else.
  How: the program is read as code for an abstract interpreter (E01 ..), whose relation is proved sound for the machine; the contracts of the functions are proved over it.
-/
import Derived.Test.YtnaefnajkaohgaaGreatDoorE52
set_option linter.all false
namespace Go.Proofs.YtnaefnajkaohgaaGreatDoor
open Go.ChangeShapes Go.WideShapes Go.ChangeAt Go.RowKit Go.AL
set_option maxRecDepth 100000
theorem tableValues_card:Rows.TableValuesCardSaid:=
 Claim7.holds_tied_plain_at .later [] _ _ _ _ aet (fun _ h=>by cases h) (by kernel_rfl) (fun _ h=>by cases h) tableValues_row_tie rfl ⟨rfl,rfl⟩ (by kernel_rfl) rfl
  (fun f fn hf Vd=>by
   obtain rfl:f=10:=cW ((show Tryz.prog.funcNamed "skewer/skewerlaw15.TableValues" = some 10 by kernel_rfl).symm.trans hf) |>.symm
   obtain rfl:fn=Tryz.f10:=(cW (Tryz.func10.symm.trans Vd)).symm
   exact⟨by kernel_rfl,fun j t ht=>by
    rw[Tryz.params10]at ht
    have hm:t∈[32,25,3]:=by simpa using Array.mem_of_getElem? ht
    have gu:([32,25,3].all fun u => !Tryz.prog.wantsStandIn u)=true:=by kernel_rfl
    exact(show Tryz.prog.wantsStandIn t=false by simpa using ar.1 gu t hm)⟩)
  (by kernel_rfl)
