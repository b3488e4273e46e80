/-
  PROVED: whatever the input, skewer/skewerlaw15.TableMatchesReference returns true, and the arguments read as they did. CONDITIONS: the card's own: the four listed variables read as the program's text lays them; nothing else.
  How: the program is read as code for an abstract interpreter (H01 ..), whose relation is proved sound for the machine; the contracts of the functions are proved over it.
-/
import Derived.Test.YtnaefnajkaohgaaGreatDoorH53
set_option linter.all false
namespace Go.Proofs.YtnaefnajkaohgaaGreatDoor
open Go.ChangeShapes Go.WideShapes Go.ChangeAt Go.RowKit Go.AL
set_option maxRecDepth 100000
theorem tableMatchesReference_card:Rows.TableMatchesReferenceCardSaid:=
 Claim7.holds_tied_plain_at .later [] _ _ _ _ agJ (fun _ h=>by cases h) (by kernel_rfl) (fun _ h=>by cases h) tableMatchesReference_row_tie rfl ⟨rfl,rfl⟩ (by kernel_rfl) rfl
  (fun f fn hf Xp=>by
   obtain rfl:f=3:=c8 ((show Tryz.prog.funcNamed "skewer/skewerlaw15.TableMatchesReference" = some 3 by kernel_rfl).symm.trans hf) |>.symm
   obtain rfl:fn=Tryz.f3:=(c8 (Tryz.func3.symm.trans Xp)).symm
   exact⟨by kernel_rfl,fun j t ht=>by
    rw[Tryz.params3]at ht
    have hm:t∈[32,25,33]:=by simpa using Array.mem_of_getElem? ht
    have iF:([32,25,33].all fun u => !Tryz.prog.wantsStandIn u)=true:=by kernel_rfl
    exact(show Tryz.prog.wantsStandIn t=false by simpa using aq.1 iF t hm)⟩)
  (by kernel_rfl)
