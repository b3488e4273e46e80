/-
  PROVED: whatever the input, skewer/skewerlaw15.TableSlices returns true, and the arguments read as they did. CONDITIONS: the card's own: the four listed variables read as the program's text lays them; nothing else.
  How: the program is read as code for an abstract interpreter (C01 ..), whose relation is proved sound for the machine; the contracts of the functions are proved over it.
-/
import Derived.Test.YtnaefnajkaohgaaGreatDoorC53
set_option linter.all false
namespace Go.Proofs.YtnaefnajkaohgaaGreatDoor
open Go.ChangeShapes Go.WideShapes Go.ChangeAt Go.RowKit Go.AL
set_option maxRecDepth 100000
theorem tableSlices_card:Rows.TableSlicesCardSaid:=
 Claim7.holds_tied_plain_at .later [] _ _ _ _ tableSlices_said (fun _ h=>by cases h) (by kernel_rfl) (fun _ h=>by cases h) tableSlices_row_tie rfl ⟨rfl,rfl⟩ (by kernel_rfl) rfl
  (fun f fn hf hfn=>by
   obtain rfl:f=5:=Option.some.inj ((show Tryz.prog.funcNamed "skewer/skewerlaw15.TableSlices" = some 5 by kernel_rfl).symm.trans hf) |>.symm
   obtain rfl:fn=Tryz.f5:=(Option.some.inj (Tryz.func5.symm.trans hfn)).symm
   exact⟨by kernel_rfl,fun j t ht=>by
    rw[Tryz.params5]at ht
    have hm:t∈[32,25]:=by simpa using Array.mem_of_getElem? ht
    have hall:([32,25].all fun u => !Tryz.prog.wantsStandIn u)=true:=by kernel_rfl
    exact(show Tryz.prog.wantsStandIn t=false by simpa using List.all_eq_true.1 hall t hm)⟩)
  (by kernel_rfl)
end Go.Proofs.YtnaefnajkaohgaaGreatDoor
