/-
  PROVED: whatever the input, skewer/skewerlaw18.DisputeWorkers returns true, and the arguments read as they did. CONDITIONS: the card's own: the listed variables read as the program's text lays them; nothing else.
  How: the program is read as code for an abstract interpreter (W01 ..), whose relation is proved sound for the machine; the contracts of the functions are proved over it.
-/
import Derived.Test.YtmehofoficaelaaGreatDoorW53
set_option linter.all false
namespace Go.Proofs.YtmehofoficaelaaGreatDoor
open Go.ChangeShapes Go.WideShapes Go.ChangeAt Go.RowKit Go.AL
set_option maxRecDepth 100000
theorem cw:Rows.disputeWorkersRow.wfByText (OpenSpec.ofChange Rows.disputeWorkersSpec)=true:=by kernel_rfl
theorem cm:Tryz.pinned.checked.prog.mainIs=some (Rows.disputeWorkersCard.stood.harness.1,Rows.disputeWorkersCard.stood.harness.2.toList):=by kernel_rfl
theorem cq:false=Tryz.pinned.checked.prog.looks []:=by kernel_rfl
theorem cg:false=Rows.disputeWorkersRow.goesBy Tryz.pinned.checked.prog:=by kernel_rfl
theorem cn:Tryz.prog.funcNamed "skewer/skewerlaw18.DisputeWorkers" = some 11:=by kernel_rfl
theorem ch:([32, 33, 5].all λu => !Tryz.prog.wantsStandIn u)=true:=by kernel_rfl
theorem disputeWorkers_card:Rows.DisputeWorkersCardSaid:=
 Claim7.holds_tied_plain_at .later [] _ _ _ _ adh (λ_ h=>by cases h) cw (λ_ h=>by cases h) disputeWorkers_row_tie rfl ⟨rfl,rfl⟩ cm rfl
  (λf fn d a=>by
   obtain rfl:f=11:=bZ (cn.symm.trans d) |>.symm;obtain rfl:fn=Tryz.f11:=(bZ (Tryz.func11.symm.trans a)).symm
   exact⟨cq,λj t b=>by
    rw[Tryz.params11]at b;have c:t∈[32, 33, 5]:=by simpa using Array.mem_of_getElem? b
    exact(show Tryz.prog.wantsStandIn t=false by simpa using List.all_eq_true.1 ch t c)⟩)
  cg
