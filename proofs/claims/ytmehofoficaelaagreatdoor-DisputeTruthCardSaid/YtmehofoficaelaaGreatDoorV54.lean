/-
  PROVED: whatever the input, skewer/skewerlaw18.DisputeTruth returns true, and the arguments read as they did. CONDITIONS: the card's own: the listed variables read as the program's text lays them; nothing else.
  How: the program is read as code for an abstract interpreter (V01 ..), whose relation is proved sound for the machine; the contracts of the functions are proved over it.
-/
import Derived.Test.YtmehofoficaelaaGreatDoorV53
set_option linter.all false
namespace Go.Proofs.YtmehofoficaelaaGreatDoor
open Go.ChangeShapes Go.WideShapes Go.ChangeAt Go.RowKit Go.AL
set_option maxRecDepth 100000
theorem cw:Rows.disputeTruthRow.wfByText (OpenSpec.ofChange Rows.disputeTruthSpec)=true:=by kernel_rfl
theorem cm:Tryz.pinned.checked.prog.mainIs=some (Rows.disputeTruthCard.stood.harness.1,Rows.disputeTruthCard.stood.harness.2.toList):=by kernel_rfl
theorem cq:false=Tryz.pinned.checked.prog.looks []:=by kernel_rfl
theorem cg:false=Rows.disputeTruthRow.goesBy Tryz.pinned.checked.prog:=by kernel_rfl
theorem cn:Tryz.prog.funcNamed "skewer/skewerlaw18.DisputeTruth" = some 6:=by kernel_rfl
theorem ch:([32, 77, 103].all λu => !Tryz.prog.wantsStandIn u)=true:=by kernel_rfl
theorem disputeTruth_card:Rows.DisputeTruthCardSaid:=
 Claim7.holds_tied_plain_at .later [] _ _ _ _ acV (λ_ h=>by cases h) cw (λ_ h=>by cases h) disputeTruth_row_tie rfl ⟨rfl,rfl⟩ cm rfl
  (λf fn d a=>by
   obtain rfl:f=6:=bX (cn.symm.trans d) |>.symm;obtain rfl:fn=Tryz.f6:=(bX (Tryz.func6.symm.trans a)).symm
   exact⟨cq,λj t b=>by
    rw[Tryz.params6]at b;have c:t∈[32, 77, 103]:=by simpa using Array.mem_of_getElem? b
    exact(show Tryz.prog.wantsStandIn t=false by simpa using List.all_eq_true.1 ch t c)⟩)
  cg
