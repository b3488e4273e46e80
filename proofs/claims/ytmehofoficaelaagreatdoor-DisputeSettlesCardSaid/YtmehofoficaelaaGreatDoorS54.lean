/-
  PROVED: whatever the input, skewer/skewerlaw18.DisputeSettles returns true, and the arguments read as they did. CONDITIONS: the card's own: the listed variables read as the program's text lays them; nothing else.
  How: the program is read as code for an abstract interpreter (S01 ..), whose relation is proved sound for the machine; the contracts of the functions are proved over it.
-/
import Derived.Test.YtmehofoficaelaaGreatDoorS53
set_option linter.all false
namespace Go.Proofs.YtmehofoficaelaaGreatDoor
open Go.ChangeShapes Go.WideShapes Go.ChangeAt Go.RowKit Go.AL
set_option maxRecDepth 100000
def cw:Rows.disputeSettlesRow.wfByText (OpenSpec.ofChange Rows.disputeSettlesSpec)=true:=by kernel_rfl
def cm:Tryz.pinned.checked.prog.mainIs=some (Rows.disputeSettlesCard.stood.harness.1,Rows.disputeSettlesCard.stood.harness.2.toList):=by kernel_rfl
def cq:false=Tryz.pinned.checked.prog.looks []:=by kernel_rfl
def cg:false=Rows.disputeSettlesRow.goesBy Tryz.pinned.checked.prog:=by kernel_rfl
def cn:Tryz.prog.funcNamed "skewer/skewerlaw18.DisputeSettles" = some 10:=by kernel_rfl
def ch:([32, 77, 78].all λu => !Tryz.prog.wantsStandIn u)=true:=by kernel_rfl
theorem disputeSettles_card:Rows.DisputeSettlesCardSaid:=
 Claim7.holds_tied_plain_at .later [] _ _ _ _ aef (λ_ h=>by cases h) cw (λ_ h=>by cases h) disputeSettles_row_tie rfl ⟨rfl,rfl⟩ cm rfl
  (λf fn d a=>by
   obtain rfl:f=10:=bU (cn.symm.trans d) |>.symm;obtain rfl:fn=Tryz.f10:=(bU (Tryz.func10.symm.trans a)).symm
   exact⟨cq,λj t b=>by
    rw[Tryz.params10]at b;have c:t∈[32, 77, 78]:=by simpa using Array.mem_of_getElem? b
    exact(show Tryz.prog.wantsStandIn t=false by simpa using List.all_eq_true.1 ch t c)⟩)
  cg
