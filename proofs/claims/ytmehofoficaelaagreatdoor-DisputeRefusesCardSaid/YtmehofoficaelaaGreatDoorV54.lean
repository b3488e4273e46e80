/-
  PROVED: whatever the input, skewer/skewerlaw18.DisputeRefuses returns true, and the arguments read as they did. CONDITIONS: the card's own: the listed variables read as the program's text lays them; nothing else.
  How: the program is read as code for an abstract interpreter (V01 ..), whose relation is proved sound for the machine; the contracts of the functions are proved over it.
-/
import Derived.Test.YtmehofoficaelaaGreatDoorV53
set_option linter.all false
namespace Go.Proofs.YtmehofoficaelaaGreatDoor
open Go.ChangeShapes Go.WideShapes Go.ChangeAt Go.RowKit Go.AL
set_option maxRecDepth 100000
def cw:Rows.disputeRefusesRow.wfByText (OpenSpec.ofChange Rows.disputeRefusesSpec)=true:=gu
def cm:Tryz.pinned.checked.prog.mainIs=some (Rows.disputeRefusesCard.stood.harness.1,Rows.disputeRefusesCard.stood.harness.2.toList):=gu
def cq:false=Tryz.pinned.checked.prog.looks []:=gu
def cg:false=Rows.disputeRefusesRow.goesBy Tryz.pinned.checked.prog:=gu
def cn:Tryz.prog.funcNamed "skewer/skewerlaw18.DisputeRefuses" = some 9:=gu
def ch:([32, 77, 3].all λu => !Tryz.prog.wantsStandIn u)=true:=gu
theorem disputeRefuses_card:Rows.DisputeRefusesCardSaid:=
 Claim7.holds_tied_plain_at .later [] _ _ _ _ adn (λ_ h=>by cases h) cw (λ_ h=>by cases h) disputeRefuses_row_tie rfl ⟨rfl,rfl⟩ cm rfl
  (λf fn d a=>by
   obtain rfl:f=9:=bZ (cn.symm.trans d) |>.symm;obtain rfl:fn=Tryz.f9:=(bZ (Tryz.func9.symm.trans a)).symm
   exact⟨cq,λj t b=>by
    rw[Tryz.params9]at b;have c:t∈[32, 77, 3]:=by simpa using Array.mem_of_getElem? b
    exact(show Tryz.prog.wantsStandIn t=false by simpa using List.all_eq_true.1 ch t c)⟩)
  cg
