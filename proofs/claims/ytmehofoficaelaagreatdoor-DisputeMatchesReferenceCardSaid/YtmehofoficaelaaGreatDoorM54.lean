/-
  PROVED: whatever the input, skewer/skewerlaw18.DisputeMatchesReference returns true, and the arguments read as they did. CONDITIONS: the card's own: the listed variables read as the program's text lays them; nothing else.
  How: the program is read as code for an abstract interpreter (M01 ..), whose relation is proved sound for the machine; the contracts of the functions are proved over it.
-/
import Derived.Test.YtmehofoficaelaaGreatDoorM53
set_option linter.all false
namespace Go.Proofs.YtmehofoficaelaaGreatDoor
open Go.ChangeShapes Go.WideShapes Go.ChangeAt Go.RowKit Go.AL
set_option maxRecDepth 100000
def cw:Rows.disputeMatchesReferenceRow.wfByText (OpenSpec.ofChange Rows.disputeMatchesReferenceSpec)=true:=gw
def cm:Tryz.pinned.checked.prog.mainIs=some (Rows.disputeMatchesReferenceCard.stood.harness.1,Rows.disputeMatchesReferenceCard.stood.harness.2.toList):=gw
def cq:false=Tryz.pinned.checked.prog.looks []:=gw
def cg:false=Rows.disputeMatchesReferenceRow.goesBy Tryz.pinned.checked.prog:=gw
def cn:Tryz.prog.funcNamed "skewer/skewerlaw18.DisputeMatchesReference" = some 4:=gw
def ch:([32, 77, 78].all λu => !Tryz.prog.wantsStandIn u)=true:=gw
theorem disputeMatchesReference_card:Rows.DisputeMatchesReferenceCardSaid:=
 Claim7.holds_tied_plain_at .later [] _ _ _ _ aeR (λ_ h=>by cases h) cw (λ_ h=>by cases h) disputeMatchesReference_row_tie rfl ⟨rfl,rfl⟩ cm rfl
  (λf fn c d=>by
   obtain rfl:f=4:=bT (cn.symm.trans c) |>.symm;obtain rfl:fn=Tryz.f4:=(bT (Tryz.func4.symm.trans d)).symm
   exact⟨cq,λj t a=>by
    rw[Tryz.params4]at a;have b:t∈[32, 77, 78]:=by simpa using Array.mem_of_getElem? a
    exact(show Tryz.prog.wantsStandIn t=false by simpa using List.all_eq_true.1 ch t b)⟩)
  cg
