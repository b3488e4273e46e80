/-
  PROVED: whatever the input, skewer/skewerlaw18.DisputeLocal returns true, and the arguments read as they did. CONDITIONS: the card's own: the listed variables read as the program's text lays them; nothing else.
  How: the program is read as code for an abstract interpreter (L01 ..), whose relation is proved sound for the machine; the contracts of the functions are proved over it.
-/
import Derived.Test.YtmehofoficaelaaGreatDoorL53
set_option linter.all false
namespace Go.Proofs.YtmehofoficaelaaGreatDoor
open Go.ChangeShapes Go.WideShapes Go.ChangeAt Go.RowKit Go.AL
set_option maxRecDepth 100000
def cw:Rows.disputeLocalRow.wfByText (OpenSpec.ofChange Rows.disputeLocalSpec)=true:=by kernel_rfl
def cm:Tryz.pinned.checked.prog.mainIs=some (Rows.disputeLocalCard.stood.harness.1,Rows.disputeLocalCard.stood.harness.2.toList):=by kernel_rfl
def cq:false=Tryz.pinned.checked.prog.looks []:=by kernel_rfl
def cg:false=Rows.disputeLocalRow.goesBy Tryz.pinned.checked.prog:=by kernel_rfl
def cn:Tryz.prog.funcNamed "skewer/skewerlaw18.DisputeLocal" = some 8:=by kernel_rfl
def ch:([32,75].all fun u => !Tryz.prog.wantsStandIn u)=true:=by kernel_rfl
theorem disputeLocal_card:Rows.DisputeLocalCardSaid:=
 Claim7.holds_tied_plain_at .later [] _ _ _ _ Vq (fun _ h=>by cases h) cw (fun _ h=>by cases h) disputeLocal_row_tie rfl ⟨rfl,rfl⟩ cm rfl
  (fun f fn hf XM=>by
   obtain rfl:f=8:=cA (cn.symm.trans hf) |>.symm
   obtain rfl:fn=Tryz.f8:=(cA (Tryz.func8.symm.trans XM)).symm
   exact⟨cq,fun j t ht=>by
    rw[Tryz.params8]at ht
    have hm:t∈[32,75]:=by simpa using Array.mem_of_getElem? ht
    exact(show Tryz.prog.wantsStandIn t=false by simpa using ar.1 ch t hm)⟩)
  cg
