/-
  PROVED: whatever the input, skewer/skewertop.TopTablesByWorkers returns true, and the arguments read as they did. CONDITIONS: the card's own: the listed variables read as the program's text lays them; nothing else.
  How: the program is read as code for an abstract interpreter, proved sound for the machine (P01 ..).
-/
import Derived.Test.YtmehofoficaelaaGreatDoorP53
set_option linter.all false
namespace Go.Proofs.YtmehofoficaelaaGreatDoor
open Go.ChangeShapes Go.WideShapes Go.ChangeAt Go.RowKit Go.AL
set_option maxRecDepth 100000
def cw:Rows.topTablesByWorkersRow.wfByText (OpenSpec.ofChange Rows.topTablesByWorkersSpec)=true:=ia
def cm:Tryz.pinned.checked.prog.mainIs=some (Rows.topTablesByWorkersCard.stood.harness.1,Rows.topTablesByWorkersCard.stood.harness.2.toList):=ia
def cq:false=Tryz.pinned.checked.prog.looks []:=ia
def cg:false=Rows.topTablesByWorkersRow.goesBy Tryz.pinned.checked.prog:=ia
def cn:Tryz.prog.funcNamed "skewer/skewertop.TopTablesByWorkers" = some 3:=ia
def ch:([32, 33, 34].all λu => !Tryz.prog.wantsStandIn u)=true:=ia
theorem topTablesByWorkers_card:Rows.TopTablesByWorkersCardSaid:=
 Claim7.holds_tied_plain_at .later [] _ _ _ _ atW (λ_ h=>by cases h) cw (λ_ h=>by cases h) topTablesByWorkers_row_tie rfl ⟨rfl,rfl⟩ cm rfl
  (λf fn d a=>by
   obtain rfl:f=3:=cA (cn.symm.trans d) |>.symm;obtain rfl:fn=Tryz.f3:=(cA (Tryz.func3.symm.trans a)).symm
   exact⟨cq,λj t b=>by
    rw[Tryz.params3]at b;have c:t∈[32, 33, 34]:=by simpa using Array.mem_of_getElem? b
    exact(show Tryz.prog.wantsStandIn t=false by simpa using List.all_eq_true.1 ch t c)⟩)
  cg
