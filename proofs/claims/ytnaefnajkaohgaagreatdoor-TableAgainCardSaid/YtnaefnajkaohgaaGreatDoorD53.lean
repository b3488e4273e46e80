/- Part 53 of the proof of skewer.skewerlaw15.TableAgain. -/
import Derived.Test.YtnaefnajkaohgaaGreatDoorD48
import Derived.Test.YtnaefnajkaohgaaGreatDoorD49
import Derived.Test.YtnaefnajkaohgaaGreatDoorD50
import Derived.Test.YtnaefnajkaohgaaGreatDoorD51
import Derived.Test.YtnaefnajkaohgaaGreatDoorD52
set_option linter.all false
namespace Go.Proofs.YtnaefnajkaohgaaGreatDoor
open Go.ChangeShapes Go.WideShapes Go.ChangeAt Go.RowKit Go.AL
set_option maxRecDepth 100000
theorem jC{a b:Bool}(h:a=true)(k:b=true):(a && b)=true:=by rw[h,k];rfl
theorem jf:joinedFacts Tryz.checked.prog 9 Tryz.f9 Rows.tableAgainSpec Rows.tableAgainRow=true:=(jC (jC (jC (jC (jC (jC (jC (jC (jC (jC (jC (jC (jC (jC (jC (jC (jC (jC (jC (jC (jC (jC (jC (jC (jC (jC (jC (jC (jC (jC (jC j0 j1) j2) j3) j4) j5) j6) j7) j8) j9) VH) VI) VJ) VK) VL) VM) VN) VO) VP) VQ) VR) VT) VU) VV) VW) VX) VY) VZ) V0) V1) V2) V3)
theorem ac0:Rows.TableAgainSaid:=
 OpenClaim.holds_of_wide 9 Tryz.f9 rfl rfl rfl rfl rfl rfl rfl ⟨rfl,rfl,rfl,rfl,rfl⟩ rfl rfl rfl rfl rfl (by kernel_rfl) Tryz.func9 jf
  (of_decide_eq_true (by kernel_rfl)) (by unfold Func.isWrapper;first|(rw[if_pos (by decide +kernel)];kernel_rfl)|(rw[if_neg (by decide +kernel)];exact⟨rfl,rfl⟩))
  (fun os started H enc _=>lifted os started H enc)
