/- Part 53 of DisputeWorkers. -/
import Derived.Test.YtmehofoficaelaaGreatDoorW48
import Derived.Test.YtmehofoficaelaaGreatDoorW49
import Derived.Test.YtmehofoficaelaaGreatDoorW50
import Derived.Test.YtmehofoficaelaaGreatDoorW51
import Derived.Test.YtmehofoficaelaaGreatDoorW52
set_option linter.all false
namespace Go.Proofs.YtmehofoficaelaaGreatDoor
open Go.ChangeShapes Go.WideShapes Go.ChangeAt Go.RowKit Go.AL
set_option maxRecDepth 100000
theorem lZ{a b:Bool}(h:a=true)(k:b=true):(a && b)=true:=by rw[h,k];rfl
theorem jf:joinedFacts Tryz.checked.prog 11 Tryz.f11 Rows.disputeWorkersSpec Rows.disputeWorkersRow=true:=(lZ (lZ (lZ (lZ (lZ (lZ (lZ (lZ (lZ (lZ (lZ (lZ (lZ (lZ (lZ (lZ (lZ (lZ (lZ (lZ (lZ (lZ (lZ (lZ (lZ (lZ (lZ (lZ (lZ (lZ (lZ j0 j1) j2) j3) j4) j5) j6) j7) j8) j9) j10) j11) j12) j13) j14) j15) j16) j17) j18) j19) j20) j21) j22) j23) j24) j25) j26) j27) j28) j29) j30) j31)
theorem adh:Rows.DisputeWorkersSaid:=
 OpenClaim.holds_of_wide 11 Tryz.f11 rfl rfl rfl rfl rfl rfl rfl ⟨rfl,rfl,rfl,rfl,rfl⟩ rfl rfl rfl rfl rfl (by kernel_rfl) Tryz.func11 jf
  (of_decide_eq_true (by kernel_rfl)) (by unfold Func.isWrapper;first|(rw[if_pos (by decide +kernel)];kernel_rfl)|(rw[if_neg (by decide +kernel)];exact⟨rfl,rfl⟩))
  (λos a H enc _=>lifted os a H enc)
