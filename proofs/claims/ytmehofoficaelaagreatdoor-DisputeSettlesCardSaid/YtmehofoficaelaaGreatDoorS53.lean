/- Part 53 of DisputeSettles. -/
import Derived.Test.YtmehofoficaelaaGreatDoorS48
import Derived.Test.YtmehofoficaelaaGreatDoorS49
import Derived.Test.YtmehofoficaelaaGreatDoorS50
import Derived.Test.YtmehofoficaelaaGreatDoorS51
import Derived.Test.YtmehofoficaelaaGreatDoorS52
set_option linter.all false
namespace Go.Proofs.YtmehofoficaelaaGreatDoor
open Go.ChangeShapes Go.WideShapes Go.ChangeAt Go.RowKit Go.AL
set_option maxRecDepth 100000
def l8{a b:Bool}(h:a=true)(k:b=true):(a && b)=true:=by rw[h,k];rfl
def jf:joinedFacts Tryz.checked.prog 10 Tryz.f10 Rows.disputeSettlesSpec Rows.disputeSettlesRow=true:=(l8 (l8 (l8 (l8 (l8 (l8 (l8 (l8 (l8 (l8 (l8 (l8 (l8 (l8 (l8 (l8 (l8 (l8 (l8 (l8 (l8 (l8 (l8 (l8 (l8 (l8 (l8 (l8 (l8 (l8 (l8 j0 j1) j2) j3) j4) j5) j6) j7) j8) j9) j10) j11) j12) j13) j14) j15) j16) j17) j18) j19) j20) j21) j22) j23) j24) j25) j26) j27) j28) j29) j30) j31)
def aef:Rows.DisputeSettlesSaid:=
 OpenClaim.holds_of_wide 10 Tryz.f10 rfl rfl rfl rfl rfl rfl rfl ⟨rfl,rfl,rfl,rfl,rfl⟩ rfl rfl rfl rfl rfl (by kernel_rfl) Tryz.func10 jf
  (of_decide_eq_true (by kernel_rfl)) (by unfold Func.isWrapper;first|(rw[if_pos (by decide +kernel)];kernel_rfl)|(rw[if_neg (by decide +kernel)];exact⟨rfl,rfl⟩))
  (λos a H enc _=>lifted os a H enc)
