/- Part 52 of DisputeReferee. -/
import Derived.Test.YtmehofoficaelaaGreatDoorR47
import Derived.Test.YtmehofoficaelaaGreatDoorR48
import Derived.Test.YtmehofoficaelaaGreatDoorR49
import Derived.Test.YtmehofoficaelaaGreatDoorR50
import Derived.Test.YtmehofoficaelaaGreatDoorR51
set_option linter.all false
namespace Go.Proofs.YtmehofoficaelaaGreatDoor
open Go.ChangeShapes Go.WideShapes Go.ChangeAt Go.RowKit Go.AL
set_option maxRecDepth 100000
theorem lC{a b:Bool}(h:a=true)(k:b=true):(a && b)=true:=by rw[h,k];rfl
theorem jf:joinedFacts Tryz.checked.prog 7 Tryz.f7 Rows.disputeRefereeSpec Rows.disputeRefereeRow=true:=(lC (lC (lC (lC (lC (lC (lC (lC (lC (lC (lC (lC (lC (lC (lC (lC (lC (lC (lC (lC (lC (lC (lC (lC (lC (lC (lC (lC (lC (lC (lC j0 j1) j2) j3) j4) j5) j6) j7) j8) j9) j10) j11) j12) j13) j14) j15) j16) j17) j18) j19) j20) j21) j22) j23) j24) j25) j26) j27) j28) j29) j30) j31)
theorem aaT:Rows.DisputeRefereeSaid:=
 OpenClaim.holds_of_wide 7 Tryz.f7 rfl rfl rfl rfl rfl rfl rfl ⟨rfl,rfl,rfl,rfl,rfl⟩ rfl rfl rfl rfl rfl (by kernel_rfl) Tryz.func7 jf
  (of_decide_eq_true (by kernel_rfl)) (by unfold Func.isWrapper;first|(rw[if_pos (by decide +kernel)];kernel_rfl)|(rw[if_neg (by decide +kernel)];exact⟨rfl,rfl⟩))
  (λos a H enc _=>lifted os a H enc)
