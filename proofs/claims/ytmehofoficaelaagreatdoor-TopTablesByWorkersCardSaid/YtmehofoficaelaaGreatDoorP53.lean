/- 53 -/
import Derived.Test.YtmehofoficaelaaGreatDoorP48
import Derived.Test.YtmehofoficaelaaGreatDoorP49
import Derived.Test.YtmehofoficaelaaGreatDoorP50
import Derived.Test.YtmehofoficaelaaGreatDoorP51
import Derived.Test.YtmehofoficaelaaGreatDoorP52
set_option linter.all false
namespace Go.Proofs.YtmehofoficaelaaGreatDoor
open Go.ChangeShapes Go.WideShapes Go.ChangeAt Go.RowKit Go.AL
set_option maxRecDepth 100000
def ni{a b:Bool}(h:a=true)(k:b=true):(a && b)=true:=by rw[h,k];rfl
def jf:joinedFacts Tryz.checked.prog 3 Tryz.f3 Rows.topTablesByWorkersSpec Rows.topTablesByWorkersRow=true:=(ni (ni (ni (ni (ni (ni (ni (ni (ni (ni (ni (ni (ni (ni (ni (ni (ni (ni (ni (ni (ni (ni (ni (ni (ni (ni (ni (ni (ni (ni (ni j0 j1) j2) j3) j4) j5) j6) j7) j8) j9) j10) j11) j12) j13) j14) j15) j16) j17) j18) j19) j20) j21) j22) j23) j24) j25) j26) j27) j28) j29) j30) j31)
def atW:Rows.TopTablesByWorkersSaid:=
 OpenClaim.holds_of_wide 3 Tryz.f3 rfl rfl rfl rfl rfl rfl rfl ⟨rfl,rfl,rfl,rfl,rfl⟩ rfl rfl rfl rfl rfl ia Tryz.func3 jf
  (of_decide_eq_true ia) (by unfold Func.isWrapper;first|(rw[if_pos (by decide +kernel)];kernel_rfl)|(rw[if_neg (by decide +kernel)];exact⟨rfl,rfl⟩))
  (λos a H enc _=>lifted os a H enc)
