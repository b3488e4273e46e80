/- Part 53 of DisputeLocal. -/
import Derived.Test.YtmehofoficaelaaGreatDoorL48
import Derived.Test.YtmehofoficaelaaGreatDoorL49
import Derived.Test.YtmehofoficaelaaGreatDoorL50
import Derived.Test.YtmehofoficaelaaGreatDoorL51
import Derived.Test.YtmehofoficaelaaGreatDoorL52
set_option linter.all false
namespace Go.Proofs.YtmehofoficaelaaGreatDoor
open Go.ChangeShapes Go.WideShapes Go.ChangeAt Go.RowKit Go.AL
set_option maxRecDepth 100000
def kT{a b:Bool}(h:a=true)(k:b=true):(a && b)=true:=by rw[h,k];rfl
def jf:joinedFacts Tryz.checked.prog 8 Tryz.f8 Rows.disputeLocalSpec Rows.disputeLocalRow=true:=(kT (kT (kT (kT (kT (kT (kT (kT (kT (kT (kT (kT (kT (kT (kT (kT (kT (kT (kT (kT (kT (kT (kT (kT (kT (kT (kT (kT (kT (kT (kT j0 j1) j2) j3) j4) j5) j6) j7) j8) j9) Za) Zc) Zd) Ze) Zf) Zg) Zh) Zi) Zj) Zk) Zl) Zm) Zn) Zo) Zp) Zq) Zr) Zs) Zt) Zu) Zv) Zx)
def Vq:Rows.DisputeLocalSaid:=
 OpenClaim.holds_of_wide 8 Tryz.f8 rfl rfl rfl rfl rfl rfl rfl ⟨rfl,rfl,rfl,rfl,rfl⟩ rfl rfl rfl rfl rfl (by kernel_rfl) Tryz.func8 jf
  (of_decide_eq_true (by kernel_rfl)) (by unfold Func.isWrapper;first|(rw[if_pos (by decide +kernel)];kernel_rfl)|(rw[if_neg (by decide +kernel)];exact⟨rfl,rfl⟩))
  (fun os started H enc _=>lifted os started H enc)
