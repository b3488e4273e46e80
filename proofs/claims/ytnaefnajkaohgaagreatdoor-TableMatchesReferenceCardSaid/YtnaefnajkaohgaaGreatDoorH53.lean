/- 53 -/
import Derived.Test.YtnaefnajkaohgaaGreatDoorH48
import Derived.Test.YtnaefnajkaohgaaGreatDoorH49
import Derived.Test.YtnaefnajkaohgaaGreatDoorH50
import Derived.Test.YtnaefnajkaohgaaGreatDoorH51
import Derived.Test.YtnaefnajkaohgaaGreatDoorH52
set_option linter.all false
namespace Go.Proofs.YtnaefnajkaohgaaGreatDoor
open Go.ChangeShapes Go.WideShapes Go.ChangeAt Go.RowKit Go.AL
set_option maxRecDepth 100000
def kO{a b:Bool}(h:a=true)(k:b=true):(a && b)=true:=by rw[h,k];rfl
def jf:joinedFacts Tryz.checked.prog 3 Tryz.f3 Rows.tableMatchesReferenceSpec Rows.tableMatchesReferenceRow=true:=(kO (kO (kO (kO (kO (kO (kO (kO (kO (kO (kO (kO (kO (kO (kO (kO (kO (kO (kO (kO (kO (kO (kO (kO (kO (kO (kO (kO (kO (kO (kO j0 j1) j2) j3) j4) j5) j6) j7) j8) j9) Zt) Zu) Zv) Zw) Zx) Zy) Zz) ZA) ZB) ZC) ZD) ZE) ZG) ZH) ZJ) ZK) ZL) ZM) ZN) ZO) ZP) ZQ)
def agJ:Rows.TableMatchesReferenceSaid:=
 OpenClaim.holds_of_wide 3 Tryz.f3 rfl rfl rfl rfl rfl rfl rfl ⟨rfl,rfl,rfl,rfl,rfl⟩ rfl rfl rfl rfl rfl (by kernel_rfl) Tryz.func3 jf
  (of_decide_eq_true (by kernel_rfl)) (by unfold Func.isWrapper;first|(rw[if_pos (by decide +kernel)];kernel_rfl)|(rw[if_neg (by decide +kernel)];exact⟨rfl,rfl⟩))
  (fun os started H enc _=>lifted os started H enc)
