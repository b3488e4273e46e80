/- Part 51 of the proof of skewer.skewerlaw15.TableZero. -/
import Derived.Test.YtnaefnajkaohgaaGreatDoorF46
import Derived.Test.YtnaefnajkaohgaaGreatDoorF47
import Derived.Test.YtnaefnajkaohgaaGreatDoorF48
import Derived.Test.YtnaefnajkaohgaaGreatDoorF49
import Derived.Test.YtnaefnajkaohgaaGreatDoorF50
set_option linter.all false
namespace Go.Proofs.YtnaefnajkaohgaaGreatDoor
open Go.ChangeShapes Go.WideShapes Go.ChangeAt Go.RowKit Go.AL
set_option maxRecDepth 100000
theorem jd{a b:Bool}(h:a=true)(k:b=true):(a && b)=true:=by rw[h,k];rfl
theorem jf:joinedFacts Tryz.checked.prog 6 Tryz.f6 Rows.tableZeroSpec Rows.tableZeroRow=true:=(jd (jd (jd (jd (jd (jd (jd (jd (jd (jd (jd (jd (jd (jd (jd (jd (jd (jd (jd (jd (jd (jd (jd (jd (jd (jd (jd (jd (jd (jd (jd j0 j1) j2) j3) j4) j5) j6) j7) j8) j9) SM) SN) SO) SP) SQ) SR) SS) SU) SV) SY) SZ) S0) S1) S2) S3) S4) S5) S6) S7) S8) S9) Ta)
theorem Z5:Rows.TableZeroSaid:=
 OpenClaim.holds_of_wide 6 Tryz.f6 rfl rfl rfl rfl rfl rfl rfl ⟨rfl,rfl,rfl,rfl,rfl⟩ rfl rfl rfl rfl rfl (by kernel_rfl) Tryz.func6 jf
  (of_decide_eq_true (by kernel_rfl)) (by unfold Func.isWrapper;first|(rw[if_pos (by decide +kernel)];kernel_rfl)|(rw[if_neg (by decide +kernel)];exact⟨rfl,rfl⟩))
  (fun os started H enc _=>lifted os started H enc)
