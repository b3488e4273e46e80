/- Part 52 of the proof of skewer.skewerlaw15.TableValues. -/
import Derived.Test.YtnaefnajkaohgaaGreatDoorE47
import Derived.Test.YtnaefnajkaohgaaGreatDoorE48
import Derived.Test.YtnaefnajkaohgaaGreatDoorE49
import Derived.Test.YtnaefnajkaohgaaGreatDoorE50
import Derived.Test.YtnaefnajkaohgaaGreatDoorE51
set_option linter.all false
namespace Go.Proofs.YtnaefnajkaohgaaGreatDoor
open Go.ChangeShapes Go.WideShapes Go.ChangeAt Go.RowKit Go.AL
set_option maxRecDepth 100000
theorem jO{a b:Bool}(h:a=true)(k:b=true):(a && b)=true:=by rw[h,k];rfl
theorem jf:joinedFacts Tryz.checked.prog 10 Tryz.f10 Rows.tableValuesSpec Rows.tableValuesRow=true:=(jO (jO (jO (jO (jO (jO (jO (jO (jO (jO (jO (jO (jO (jO (jO (jO (jO (jO (jO (jO (jO (jO (jO (jO (jO (jO (jO (jO (jO (jO (jO j0 j1) j2) j3) j4) j5) j6) j7) j8) j9) W1) W2) W3) W4) W5) W6) W7) W8) W9) Xa) Xb) Xc) Xd) Xe) Xf) Xh) Xi) Xj) Xl) Xm) Xn) Xo)
theorem aet:Rows.TableValuesSaid:=
 OpenClaim.holds_of_wide 10 Tryz.f10 rfl rfl rfl rfl rfl rfl rfl ⟨rfl,rfl,rfl,rfl,rfl⟩ rfl rfl rfl rfl rfl (by kernel_rfl) Tryz.func10 jf
  (of_decide_eq_true (by kernel_rfl)) (by unfold Func.isWrapper;first|(rw[if_pos (by decide +kernel)];kernel_rfl)|(rw[if_neg (by decide +kernel)];exact⟨rfl,rfl⟩))
  (fun os started H enc _=>lifted os started H enc)
