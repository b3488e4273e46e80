/- Part 52 of TableHurry. -/
import Derived.Test.YtnaefnajkaohgaaGreatDoorG47
import Derived.Test.YtnaefnajkaohgaaGreatDoorG48
import Derived.Test.YtnaefnajkaohgaaGreatDoorG49
import Derived.Test.YtnaefnajkaohgaaGreatDoorG50
import Derived.Test.YtnaefnajkaohgaaGreatDoorG51
set_option linter.all false
namespace Go.Proofs.YtnaefnajkaohgaaGreatDoor
open Go.ChangeShapes Go.WideShapes Go.ChangeAt Go.RowKit Go.AL
set_option maxRecDepth 100000
theorem jh{a b:Bool}(h:a=true)(k:b=true):(a && b)=true:=by rw[h,k];rfl
theorem jf:joinedFacts Tryz.checked.prog 7 Tryz.f7 Rows.tableHurrySpec Rows.tableHurryRow=true:=(jh (jh (jh (jh (jh (jh (jh (jh (jh (jh (jh (jh (jh (jh (jh (jh (jh (jh (jh (jh (jh (jh (jh (jh (jh (jh (jh (jh (jh (jh (jh j0 j1) j2) j3) j4) j5) j6) j7) j8) j9) Ta) Tb) Tc) Td) Te) Tf) Tg) Th) Ti) Tj) Tk) Tl) Tm) Tn) To) Tp) Tq) Tr) Ts) Tt) Tu) Tv)
theorem aao:Rows.TableHurrySaid:=
 OpenClaim.holds_of_wide 7 Tryz.f7 rfl rfl rfl rfl rfl rfl rfl ⟨rfl,rfl,rfl,rfl,rfl⟩ rfl rfl rfl rfl rfl (by kernel_rfl) Tryz.func7 jf
  (of_decide_eq_true (by kernel_rfl)) (by unfold Func.isWrapper;first|(rw[if_pos (by decide +kernel)];kernel_rfl)|(rw[if_neg (by decide +kernel)];exact⟨rfl,rfl⟩))
  (fun os started H enc _=>lifted os started H enc)
