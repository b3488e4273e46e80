/- 45 -/
import Derived.Test.YtmehofoficaelaaGreatDoorP43
import Derived.Test.YtmehofoficaelaaGreatDoorP44
set_option linter.all false
namespace Go.Proofs.YtmehofoficaelaaGreatDoor
open Go Go.AL Classical
set_option maxRecDepth 10000
set_option maxHeartbeats 16000000
@[irreducible] def fC(d:{ d:D // closed d=true }):List D:=[d.1]
theorem T0(d:{ d:D // closed d=true }):fC d = [d.1]:=by unfold fC;rfl
instance:Fl fC 1:=⟨λ_=>by rw[T0];rfl,λd=>by rw[T0];simp[iB,d.2]⟩
theorem aaC:∀ {xs:List D},iB xs=true->∃L,xs=cl fC L
 | [],_=>⟨[],gP⟩
 | d::r,h=>by simp only[iB,Bool.and_eq_true]at h;obtain⟨L,e⟩:=aaC h.2;subst e;exact⟨⟨d,h.1⟩::L,by rw[oG,T0];rfl⟩
