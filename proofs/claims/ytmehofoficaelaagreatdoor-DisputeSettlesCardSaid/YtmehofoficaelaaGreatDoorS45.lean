/- Part 45 of DisputeSettles. -/
import Derived.Test.YtmehofoficaelaaGreatDoorS43
import Derived.Test.YtmehofoficaelaaGreatDoorS44
set_option linter.all false
namespace Go.Proofs.YtmehofoficaelaaGreatDoor
open Go Go.AL Classical
set_option maxRecDepth 10000
set_option maxHeartbeats 16000000
def aeB:Wf T 24 [] [] (Is (.b true)):=by refine Ev.mono k24 λr a=>?_;obtain⟨x,b,a⟩:=a;rw[List.mem_singleton]at b;subst b;exact⟨_,_,a,rfl,rfl⟩
@[irreducible] def fC(d:{ d:D // closed d=true }):List D:=[d.1]
theorem Q7(d:{ d:D // closed d=true }):fC d = [d.1]:=by unfold fC;rfl
instance:Fl fC 1:=⟨λ_=>by rw[Q7];rfl,λd=>by rw[Q7];simp[gG,d.2]⟩
theorem W0:∀ {xs:List D},gG xs=true->∃L,xs=cl fC L
 | [],_=>⟨[],by simp⟩
 | d::r,h=>by simp only[gG,Bool.and_eq_true]at h;obtain⟨L,e⟩:=W0 h.2;subst e;exact⟨⟨d,h.1⟩::L,by rw[mD,Q7];rfl⟩
