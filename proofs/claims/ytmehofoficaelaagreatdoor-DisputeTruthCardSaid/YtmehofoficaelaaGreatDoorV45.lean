/- Part 45 of DisputeTruth. -/
import Derived.Test.YtmehofoficaelaaGreatDoorV43
import Derived.Test.YtmehofoficaelaaGreatDoorV44
set_option linter.all false
namespace Go.Proofs.YtmehofoficaelaaGreatDoor
open Go Go.AL Classical
set_option maxRecDepth 10000
set_option maxHeartbeats 16000000
theorem adk:Wf T 24 [] [] (Is (.b true)):=by refine Ev.mono k24 λr a=>?_;obtain⟨x,b,a⟩:=a;rw[List.mem_singleton]at b;subst b;exact⟨_,_,a,rfl,rfl⟩
@[irreducible] def fC(d:{ d:D // closed d=true }):List D:=[d.1]
theorem PX(d:{ d:D // closed d=true }):fC d = [d.1]:=by unfold fC;rfl
instance:Fl fC 1:=⟨λ_=>by rw[PX];rfl,λd=>by rw[PX];simp[gw,d.2]⟩
theorem VK:∀ {xs:List D},gw xs=true->∃L,xs=cl fC L
 | [],_=>⟨[],by simp⟩
 | d::r,h=>by simp only[gw,Bool.and_eq_true]at h;obtain⟨L,e⟩:=VK h.2;subst e;exact⟨⟨d,h.1⟩::L,by rw[mO,PX];rfl⟩
