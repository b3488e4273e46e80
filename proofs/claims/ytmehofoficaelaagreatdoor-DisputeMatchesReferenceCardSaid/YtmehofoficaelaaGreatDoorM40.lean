/- Part 40 of DisputeMatchesReference. -/
import Derived.Test.YtmehofoficaelaaGreatDoorM39
set_option linter.all false
namespace Go.Proofs.YtmehofoficaelaaGreatDoor
open Go Go.AL Classical
set_option maxRecDepth 10000
set_option maxHeartbeats 16000000
def afd:Wf T 24 [] [] (Is (.b true)):=by refine Ev.mono k24 λr a=>?_;obtain⟨x,b,a⟩:=a;rw[List.mem_singleton]at b;subst b;exact⟨_,_,a,rfl,rfl⟩
@[irreducible] def fC(d:{ d:D // closed d=true }):List D:=[d.1]
theorem RK(d:{ d:D // closed d=true }):fC d = [d.1]:=by unfold fC;rfl
instance:Fl fC 1:=⟨λ_=>by rw[RK];rfl,λd=>by rw[RK];simp[gN,d.2]⟩
theorem XI:∀ {xs:List D},gN xs=true->∃L,xs=cl fC L
 | [],_=>⟨[],gf⟩
 | d::r,h=>by simp only[gN,ai]at h;obtain⟨L,e⟩:=XI h.2;subst e;exact⟨⟨d,h.1⟩::L,by rw[nS,RK];rfl⟩
