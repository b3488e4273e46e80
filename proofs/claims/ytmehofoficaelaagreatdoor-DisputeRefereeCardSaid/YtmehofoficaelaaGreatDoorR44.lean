/- Part 44 of DisputeReferee. -/
import Derived.Test.YtmehofoficaelaaGreatDoorR42
import Derived.Test.YtmehofoficaelaaGreatDoorR43
set_option linter.all false
namespace Go.Proofs.YtmehofoficaelaaGreatDoor
open Go Go.AL Classical
set_option maxRecDepth 10000
set_option maxHeartbeats 16000000
theorem abe:Wf T 24 [] [] (Is (.b true)):=by refine Ev.mono k24 λr a=>?_;obtain⟨x,b,a⟩:=a;rw[List.mem_singleton]at b;subst b;exact⟨_,_,a,rfl,rfl⟩
@[irreducible] def fC(d:{ d:D // closed d=true }):List D:=[d.1]
theorem Oa(d:{ d:D // closed d=true }):fC d = [d.1]:=by unfold fC;rfl
instance:Fl fC 1:=⟨λ_=>by rw[Oa];rfl,λd=>by rw[Oa];simp[gh,d.2]⟩
theorem TT:∀ {xs:List D},gh xs=true->∃L,xs=cl fC L
 | [],_=>⟨[],by simp⟩
 | d::r,h=>by simp only[gh,Bool.and_eq_true]at h;obtain⟨L,e⟩:=TT h.2;subst e;exact⟨⟨d,h.1⟩::L,by rw[mi,Oa];rfl⟩
