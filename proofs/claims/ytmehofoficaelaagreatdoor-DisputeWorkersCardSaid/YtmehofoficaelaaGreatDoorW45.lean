/- Part 45 of DisputeWorkers. -/
import Derived.Test.YtmehofoficaelaaGreatDoorW43
import Derived.Test.YtmehofoficaelaaGreatDoorW44
set_option linter.all false
namespace Go.Proofs.YtmehofoficaelaaGreatDoor
open Go Go.AL Classical
set_option maxRecDepth 10000
set_option maxHeartbeats 16000000
theorem adI:Wf T 24 [] [] (Is (.b true)):=by refine Ev.mono k24 λr a=>?_;obtain⟨x,b,a⟩:=a;rw[List.mem_singleton]at b;subst b;exact⟨_,_,a,rfl,rfl⟩
@[irreducible] def fC(d:{ d:D // closed d=true }):List D:=[d.1]
theorem Qn(d:{ d:D // closed d=true }):fC d = [d.1]:=by unfold fC;rfl
instance:Fl fC 1:=⟨λ_=>by rw[Qn];rfl,λd=>by rw[Qn];simp[gF,d.2]⟩
theorem V5:∀ {xs:List D},gF xs=true->∃L,xs=cl fC L
 | [],_=>⟨[],by simp⟩
 | d::r,h=>by simp only[gF,Bool.and_eq_true]at h;obtain⟨L,e⟩:=V5 h.2;subst e;exact⟨⟨d,h.1⟩::L,by rw[nM,Qn];rfl⟩
