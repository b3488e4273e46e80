/- 45 -/
import Derived.Test.YtmehofoficaelaaGreatDoorV43
import Derived.Test.YtmehofoficaelaaGreatDoorV44
set_option linter.all false
namespace Go.Proofs.YtmehofoficaelaaGreatDoor
open Go Go.AL Classical
set_option maxRecDepth 10000
set_option maxHeartbeats 16000000
def adK:Wf T 24 [] [] (Is (.b true)):=by refine Ev.mono k24 λr a=>?_;obtain⟨x,b,a⟩:=a;rw[List.mem_singleton]at b;subst b;exact⟨_,_,a,rfl,rfl⟩
@[irreducible] def fC(d:{ d:D // closed d=true }):List D:=[d.1]
theorem Qr(d:{ d:D // closed d=true }):fC d = [d.1]:=by unfold fC;rfl
instance:Fl fC 1:=⟨λ_=>by rw[Qr];rfl,λd=>by rw[Qr];simp[gK,d.2]⟩
theorem V6:∀ {xs:List D},gK xs=true->∃L,xs=cl fC L
 | [],_=>⟨[],fZ⟩
 | d::r,h=>by simp only[gK,ai]at h;obtain⟨L,e⟩:=V6 h.2;subst e;exact⟨⟨d,h.1⟩::L,by rw[nb,Qr];rfl⟩
