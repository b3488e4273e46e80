/- Part 45 of the proof of skewer.skewerlaw15.TableSlices. -/
import Derived.Test.YtnaefnajkaohgaaGreatDoorC43
import Derived.Test.YtnaefnajkaohgaaGreatDoorC32
set_option linter.all false
namespace Go.Proofs.YtnaefnajkaohgaaGreatDoor
open Go Go.AL Classical
set_option maxRecDepth 10000
set_option maxHeartbeats 16000000
theorem wrap8{n:Int}(h:0≤n∧n<256):IntKind.i64.wrap n=n:=wrapI64 ⟨by omega,by omega⟩
theorem mkR_len{g:Game}{l:List Pos}{m:List Int}(hg:GameOK g)(hc:Closed2 g l){bu:Int}(hb:1≤bu∧bu≤9223372036854775807):∀ (ps:List (List Int)) (_:∀ p∈ps,p∈cutL m l) (v:List Stp) (b:List Bool) (t:Int),v.length=l.length→b.length=l.length→(mkR g l (nextI g l) bu ps v b t).2.1.length=l.length
 | [],_,v,b,t,hv,_=>hv
 | p::ps,h,v,b,t,hv,hbl=>by
  have o:=(fillR_out (fok hg hc hb (h p (by simp))) bu hv hbl).1
  rw[mkR]
  exact mkR_len hg hc hb ps (fun q hq=>h q (by simp[hq])) _ _ _ o.1 o.2
end Go.Proofs.YtnaefnajkaohgaaGreatDoor
