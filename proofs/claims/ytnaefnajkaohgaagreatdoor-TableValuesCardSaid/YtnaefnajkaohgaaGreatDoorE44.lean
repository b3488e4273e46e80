/- Part 44 of the proof of skewer.skewerlaw15.TableValues. -/
import Derived.Test.YtnaefnajkaohgaaGreatDoorE43
import Derived.Test.YtnaefnajkaohgaaGreatDoorE39
import Derived.Test.YtnaefnajkaohgaaGreatDoorE38
import Derived.Test.YtnaefnajkaohgaaGreatDoorE30
set_option linter.all false
namespace Go.Proofs.YtnaefnajkaohgaaGreatDoor
open Go Go.AL Classical
set_option maxRecDepth 10000
set_option maxHeartbeats 16000000
theorem PQ{g:eU}{l:List Pos}{m:List Int}(hg:fr g)(hc:mQ g l){bu:Int}(hb:1≤bu∧bu≤9223372036854775807):∀ (ps:List (List Int)) (_:∀ p∈ps,p∈lA m l) (v:List eY) (b:List Bool) (t:Int),v.length=l.length→b.length=l.length→(pM g l (fE g l) bu ps v b t).2.1.length=l.length
 | [],_,v,b,t,hv,_=>hv
 | p::ps,h,v,b,t,hv,od=>by
  have o:=(tZ (xF hg hc hb (h p (by simp))) bu hv od).1
  rw[pM]
  exact PQ hg hc hb ps (fun q hq=>h q (by simp[hq])) _ _ _ o.1 o.2
theorem Ys{g:eU}{l:List Pos}{m:List Int}{n:Int}(hg:fr g)(hc:mQ g l)(hn:1≤n∧n≤9223372036854775807):(pN g l m n).2.1.length=l.length∧True:=
 ⟨PQ hg hc hn (lA m l) (fun p hp=>hp) _ _ 0 (by simp) (by simp),trivial⟩
