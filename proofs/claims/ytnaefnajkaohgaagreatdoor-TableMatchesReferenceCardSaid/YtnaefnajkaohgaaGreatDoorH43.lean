/- 43 -/
import Derived.Test.YtnaefnajkaohgaaGreatDoorH42
import Derived.Test.YtnaefnajkaohgaaGreatDoorH30
set_option linter.all false
namespace Go.Proofs.YtnaefnajkaohgaaGreatDoor
open Go Go.AL Classical
set_option maxRecDepth 10000
set_option maxHeartbeats 16000000
def Ng{n:Int}(h:0≤n∧n<256):IntKind.i64.wrap n=n:=pf oO
theorem RF{g:eH}{l:List Pos}{m:List Int}(hg:fe g)(hc:jo g l){bu:Int}(hb:1≤bu∧bu≤9223372036854775807):∀ (ps:List (List Int)) (_:∀ p∈ps,p∈mP m l) (v:List eO) (b:List Bool) (t:Int),v.length=l.length→b.length=l.length→(tM g l (eS g l) bu ps v b t).2.1.length=l.length
 | [],_,v,b,t,hv,_=>hv
 | p::ps,h,v,b,t,hv,pS=>by
  have o:=(zk (Kp hg hc hb (h p (by simp))) bu hv pS).1
  rw[tM]
  exact RF hg hc hb ps (fun q hq=>h q (by simp[hq])) _ _ _ o.1 o.2
def aaC{g:eH}{l:List Pos}{m:List Int}{n:Int}(hg:fe g)(hc:jo g l)(hn:1≤n∧n≤9223372036854775807):(qZ g l m n).2.1.length=l.length∧True:=
 ⟨RF hg hc hn (mP m l) (fun p hp=>hp) _ _ 0 (by simp) (by simp),trivial⟩
