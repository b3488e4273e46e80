/- 30 -/
import Derived.Test.YtnaefnajkaohgaaGreatDoorH27
import Derived.Test.YtnaefnajkaohgaaGreatDoorH28
import Derived.Test.YtnaefnajkaohgaaGreatDoorH29
set_option linter.all false
namespace Go.Proofs.YtnaefnajkaohgaaGreatDoor
open Go Go.AL Classical
set_option maxRecDepth 10000
set_option maxHeartbeats 8000000
def f11:Wf T 11 [] [] (Is (.b true)):=by
 refine Ev.mono k5 fun r hr=>?_
 obtain⟨x,hx,hr⟩:=hr
 rw[List.mem_singleton]at hx
 subst hx
 exact⟨_,_,hr,rfl,rfl⟩
def VD:Wf T 24 [.eG,.eG] [] (Is (.b true)):=by
 refine Yg yP ?_
 simp[yP]
 refine eN.un ?_
 refine iP.u ?_
 simp
def Kf(a b c d:Int):Wf T 17 [.agg [.eG,.i a,.i b],.agg [.eG,.i c,.i d]] [] (Is (.b (decide (a=c)&&decide (b=d)))):=by
 refine Yg yK ?_
 simp[yK]
 refine Yc (VD) ?_
 simp
 by_cases h:a=c
 ·simp[h]
 ·simp[h]
def f18(g:eH)(m:List Int)(l:List Pos)(n e:Int)(h:Wf T 42 [dG g,.agg [dI m],e7 l,.i n] [] (Is (.tup [.eG,.i 0,.i e]))):Wf T 18 [dG g,.agg [dI m],e7 l,.i n] [] (Is (.agg [.eG,.i 0,.i e])):=by
 refine Yg yM ?_
 simp[yM]
 refine Yc (h) ?_
 simp
def f20(g:eH)(l:List Pos)(v:List eO)(p:D)(hp:closed p=true)(n e:Int)(h:Wf T 45 [dG g,e7 l,fh v,p,.i n] [] (Is (.tup [.eG,.i 0,.i e]))):Wf T 20 [dG g,e7 l,fh v,p,.i n] [] (Is (.agg [.eG,.i 0,.i e])):=by
 refine Yg yN ?_
 simp[yN]
 refine fg.c rfl rfl h (by simp[hp]) (by simp) ?_
 simp
