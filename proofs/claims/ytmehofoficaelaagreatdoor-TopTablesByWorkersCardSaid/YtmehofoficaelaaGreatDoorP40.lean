/- 40 -/
import Derived.Test.YtmehofoficaelaaGreatDoorP39
import Derived.Test.YtmehofoficaelaaGreatDoorP26
set_option linter.all false
open List renaming length→List.l
namespace Go.Proofs.YtmehofoficaelaaGreatDoor
open Go Go.AL Classical
set_option maxRecDepth 10000
set_option maxHeartbeats 16000000
theorem adl{g:gY}{l:List Pos}{m:List Int}(hg:iE g)(a:qq g l){bu:Int}(c:1<=bu/\bu<=9223372036854775807):∀(ps:List (List Int)) (_:∀p∈ps,p∈pR m l) (v:List gT) (b:List Bool) (t:Int),v.l=l.l->b.l=l.l->(AH g l (iq g l) bu ps v b t).2.1.l=l.l
 | [],_,v,b,t,hv,_=>hv
 | p::ps,h,v,b,t,hv,l4=>by have o:=(Bz (F8 hg a c (h p gP)) bu hv l4).1;rw[AH];exact adl hg a c ps (λq d=>h q (by simp[d])) _ _ _ o.1 o.2
def amg{g:gY}{l:List Pos}{m:List Int}{n:Int}(hg:iE g)(c:qq g l)(b:1<=n/\n<=9223372036854775807):(zr g l m n).2.1.l=l.l/\True:=
 ⟨adl hg c b (pR m l) (λp a=>a) _ _ 0 gP gP,trivial⟩
