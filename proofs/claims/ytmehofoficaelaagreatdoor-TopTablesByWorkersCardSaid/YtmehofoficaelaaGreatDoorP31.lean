/- 31 -/
import Derived.Shelf.Sort.Plain
import Derived.Test.YtmehofoficaelaaGreatDoorP06
set_option linter.all false
namespace Go.AL
open Go Go.Proofs Go.Shelf Go.RowKit Go.Lib Go.Sort
def C2.of{P:Program}{ρ:Ren}(L:Lays.n189 P ρ):C2 P (ρ.f 189):=⟨Any.slices_Sort_int L⟩
