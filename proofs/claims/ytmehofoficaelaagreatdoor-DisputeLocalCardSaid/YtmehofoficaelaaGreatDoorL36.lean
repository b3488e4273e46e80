/- Part 36 of DisputeLocal. -/
import Derived.Shelf.Sort.Plain
import Derived.Test.YtmehofoficaelaaGreatDoorL06
set_option linter.all false
namespace Go.AL
open Go Go.Proofs Go.Shelf Go.RowKit Go.Lib Go.Sort
def wU.of{P:Program}{ρ:Ren}(L:Lays.n189 P ρ):wU P (ρ.f 189):=⟨Any.slices_Sort_int L⟩
