/- Part 31 of DisputeSettles. -/
import Derived.Shelf.Sort.Plain
import Derived.Test.YtmehofoficaelaaGreatDoorS06
set_option linter.all false
namespace Go.AL
open Go Go.Proofs Go.Shelf Go.RowKit Go.Lib Go.Sort
def Bb.of{P:Program}{ρ:Ren}(L:Lays.n189 P ρ):Bb P (ρ.f 189):=⟨Any.slices_Sort_int L⟩
