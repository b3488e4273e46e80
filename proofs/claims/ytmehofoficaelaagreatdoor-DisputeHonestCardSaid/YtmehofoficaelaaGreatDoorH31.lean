/- Part 31 of DisputeHonest. -/
import Derived.Shelf.Sort.Plain
import Derived.Test.YtmehofoficaelaaGreatDoorH06
set_option linter.all false
namespace Go.AL
open Go Go.Proofs Go.Shelf Go.RowKit Go.Lib Go.Sort
theorem y8.of{P:Program}{ρ:Ren}(L:Lays.n189 P ρ):y8 P (ρ.f 189):=⟨Any.slices_Sort_int L⟩
