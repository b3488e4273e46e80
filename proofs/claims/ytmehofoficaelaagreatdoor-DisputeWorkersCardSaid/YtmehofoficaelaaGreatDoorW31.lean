/- Part 31 of DisputeWorkers. -/
import Derived.Shelf.Sort.Plain
import Derived.Test.YtmehofoficaelaaGreatDoorW06
set_option linter.all false
namespace Go.AL
open Go Go.Proofs Go.Shelf Go.RowKit Go.Lib Go.Sort
theorem AY.of{P:Program}{ρ:Ren}(L:Lays.n189 P ρ):AY P (ρ.f 189):=⟨Any.slices_Sort_int L⟩
