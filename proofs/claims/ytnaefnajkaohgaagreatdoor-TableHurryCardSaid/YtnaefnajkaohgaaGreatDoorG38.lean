/- Part 38 of TableHurry. -/
import Derived.Shelf.Sort.Plain
import Derived.Test.YtnaefnajkaohgaaGreatDoorG05
set_option linter.all false
namespace Go.AL
open Go Go.Proofs Go.Shelf Go.RowKit Go.Lib Go.Sort
theorem tu.of{P:Program}{ρ:Ren}(L:Lays.n189 P ρ):tu P (ρ.f 189):=⟨Any.slices_Sort_int L⟩
