/- Part 37 of the proof of skewer.skewerlaw15.TableSlices. -/
import Derived.Shelf.Sort.Plain
import Derived.Test.YtnaefnajkaohgaaGreatDoorC05
set_option linter.all false
namespace Go.AL
open Go Go.Proofs Go.Shelf Go.RowKit Go.Lib Go.Sort
theorem SortIOK.of{P:Program}{ρ:Ren}(L:Lays.n189 P ρ):SortIOK P (ρ.f 189):=⟨Any.slices_Sort_int L⟩
end Go.AL
