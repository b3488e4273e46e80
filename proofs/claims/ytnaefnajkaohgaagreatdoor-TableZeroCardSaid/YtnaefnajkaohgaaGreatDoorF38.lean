/- Part 38 of the proof of skewer.skewerlaw15.TableZero. -/
import Derived.Shelf.Sort.Plain
import Derived.Test.YtnaefnajkaohgaaGreatDoorF05
set_option linter.all false
namespace Go.AL
open Go Go.Proofs Go.Shelf Go.RowKit Go.Lib Go.Sort
theorem ta.of{P:Program}{ρ:Ren}(L:Lays.n189 P ρ):ta P (ρ.f 189):=⟨Any.slices_Sort_int L⟩
