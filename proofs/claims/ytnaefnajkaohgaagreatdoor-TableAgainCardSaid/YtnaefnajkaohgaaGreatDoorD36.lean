/- Part 36 of the proof of skewer.skewerlaw15.TableAgain. -/
import Derived.Shelf.Sort.Plain
import Derived.Test.YtnaefnajkaohgaaGreatDoorD05
set_option linter.all false
namespace Go.AL
open Go Go.Proofs Go.Shelf Go.RowKit Go.Lib Go.Sort
theorem uI.of{P:Program}{ρ:Ren}(L:Lays.n189 P ρ):uI P (ρ.f 189):=⟨Any.slices_Sort_int L⟩
