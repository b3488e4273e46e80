/- Part 35 of the proof of skewer.skewerlaw15.TableValues. -/
import Derived.Shelf.Sort.Plain
import Derived.Test.YtnaefnajkaohgaaGreatDoorE05
set_option linter.all false
namespace Go.AL
open Go Go.Proofs Go.Shelf Go.RowKit Go.Lib Go.Sort
theorem vf.of{P:Program}{ρ:Ren}(L:Lays.n189 P ρ):vf P (ρ.f 189):=⟨Any.slices_Sort_int L⟩
