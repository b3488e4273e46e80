/-
  DERIVED. GIVEN WITH THE SEED: THE CARDS: each row of YtnaefnajkaohgaaGreatDoorRows.lean that lists a variable, with what it lists TIED to the program's text (the seventh form; the later family's looks); each row that meets fmt, with fmt's text TOLD by the authors' own Lean function (tested against real Go, not proved from fmt's source: count such statements apart). THE CARD IS WHAT COUNTS. Prove the row's statement (the work); the ties are given (YtnaefnajkaohgaaGreatDoorTie.lean); close each card by the builder's one call (the guide's Derived/Test/ToyasCard.lean, 'card_holds'). Laid BY PROGRAM, IN A SANDBOX (cutbox-door.mjs). By AI agents, Wed Nov 11 2026. No macro, syntax, notation, axiom, sorry.
-/
import Derived.Test.YtnaefnajkaohgaaGreatDoorRows
import GoSem.ClaimSeven
namespace Go.Proofs.YtnaefnajkaohgaaGreatDoor
namespace Rows

/-- THE TIED CARD OF 'skewerlaw15.TableMatchesReference'. -/
def tableMatchesReferenceCard : Claim7 := { stood := { row := tableMatchesReferenceRow, standIns := [], harness := (true, "dced053931d18a6dc908d5d096d80a0ab726f99fbdb69416f7fd496347dff39c"), looks := false }, kinds := [], alts := [], laidByText := true, laidKinds := [.data, .data, .data, .funcs], laidTests := true, laidLooks := .later }
def TableMatchesReferenceCardSaid : Prop := Claim7.holds Tryz.pinned (.plain (OpenSpec.ofChange tableMatchesReferenceSpec)) tableMatchesReferenceCard

/-- THE TIED CARD OF 'skewerlaw15.TableLoads'. -/
def tableLoadsCard : Claim7 := { stood := { row := tableLoadsRow, standIns := [], harness := (true, "dced053931d18a6dc908d5d096d80a0ab726f99fbdb69416f7fd496347dff39c"), looks := false }, kinds := [], alts := [], laidByText := true, laidKinds := [.data, .data, .data, .funcs], laidTests := true, laidLooks := .later }
def TableLoadsCardSaid : Prop := Claim7.holds Tryz.pinned (.plain (OpenSpec.ofChange tableLoadsSpec)) tableLoadsCard

/-- THE TIED CARD OF 'skewerlaw15.TableSlices'. -/
def tableSlicesCard : Claim7 := { stood := { row := tableSlicesRow, standIns := [], harness := (true, "dced053931d18a6dc908d5d096d80a0ab726f99fbdb69416f7fd496347dff39c"), looks := false }, kinds := [], alts := [], laidByText := true, laidKinds := [.data, .data, .data, .funcs], laidTests := true, laidLooks := .later }
def TableSlicesCardSaid : Prop := Claim7.holds Tryz.pinned (.plain (OpenSpec.ofChange tableSlicesSpec)) tableSlicesCard

/-- THE TIED CARD OF 'skewerlaw15.TableZero'. -/
def tableZeroCard : Claim7 := { stood := { row := tableZeroRow, standIns := [], harness := (true, "dced053931d18a6dc908d5d096d80a0ab726f99fbdb69416f7fd496347dff39c"), looks := false }, kinds := [], alts := [], laidByText := true, laidKinds := [.data, .data, .data, .funcs], laidTests := true, laidLooks := .later }
def TableZeroCardSaid : Prop := Claim7.holds Tryz.pinned (.plain (OpenSpec.ofChange tableZeroSpec)) tableZeroCard

/-- THE TIED CARD OF 'skewerlaw15.TableHurry'. -/
def tableHurryCard : Claim7 := { stood := { row := tableHurryRow, standIns := [], harness := (true, "dced053931d18a6dc908d5d096d80a0ab726f99fbdb69416f7fd496347dff39c"), looks := false }, kinds := [], alts := [], laidByText := true, laidKinds := [.data, .data, .data, .funcs], laidTests := true, laidLooks := .later }
def TableHurryCardSaid : Prop := Claim7.holds Tryz.pinned (.plain (OpenSpec.ofChange tableHurrySpec)) tableHurryCard

/-- THE TIED CARD OF 'skewerlaw15.TableRefuses'. -/
def tableRefusesCard : Claim7 := { stood := { row := tableRefusesRow, standIns := [], harness := (true, "dced053931d18a6dc908d5d096d80a0ab726f99fbdb69416f7fd496347dff39c"), looks := false }, kinds := [], alts := [], laidByText := true, laidKinds := [.data, .data, .data, .funcs], laidTests := true, laidLooks := .later }
def TableRefusesCardSaid : Prop := Claim7.holds Tryz.pinned (.plain (OpenSpec.ofChange tableRefusesSpec)) tableRefusesCard

/-- THE TIED CARD OF 'skewerlaw15.TableAgain'. -/
def tableAgainCard : Claim7 := { stood := { row := tableAgainRow, standIns := [], harness := (true, "dced053931d18a6dc908d5d096d80a0ab726f99fbdb69416f7fd496347dff39c"), looks := false }, kinds := [], alts := [], laidByText := true, laidKinds := [.data, .data, .data, .funcs], laidTests := true, laidLooks := .later }
def TableAgainCardSaid : Prop := Claim7.holds Tryz.pinned (.plain (OpenSpec.ofChange tableAgainSpec)) tableAgainCard

/-- THE TIED CARD OF 'skewerlaw15.TableValues'. -/
def tableValuesCard : Claim7 := { stood := { row := tableValuesRow, standIns := [], harness := (true, "dced053931d18a6dc908d5d096d80a0ab726f99fbdb69416f7fd496347dff39c"), looks := false }, kinds := [], alts := [], laidByText := true, laidKinds := [.data, .data, .data, .funcs], laidTests := true, laidLooks := .later }
def TableValuesCardSaid : Prop := Claim7.holds Tryz.pinned (.plain (OpenSpec.ofChange tableValuesSpec)) tableValuesCard

/-- THE SECOND FORM's CARD OF 'skewerlaw15.TableMatchesReference'. -/
def tableMatchesReferenceUptoCard : Claim7 := { stood := { row := tableMatchesReferenceUptoRow, standIns := [], harness := (true, "dced053931d18a6dc908d5d096d80a0ab726f99fbdb69416f7fd496347dff39c"), looks := false }, kinds := [], alts := [], laidByText := true, laidKinds := [.data, .data, .data, .funcs], laidTests := true, laidLooks := .later }
def TableMatchesReferenceUptoCardSaid : Prop := Claim7.holds Tryz.pinned (.plain (OpenSpec.upto tableMatchesReferenceSpec)) tableMatchesReferenceUptoCard

/-- THE SECOND FORM's CARD OF 'skewerlaw15.TableLoads'. -/
def tableLoadsUptoCard : Claim7 := { stood := { row := tableLoadsUptoRow, standIns := [], harness := (true, "dced053931d18a6dc908d5d096d80a0ab726f99fbdb69416f7fd496347dff39c"), looks := false }, kinds := [], alts := [], laidByText := true, laidKinds := [.data, .data, .data, .funcs], laidTests := true, laidLooks := .later }
def TableLoadsUptoCardSaid : Prop := Claim7.holds Tryz.pinned (.plain (OpenSpec.upto tableLoadsSpec)) tableLoadsUptoCard

/-- THE SECOND FORM's CARD OF 'skewerlaw15.TableSlices'. -/
def tableSlicesUptoCard : Claim7 := { stood := { row := tableSlicesUptoRow, standIns := [], harness := (true, "dced053931d18a6dc908d5d096d80a0ab726f99fbdb69416f7fd496347dff39c"), looks := false }, kinds := [], alts := [], laidByText := true, laidKinds := [.data, .data, .data, .funcs], laidTests := true, laidLooks := .later }
def TableSlicesUptoCardSaid : Prop := Claim7.holds Tryz.pinned (.plain (OpenSpec.upto tableSlicesSpec)) tableSlicesUptoCard

/-- THE SECOND FORM's CARD OF 'skewerlaw15.TableZero'. -/
def tableZeroUptoCard : Claim7 := { stood := { row := tableZeroUptoRow, standIns := [], harness := (true, "dced053931d18a6dc908d5d096d80a0ab726f99fbdb69416f7fd496347dff39c"), looks := false }, kinds := [], alts := [], laidByText := true, laidKinds := [.data, .data, .data, .funcs], laidTests := true, laidLooks := .later }
def TableZeroUptoCardSaid : Prop := Claim7.holds Tryz.pinned (.plain (OpenSpec.upto tableZeroSpec)) tableZeroUptoCard

/-- THE SECOND FORM's CARD OF 'skewerlaw15.TableHurry'. -/
def tableHurryUptoCard : Claim7 := { stood := { row := tableHurryUptoRow, standIns := [], harness := (true, "dced053931d18a6dc908d5d096d80a0ab726f99fbdb69416f7fd496347dff39c"), looks := false }, kinds := [], alts := [], laidByText := true, laidKinds := [.data, .data, .data, .funcs], laidTests := true, laidLooks := .later }
def TableHurryUptoCardSaid : Prop := Claim7.holds Tryz.pinned (.plain (OpenSpec.upto tableHurrySpec)) tableHurryUptoCard

/-- THE SECOND FORM's CARD OF 'skewerlaw15.TableRefuses'. -/
def tableRefusesUptoCard : Claim7 := { stood := { row := tableRefusesUptoRow, standIns := [], harness := (true, "dced053931d18a6dc908d5d096d80a0ab726f99fbdb69416f7fd496347dff39c"), looks := false }, kinds := [], alts := [], laidByText := true, laidKinds := [.data, .data, .data, .funcs], laidTests := true, laidLooks := .later }
def TableRefusesUptoCardSaid : Prop := Claim7.holds Tryz.pinned (.plain (OpenSpec.upto tableRefusesSpec)) tableRefusesUptoCard

/-- THE SECOND FORM's CARD OF 'skewerlaw15.TableAgain'. -/
def tableAgainUptoCard : Claim7 := { stood := { row := tableAgainUptoRow, standIns := [], harness := (true, "dced053931d18a6dc908d5d096d80a0ab726f99fbdb69416f7fd496347dff39c"), looks := false }, kinds := [], alts := [], laidByText := true, laidKinds := [.data, .data, .data, .funcs], laidTests := true, laidLooks := .later }
def TableAgainUptoCardSaid : Prop := Claim7.holds Tryz.pinned (.plain (OpenSpec.upto tableAgainSpec)) tableAgainUptoCard

/-- THE SECOND FORM's CARD OF 'skewerlaw15.TableValues'. -/
def tableValuesUptoCard : Claim7 := { stood := { row := tableValuesUptoRow, standIns := [], harness := (true, "dced053931d18a6dc908d5d096d80a0ab726f99fbdb69416f7fd496347dff39c"), looks := false }, kinds := [], alts := [], laidByText := true, laidKinds := [.data, .data, .data, .funcs], laidTests := true, laidLooks := .later }
def TableValuesUptoCardSaid : Prop := Claim7.holds Tryz.pinned (.plain (OpenSpec.upto tableValuesSpec)) tableValuesUptoCard
end Rows
end Go.Proofs.YtnaefnajkaohgaaGreatDoor
