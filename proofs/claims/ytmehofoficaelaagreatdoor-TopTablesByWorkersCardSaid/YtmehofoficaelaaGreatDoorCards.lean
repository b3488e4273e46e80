/-
  DERIVED. GIVEN WITH THE SEED: THE CARDS: each row of YtmehofoficaelaaGreatDoorRows.lean that lists a variable, with what it lists TIED to the program's text (the seventh form; the later family's looks); each row that meets fmt, with fmt's text TOLD by the authors' own Lean function (tested against real Go, not proved from fmt's source: count such statements apart). THE CARD IS WHAT COUNTS. Prove the row's statement (the work); the ties are given (YtmehofoficaelaaGreatDoorTie.lean); close each card by the builder's one call (the guide's Derived/Test/ToyasCard.lean, 'card_holds'). Laid BY PROGRAM, IN A SANDBOX (cutbox-door.mjs). By AI agents, Wed Nov 11 2026. No macro, syntax, notation, axiom, sorry.
-/
import Derived.Test.YtmehofoficaelaaGreatDoorRows
import GoSem.ClaimSeven
namespace Go.Proofs.YtmehofoficaelaaGreatDoor
namespace Rows

/-- THE TIED CARD OF 'skewertop.TopTablesByWorkers'. -/
def topTablesByWorkersCard : Claim7 := { stood := { row := topTablesByWorkersRow, standIns := [], harness := (true, "7a92e48ef906bbb913df031f2f301df785975f7892bdca7ded9a12234352f5f5"), looks := false }, kinds := [], alts := [], laidByText := true, laidKinds := [.data, .data, .data, .data, .data, .funcs], laidTests := true, laidLooks := .later }
def TopTablesByWorkersCardSaid : Prop := Claim7.holds Tryz.pinned (.plain (OpenSpec.ofChange topTablesByWorkersSpec)) topTablesByWorkersCard

/-- THE TIED CARD OF 'skewerlaw18.DisputeMatchesReference'. -/
def disputeMatchesReferenceCard : Claim7 := { stood := { row := disputeMatchesReferenceRow, standIns := [], harness := (true, "7a92e48ef906bbb913df031f2f301df785975f7892bdca7ded9a12234352f5f5"), looks := false }, kinds := [], alts := [], laidByText := true, laidKinds := [.data, .data, .data, .data, .data, .funcs], laidTests := true, laidLooks := .later }
def DisputeMatchesReferenceCardSaid : Prop := Claim7.holds Tryz.pinned (.plain (OpenSpec.ofChange disputeMatchesReferenceSpec)) disputeMatchesReferenceCard

/-- THE TIED CARD OF 'skewerlaw18.DisputeHonest'. -/
def disputeHonestCard : Claim7 := { stood := { row := disputeHonestRow, standIns := [], harness := (true, "7a92e48ef906bbb913df031f2f301df785975f7892bdca7ded9a12234352f5f5"), looks := false }, kinds := [], alts := [], laidByText := true, laidKinds := [.data, .data, .data, .data, .data, .funcs], laidTests := true, laidLooks := .later }
def DisputeHonestCardSaid : Prop := Claim7.holds Tryz.pinned (.plain (OpenSpec.ofChange disputeHonestSpec)) disputeHonestCard

/-- THE TIED CARD OF 'skewerlaw18.DisputeTruth'. -/
def disputeTruthCard : Claim7 := { stood := { row := disputeTruthRow, standIns := [], harness := (true, "7a92e48ef906bbb913df031f2f301df785975f7892bdca7ded9a12234352f5f5"), looks := false }, kinds := [], alts := [], laidByText := true, laidKinds := [.data, .data, .data, .data, .data, .funcs], laidTests := true, laidLooks := .later }
def DisputeTruthCardSaid : Prop := Claim7.holds Tryz.pinned (.plain (OpenSpec.ofChange disputeTruthSpec)) disputeTruthCard

/-- THE TIED CARD OF 'skewerlaw18.DisputeReferee'. -/
def disputeRefereeCard : Claim7 := { stood := { row := disputeRefereeRow, standIns := [], harness := (true, "7a92e48ef906bbb913df031f2f301df785975f7892bdca7ded9a12234352f5f5"), looks := false }, kinds := [], alts := [], laidByText := true, laidKinds := [.data, .data, .data, .data, .data, .funcs], laidTests := true, laidLooks := .later }
def DisputeRefereeCardSaid : Prop := Claim7.holds Tryz.pinned (.plain (OpenSpec.ofChange disputeRefereeSpec)) disputeRefereeCard

/-- THE TIED CARD OF 'skewerlaw18.DisputeLocal'. -/
def disputeLocalCard : Claim7 := { stood := { row := disputeLocalRow, standIns := [], harness := (true, "7a92e48ef906bbb913df031f2f301df785975f7892bdca7ded9a12234352f5f5"), looks := false }, kinds := [], alts := [], laidByText := true, laidKinds := [.data, .data, .data, .data, .data, .funcs], laidTests := true, laidLooks := .later }
def DisputeLocalCardSaid : Prop := Claim7.holds Tryz.pinned (.plain (OpenSpec.ofChange disputeLocalSpec)) disputeLocalCard

/-- THE TIED CARD OF 'skewerlaw18.DisputeRefuses'. -/
def disputeRefusesCard : Claim7 := { stood := { row := disputeRefusesRow, standIns := [], harness := (true, "7a92e48ef906bbb913df031f2f301df785975f7892bdca7ded9a12234352f5f5"), looks := false }, kinds := [], alts := [], laidByText := true, laidKinds := [.data, .data, .data, .data, .data, .funcs], laidTests := true, laidLooks := .later }
def DisputeRefusesCardSaid : Prop := Claim7.holds Tryz.pinned (.plain (OpenSpec.ofChange disputeRefusesSpec)) disputeRefusesCard

/-- THE TIED CARD OF 'skewerlaw18.DisputeSettles'. -/
def disputeSettlesCard : Claim7 := { stood := { row := disputeSettlesRow, standIns := [], harness := (true, "7a92e48ef906bbb913df031f2f301df785975f7892bdca7ded9a12234352f5f5"), looks := false }, kinds := [], alts := [], laidByText := true, laidKinds := [.data, .data, .data, .data, .data, .funcs], laidTests := true, laidLooks := .later }
def DisputeSettlesCardSaid : Prop := Claim7.holds Tryz.pinned (.plain (OpenSpec.ofChange disputeSettlesSpec)) disputeSettlesCard

/-- THE TIED CARD OF 'skewerlaw18.DisputeWorkers'. -/
def disputeWorkersCard : Claim7 := { stood := { row := disputeWorkersRow, standIns := [], harness := (true, "7a92e48ef906bbb913df031f2f301df785975f7892bdca7ded9a12234352f5f5"), looks := false }, kinds := [], alts := [], laidByText := true, laidKinds := [.data, .data, .data, .data, .data, .funcs], laidTests := true, laidLooks := .later }
def DisputeWorkersCardSaid : Prop := Claim7.holds Tryz.pinned (.plain (OpenSpec.ofChange disputeWorkersSpec)) disputeWorkersCard

/-- THE SECOND FORM's CARD OF 'skewertop.TopTablesByWorkers'. -/
def topTablesByWorkersUptoCard : Claim7 := { stood := { row := topTablesByWorkersUptoRow, standIns := [], harness := (true, "7a92e48ef906bbb913df031f2f301df785975f7892bdca7ded9a12234352f5f5"), looks := false }, kinds := [], alts := [], laidByText := true, laidKinds := [.data, .data, .data, .data, .data, .funcs], laidTests := true, laidLooks := .later }
def TopTablesByWorkersUptoCardSaid : Prop := Claim7.holds Tryz.pinned (.plain (OpenSpec.upto topTablesByWorkersSpec)) topTablesByWorkersUptoCard

/-- THE SECOND FORM's CARD OF 'skewerlaw18.DisputeMatchesReference'. -/
def disputeMatchesReferenceUptoCard : Claim7 := { stood := { row := disputeMatchesReferenceUptoRow, standIns := [], harness := (true, "7a92e48ef906bbb913df031f2f301df785975f7892bdca7ded9a12234352f5f5"), looks := false }, kinds := [], alts := [], laidByText := true, laidKinds := [.data, .data, .data, .data, .data, .funcs], laidTests := true, laidLooks := .later }
def DisputeMatchesReferenceUptoCardSaid : Prop := Claim7.holds Tryz.pinned (.plain (OpenSpec.upto disputeMatchesReferenceSpec)) disputeMatchesReferenceUptoCard

/-- THE SECOND FORM's CARD OF 'skewerlaw18.DisputeHonest'. -/
def disputeHonestUptoCard : Claim7 := { stood := { row := disputeHonestUptoRow, standIns := [], harness := (true, "7a92e48ef906bbb913df031f2f301df785975f7892bdca7ded9a12234352f5f5"), looks := false }, kinds := [], alts := [], laidByText := true, laidKinds := [.data, .data, .data, .data, .data, .funcs], laidTests := true, laidLooks := .later }
def DisputeHonestUptoCardSaid : Prop := Claim7.holds Tryz.pinned (.plain (OpenSpec.upto disputeHonestSpec)) disputeHonestUptoCard

/-- THE SECOND FORM's CARD OF 'skewerlaw18.DisputeTruth'. -/
def disputeTruthUptoCard : Claim7 := { stood := { row := disputeTruthUptoRow, standIns := [], harness := (true, "7a92e48ef906bbb913df031f2f301df785975f7892bdca7ded9a12234352f5f5"), looks := false }, kinds := [], alts := [], laidByText := true, laidKinds := [.data, .data, .data, .data, .data, .funcs], laidTests := true, laidLooks := .later }
def DisputeTruthUptoCardSaid : Prop := Claim7.holds Tryz.pinned (.plain (OpenSpec.upto disputeTruthSpec)) disputeTruthUptoCard

/-- THE SECOND FORM's CARD OF 'skewerlaw18.DisputeReferee'. -/
def disputeRefereeUptoCard : Claim7 := { stood := { row := disputeRefereeUptoRow, standIns := [], harness := (true, "7a92e48ef906bbb913df031f2f301df785975f7892bdca7ded9a12234352f5f5"), looks := false }, kinds := [], alts := [], laidByText := true, laidKinds := [.data, .data, .data, .data, .data, .funcs], laidTests := true, laidLooks := .later }
def DisputeRefereeUptoCardSaid : Prop := Claim7.holds Tryz.pinned (.plain (OpenSpec.upto disputeRefereeSpec)) disputeRefereeUptoCard

/-- THE SECOND FORM's CARD OF 'skewerlaw18.DisputeLocal'. -/
def disputeLocalUptoCard : Claim7 := { stood := { row := disputeLocalUptoRow, standIns := [], harness := (true, "7a92e48ef906bbb913df031f2f301df785975f7892bdca7ded9a12234352f5f5"), looks := false }, kinds := [], alts := [], laidByText := true, laidKinds := [.data, .data, .data, .data, .data, .funcs], laidTests := true, laidLooks := .later }
def DisputeLocalUptoCardSaid : Prop := Claim7.holds Tryz.pinned (.plain (OpenSpec.upto disputeLocalSpec)) disputeLocalUptoCard

/-- THE SECOND FORM's CARD OF 'skewerlaw18.DisputeRefuses'. -/
def disputeRefusesUptoCard : Claim7 := { stood := { row := disputeRefusesUptoRow, standIns := [], harness := (true, "7a92e48ef906bbb913df031f2f301df785975f7892bdca7ded9a12234352f5f5"), looks := false }, kinds := [], alts := [], laidByText := true, laidKinds := [.data, .data, .data, .data, .data, .funcs], laidTests := true, laidLooks := .later }
def DisputeRefusesUptoCardSaid : Prop := Claim7.holds Tryz.pinned (.plain (OpenSpec.upto disputeRefusesSpec)) disputeRefusesUptoCard

/-- THE SECOND FORM's CARD OF 'skewerlaw18.DisputeSettles'. -/
def disputeSettlesUptoCard : Claim7 := { stood := { row := disputeSettlesUptoRow, standIns := [], harness := (true, "7a92e48ef906bbb913df031f2f301df785975f7892bdca7ded9a12234352f5f5"), looks := false }, kinds := [], alts := [], laidByText := true, laidKinds := [.data, .data, .data, .data, .data, .funcs], laidTests := true, laidLooks := .later }
def DisputeSettlesUptoCardSaid : Prop := Claim7.holds Tryz.pinned (.plain (OpenSpec.upto disputeSettlesSpec)) disputeSettlesUptoCard

/-- THE SECOND FORM's CARD OF 'skewerlaw18.DisputeWorkers'. -/
def disputeWorkersUptoCard : Claim7 := { stood := { row := disputeWorkersUptoRow, standIns := [], harness := (true, "7a92e48ef906bbb913df031f2f301df785975f7892bdca7ded9a12234352f5f5"), looks := false }, kinds := [], alts := [], laidByText := true, laidKinds := [.data, .data, .data, .data, .data, .funcs], laidTests := true, laidLooks := .later }
def DisputeWorkersUptoCardSaid : Prop := Claim7.holds Tryz.pinned (.plain (OpenSpec.upto disputeWorkersSpec)) disputeWorkersUptoCard
end Rows
end Go.Proofs.YtmehofoficaelaaGreatDoor
