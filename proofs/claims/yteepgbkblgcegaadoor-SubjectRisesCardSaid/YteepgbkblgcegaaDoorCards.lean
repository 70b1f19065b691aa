/-
  DERIVED. GIVEN WITH THE SEED: THE CARDS: each row of YteepgbkblgcegaaDoorRows.lean that lists a variable, with what it lists TIED to the program's text (the seventh form; the later family's looks); each row that meets fmt, with fmt's text TOLD by the authors' own Lean function (tested against real Go, not proved from fmt's source: count such statements apart). THE CARD IS WHAT COUNTS. Prove the row's statement (the work); the ties are given (YteepgbkblgcegaaDoorTie.lean); close each card by the builder's one call (the guide's Derived/Test/ToyasCard.lean, 'card_holds'). Laid BY PROGRAM, IN A SANDBOX (cutbox-door.mjs). By AI agents, Wed Nov 11 2026. No macro, syntax, notation, axiom, sorry.
-/
import Derived.Test.YteepgbkblgcegaaDoorRows
import GoSem.ClaimSeven
namespace Go.Proofs.YteepgbkblgcegaaDoor
namespace Rows

/-- THE TIED CARD OF 'plimsolllaw16.SubjectActs'. -/
def subjectActsCard : Claim7 := { stood := { row := subjectActsRow, standIns := [], harness := (true, "aad7edf13359eca4a0948f025db5863f4f983339efa5adf770ef2625dafd188e"), looks := true }, kinds := [], alts := [], laidByText := true, laidKinds := [.handle, .sentinel], laidTests := true, laidLooks := .later }
def SubjectActsCardSaid : Prop := Claim7.holds Tryd.pinned (.plain (OpenSpec.ofChange subjectActsSpec)) subjectActsCard

/-- THE TIED CARD OF 'plimsolllaw16.SubjectRises'. -/
def subjectRisesCard : Claim7 := { stood := { row := subjectRisesRow, standIns := [], harness := (true, "aad7edf13359eca4a0948f025db5863f4f983339efa5adf770ef2625dafd188e"), looks := true }, kinds := [], alts := [], laidByText := true, laidKinds := [.handle, .sentinel], laidTests := true, laidLooks := .later }
def SubjectRisesCardSaid : Prop := Claim7.holds Tryd.pinned (.plain (OpenSpec.ofChange subjectRisesSpec)) subjectRisesCard

/-- THE TIED CARD OF 'plimsolllaw16.SubjectApart'. -/
def subjectApartCard : Claim7 := { stood := { row := subjectApartRow, standIns := [], harness := (true, "aad7edf13359eca4a0948f025db5863f4f983339efa5adf770ef2625dafd188e"), looks := true }, kinds := [], alts := [], laidByText := true, laidKinds := [.handle, .sentinel], laidTests := true, laidLooks := .later }
def SubjectApartCardSaid : Prop := Claim7.holds Tryd.pinned (.plain (OpenSpec.ofChange subjectApartSpec)) subjectApartCard

/-- THE TIED CARD OF 'plimsolllaw16.SubjectEnds'. -/
def subjectEndsCard : Claim7 := { stood := { row := subjectEndsRow, standIns := [], harness := (true, "aad7edf13359eca4a0948f025db5863f4f983339efa5adf770ef2625dafd188e"), looks := true }, kinds := [], alts := [], laidByText := true, laidKinds := [.handle, .sentinel], laidTests := true, laidLooks := .later }
def SubjectEndsCardSaid : Prop := Claim7.holds Tryd.pinned (.plain (OpenSpec.ofChange subjectEndsSpec)) subjectEndsCard

/-- THE TIED CARD OF 'plimsolllaw16.SubjectStarts'. -/
def subjectStartsCard : Claim7 := { stood := { row := subjectStartsRow, standIns := [], harness := (true, "aad7edf13359eca4a0948f025db5863f4f983339efa5adf770ef2625dafd188e"), looks := true }, kinds := [], alts := [], laidByText := true, laidKinds := [.handle, .sentinel], laidTests := true, laidLooks := .later }
def SubjectStartsCardSaid : Prop := Claim7.holds Tryd.pinned (.plain (OpenSpec.ofChange subjectStartsSpec)) subjectStartsCard

/-- THE TIED CARD OF 'plimsolllaw16.SubjectSeen'. -/
def subjectSeenCard : Claim7 := { stood := { row := subjectSeenRow, standIns := [], harness := (true, "aad7edf13359eca4a0948f025db5863f4f983339efa5adf770ef2625dafd188e"), looks := true }, kinds := [], alts := [], laidByText := true, laidKinds := [.handle, .sentinel], laidTests := true, laidLooks := .later }
def SubjectSeenCardSaid : Prop := Claim7.holds Tryd.pinned (.plain (OpenSpec.ofChange subjectSeenSpec)) subjectSeenCard

/-- THE TIED CARD OF 'plimsolllaw16.SubjectTells'. -/
def subjectTellsCard : Claim7 := { stood := { row := subjectTellsRow, standIns := [], harness := (true, "aad7edf13359eca4a0948f025db5863f4f983339efa5adf770ef2625dafd188e"), looks := true }, kinds := [], alts := [], laidByText := true, laidKinds := [.handle, .sentinel], laidTests := true, laidLooks := .later }
def SubjectTellsCardSaid : Prop := Claim7.holds Tryd.pinned (.plain (OpenSpec.ofChange subjectTellsSpec)) subjectTellsCard

/-- THE SECOND FORM's CARD OF 'plimsolllaw16.SubjectActs'. -/
def subjectActsUptoCard : Claim7 := { stood := { row := subjectActsUptoRow, standIns := [], harness := (true, "aad7edf13359eca4a0948f025db5863f4f983339efa5adf770ef2625dafd188e"), looks := true }, kinds := [], alts := [], laidByText := true, laidKinds := [.handle, .sentinel], laidTests := true, laidLooks := .later }
def SubjectActsUptoCardSaid : Prop := Claim7.holds Tryd.pinned (.plain (OpenSpec.upto subjectActsSpec)) subjectActsUptoCard

/-- THE SECOND FORM's CARD OF 'plimsolllaw16.SubjectRises'. -/
def subjectRisesUptoCard : Claim7 := { stood := { row := subjectRisesUptoRow, standIns := [], harness := (true, "aad7edf13359eca4a0948f025db5863f4f983339efa5adf770ef2625dafd188e"), looks := true }, kinds := [], alts := [], laidByText := true, laidKinds := [.handle, .sentinel], laidTests := true, laidLooks := .later }
def SubjectRisesUptoCardSaid : Prop := Claim7.holds Tryd.pinned (.plain (OpenSpec.upto subjectRisesSpec)) subjectRisesUptoCard

/-- THE SECOND FORM's CARD OF 'plimsolllaw16.SubjectApart'. -/
def subjectApartUptoCard : Claim7 := { stood := { row := subjectApartUptoRow, standIns := [], harness := (true, "aad7edf13359eca4a0948f025db5863f4f983339efa5adf770ef2625dafd188e"), looks := true }, kinds := [], alts := [], laidByText := true, laidKinds := [.handle, .sentinel], laidTests := true, laidLooks := .later }
def SubjectApartUptoCardSaid : Prop := Claim7.holds Tryd.pinned (.plain (OpenSpec.upto subjectApartSpec)) subjectApartUptoCard

/-- THE SECOND FORM's CARD OF 'plimsolllaw16.SubjectEnds'. -/
def subjectEndsUptoCard : Claim7 := { stood := { row := subjectEndsUptoRow, standIns := [], harness := (true, "aad7edf13359eca4a0948f025db5863f4f983339efa5adf770ef2625dafd188e"), looks := true }, kinds := [], alts := [], laidByText := true, laidKinds := [.handle, .sentinel], laidTests := true, laidLooks := .later }
def SubjectEndsUptoCardSaid : Prop := Claim7.holds Tryd.pinned (.plain (OpenSpec.upto subjectEndsSpec)) subjectEndsUptoCard

/-- THE SECOND FORM's CARD OF 'plimsolllaw16.SubjectStarts'. -/
def subjectStartsUptoCard : Claim7 := { stood := { row := subjectStartsUptoRow, standIns := [], harness := (true, "aad7edf13359eca4a0948f025db5863f4f983339efa5adf770ef2625dafd188e"), looks := true }, kinds := [], alts := [], laidByText := true, laidKinds := [.handle, .sentinel], laidTests := true, laidLooks := .later }
def SubjectStartsUptoCardSaid : Prop := Claim7.holds Tryd.pinned (.plain (OpenSpec.upto subjectStartsSpec)) subjectStartsUptoCard

/-- THE SECOND FORM's CARD OF 'plimsolllaw16.SubjectSeen'. -/
def subjectSeenUptoCard : Claim7 := { stood := { row := subjectSeenUptoRow, standIns := [], harness := (true, "aad7edf13359eca4a0948f025db5863f4f983339efa5adf770ef2625dafd188e"), looks := true }, kinds := [], alts := [], laidByText := true, laidKinds := [.handle, .sentinel], laidTests := true, laidLooks := .later }
def SubjectSeenUptoCardSaid : Prop := Claim7.holds Tryd.pinned (.plain (OpenSpec.upto subjectSeenSpec)) subjectSeenUptoCard

/-- THE SECOND FORM's CARD OF 'plimsolllaw16.SubjectTells'. -/
def subjectTellsUptoCard : Claim7 := { stood := { row := subjectTellsUptoRow, standIns := [], harness := (true, "aad7edf13359eca4a0948f025db5863f4f983339efa5adf770ef2625dafd188e"), looks := true }, kinds := [], alts := [], laidByText := true, laidKinds := [.handle, .sentinel], laidTests := true, laidLooks := .later }
def SubjectTellsUptoCardSaid : Prop := Claim7.holds Tryd.pinned (.plain (OpenSpec.upto subjectTellsSpec)) subjectTellsUptoCard
end Rows
end Go.Proofs.YteepgbkblgcegaaDoor
