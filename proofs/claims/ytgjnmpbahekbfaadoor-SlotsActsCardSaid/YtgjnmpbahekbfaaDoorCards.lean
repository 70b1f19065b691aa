/-
  DERIVED. GIVEN WITH THE SEED: THE CARDS: each row of YtgjnmpbahekbfaaDoorRows.lean that lists a variable, with what it lists TIED to the program's text (the seventh form; the later family's looks); each row that meets fmt, with fmt's text TOLD by the authors' own Lean function (tested against real Go, not proved from fmt's source: count such statements apart). THE CARD IS WHAT COUNTS. Prove the row's statement (the work); the ties are given (YtgjnmpbahekbfaaDoorTie.lean); close each card by the builder's one call (the guide's Derived/Test/ToyasCard.lean, 'card_holds'). Laid BY PROGRAM, IN A SANDBOX (cutbox-door.mjs). By AI agents, Wed Nov 11 2026. No macro, syntax, notation, axiom, sorry.
-/
import Derived.Test.YtgjnmpbahekbfaaDoorRows
import GoSem.ClaimSeven
namespace Go.Proofs.YtgjnmpbahekbfaaDoor
namespace Rows

/-- THE TIED CARD OF 'plimsolllaw06.SlotsWorn'. -/
def slotsWornCard : Claim7 := { stood := { row := slotsWornRow, standIns := [], harness := (true, "e2b6f50737d0ac6e5c3c0ec8d8002927b51f4c831c4ee5b63216546eb23cf66d"), looks := true }, kinds := [], alts := [], laidByText := true, laidKinds := [.sentinel, .sentinel], laidTests := true, laidLooks := .later }
def SlotsWornCardSaid : Prop := Claim7.holds Tryd.pinned (.plain (OpenSpec.ofChange slotsWornSpec)) slotsWornCard

/-- THE TIED CARD OF 'plimsolllaw06.SlotsLeast'. -/
def slotsLeastCard : Claim7 := { stood := { row := slotsLeastRow, standIns := [], harness := (true, "e2b6f50737d0ac6e5c3c0ec8d8002927b51f4c831c4ee5b63216546eb23cf66d"), looks := true }, kinds := [], alts := [], laidByText := true, laidKinds := [.sentinel, .sentinel], laidTests := true, laidLooks := .later }
def SlotsLeastCardSaid : Prop := Claim7.holds Tryd.pinned (.plain (OpenSpec.ofChange slotsLeastSpec)) slotsLeastCard

/-- THE TIED CARD OF 'plimsolllaw06.SlotsFull'. -/
def slotsFullCard : Claim7 := { stood := { row := slotsFullRow, standIns := [], harness := (true, "e2b6f50737d0ac6e5c3c0ec8d8002927b51f4c831c4ee5b63216546eb23cf66d"), looks := true }, kinds := [], alts := [], laidByText := true, laidKinds := [.sentinel, .sentinel], laidTests := true, laidLooks := .later }
def SlotsFullCardSaid : Prop := Claim7.holds Tryd.pinned (.plain (OpenSpec.ofChange slotsFullSpec)) slotsFullCard

/-- THE TIED CARD OF 'plimsolllaw06.SlotsActs'. -/
def slotsActsCard : Claim7 := { stood := { row := slotsActsRow, standIns := [], harness := (true, "e2b6f50737d0ac6e5c3c0ec8d8002927b51f4c831c4ee5b63216546eb23cf66d"), looks := true }, kinds := [], alts := [], laidByText := true, laidKinds := [.sentinel, .sentinel], laidTests := true, laidLooks := .later }
def SlotsActsCardSaid : Prop := Claim7.holds Tryd.pinned (.plain (OpenSpec.ofChange slotsActsSpec)) slotsActsCard

/-- THE TIED CARD OF 'plimsolllaw06.SlotsOnce'. -/
def slotsOnceCard : Claim7 := { stood := { row := slotsOnceRow, standIns := [], harness := (true, "e2b6f50737d0ac6e5c3c0ec8d8002927b51f4c831c4ee5b63216546eb23cf66d"), looks := true }, kinds := [], alts := [], laidByText := true, laidKinds := [.sentinel, .sentinel], laidTests := true, laidLooks := .later }
def SlotsOnceCardSaid : Prop := Claim7.holds Tryd.pinned (.plain (OpenSpec.ofChange slotsOnceSpec)) slotsOnceCard

/-- THE TIED CARD OF 'plimsolllaw06.SlotsNone'. -/
def slotsNoneCard : Claim7 := { stood := { row := slotsNoneRow, standIns := [], harness := (true, "e2b6f50737d0ac6e5c3c0ec8d8002927b51f4c831c4ee5b63216546eb23cf66d"), looks := true }, kinds := [], alts := [], laidByText := true, laidKinds := [.sentinel, .sentinel], laidTests := true, laidLooks := .later }
def SlotsNoneCardSaid : Prop := Claim7.holds Tryd.pinned (.plain (OpenSpec.ofChange slotsNoneSpec)) slotsNoneCard

/-- THE SECOND FORM's CARD OF 'plimsolllaw06.SlotsWorn'. -/
def slotsWornUptoCard : Claim7 := { stood := { row := slotsWornUptoRow, standIns := [], harness := (true, "e2b6f50737d0ac6e5c3c0ec8d8002927b51f4c831c4ee5b63216546eb23cf66d"), looks := true }, kinds := [], alts := [], laidByText := true, laidKinds := [.sentinel, .sentinel], laidTests := true, laidLooks := .later }
def SlotsWornUptoCardSaid : Prop := Claim7.holds Tryd.pinned (.plain (OpenSpec.upto slotsWornSpec)) slotsWornUptoCard

/-- THE SECOND FORM's CARD OF 'plimsolllaw06.SlotsLeast'. -/
def slotsLeastUptoCard : Claim7 := { stood := { row := slotsLeastUptoRow, standIns := [], harness := (true, "e2b6f50737d0ac6e5c3c0ec8d8002927b51f4c831c4ee5b63216546eb23cf66d"), looks := true }, kinds := [], alts := [], laidByText := true, laidKinds := [.sentinel, .sentinel], laidTests := true, laidLooks := .later }
def SlotsLeastUptoCardSaid : Prop := Claim7.holds Tryd.pinned (.plain (OpenSpec.upto slotsLeastSpec)) slotsLeastUptoCard

/-- THE SECOND FORM's CARD OF 'plimsolllaw06.SlotsFull'. -/
def slotsFullUptoCard : Claim7 := { stood := { row := slotsFullUptoRow, standIns := [], harness := (true, "e2b6f50737d0ac6e5c3c0ec8d8002927b51f4c831c4ee5b63216546eb23cf66d"), looks := true }, kinds := [], alts := [], laidByText := true, laidKinds := [.sentinel, .sentinel], laidTests := true, laidLooks := .later }
def SlotsFullUptoCardSaid : Prop := Claim7.holds Tryd.pinned (.plain (OpenSpec.upto slotsFullSpec)) slotsFullUptoCard

/-- THE SECOND FORM's CARD OF 'plimsolllaw06.SlotsActs'. -/
def slotsActsUptoCard : Claim7 := { stood := { row := slotsActsUptoRow, standIns := [], harness := (true, "e2b6f50737d0ac6e5c3c0ec8d8002927b51f4c831c4ee5b63216546eb23cf66d"), looks := true }, kinds := [], alts := [], laidByText := true, laidKinds := [.sentinel, .sentinel], laidTests := true, laidLooks := .later }
def SlotsActsUptoCardSaid : Prop := Claim7.holds Tryd.pinned (.plain (OpenSpec.upto slotsActsSpec)) slotsActsUptoCard

/-- THE SECOND FORM's CARD OF 'plimsolllaw06.SlotsOnce'. -/
def slotsOnceUptoCard : Claim7 := { stood := { row := slotsOnceUptoRow, standIns := [], harness := (true, "e2b6f50737d0ac6e5c3c0ec8d8002927b51f4c831c4ee5b63216546eb23cf66d"), looks := true }, kinds := [], alts := [], laidByText := true, laidKinds := [.sentinel, .sentinel], laidTests := true, laidLooks := .later }
def SlotsOnceUptoCardSaid : Prop := Claim7.holds Tryd.pinned (.plain (OpenSpec.upto slotsOnceSpec)) slotsOnceUptoCard

/-- THE SECOND FORM's CARD OF 'plimsolllaw06.SlotsNone'. -/
def slotsNoneUptoCard : Claim7 := { stood := { row := slotsNoneUptoRow, standIns := [], harness := (true, "e2b6f50737d0ac6e5c3c0ec8d8002927b51f4c831c4ee5b63216546eb23cf66d"), looks := true }, kinds := [], alts := [], laidByText := true, laidKinds := [.sentinel, .sentinel], laidTests := true, laidLooks := .later }
def SlotsNoneUptoCardSaid : Prop := Claim7.holds Tryd.pinned (.plain (OpenSpec.upto slotsNoneSpec)) slotsNoneUptoCard
end Rows
end Go.Proofs.YtgjnmpbahekbfaaDoor
