/-
  DERIVED. GIVEN WITH THE SEED: THE CARDS: each row of YtapgeagmdiphgaaDoorRows.lean that lists a variable, with what it lists TIED to the program's text (the seventh form; the later family's looks); each row that meets fmt, with fmt's text TOLD by the authors' own Lean function (tested against real Go, not proved from fmt's source: count such statements apart). THE CARD IS WHAT COUNTS. Prove the row's statement (the work); the ties are given (YtapgeagmdiphgaaDoorTie.lean); close each card by the builder's one call (the guide's Derived/Test/ToyasCard.lean, 'card_holds'). Laid BY PROGRAM, IN A SANDBOX (cutbox-door.mjs). By AI agents, Wed Nov 11 2026. No macro, syntax, notation, axiom, sorry.
-/
import Derived.Test.YtapgeagmdiphgaaDoorRows
import GoSem.ClaimSeven
namespace Go.Proofs.YtapgeagmdiphgaaDoor
namespace Rows

/-- THE TIED CARD OF 'plimsolllaw02.LabelJoins'. -/
def labelJoinsCard : Claim7 := { stood := { row := labelJoinsRow, standIns := [], harness := (true, "6b7a1ac5fa8806db0fa554ee4e1cedb4215076f78d2b1e684320bc879d87c9bb"), looks := true }, kinds := [], alts := [], laidByText := true, laidKinds := [.handle], laidTests := true, laidLooks := .later }
def LabelJoinsCardSaid : Prop := Claim7.holds Tryd.pinned (.plain (OpenSpec.ofChange labelJoinsSpec)) labelJoinsCard

/-- THE TIED CARD OF 'plimsolllaw02.LabelMeets'. -/
def labelMeetsCard : Claim7 := { stood := { row := labelMeetsRow, standIns := [], harness := (true, "6b7a1ac5fa8806db0fa554ee4e1cedb4215076f78d2b1e684320bc879d87c9bb"), looks := true }, kinds := [], alts := [], laidByText := true, laidKinds := [.handle], laidTests := true, laidLooks := .later }
def LabelMeetsCardSaid : Prop := Claim7.holds Tryd.pinned (.plain (OpenSpec.ofChange labelMeetsSpec)) labelMeetsCard

/-- THE TIED CARD OF 'plimsolllaw02.LabelTurns'. -/
def labelTurnsCard : Claim7 := { stood := { row := labelTurnsRow, standIns := [], harness := (true, "6b7a1ac5fa8806db0fa554ee4e1cedb4215076f78d2b1e684320bc879d87c9bb"), looks := true }, kinds := [], alts := [], laidByText := true, laidKinds := [.handle], laidTests := true, laidLooks := .later }
def LabelTurnsCardSaid : Prop := Claim7.holds Tryd.pinned (.plain (OpenSpec.ofChange labelTurnsSpec)) labelTurnsCard

/-- THE TIED CARD OF 'plimsolllaw02.LabelUnder'. -/
def labelUnderCard : Claim7 := { stood := { row := labelUnderRow, standIns := [], harness := (true, "6b7a1ac5fa8806db0fa554ee4e1cedb4215076f78d2b1e684320bc879d87c9bb"), looks := true }, kinds := [], alts := [], laidByText := true, laidKinds := [.handle], laidTests := true, laidLooks := .later }
def LabelUnderCardSaid : Prop := Claim7.holds Tryd.pinned (.plain (OpenSpec.ofChange labelUnderSpec)) labelUnderCard

/-- THE TIED CARD OF 'plimsolllaw02.LabelOrders'. -/
def labelOrdersCard : Claim7 := { stood := { row := labelOrdersRow, standIns := [], harness := (true, "6b7a1ac5fa8806db0fa554ee4e1cedb4215076f78d2b1e684320bc879d87c9bb"), looks := true }, kinds := [], alts := [], laidByText := true, laidKinds := [.handle], laidTests := true, laidLooks := .later }
def LabelOrdersCardSaid : Prop := Claim7.holds Tryd.pinned (.plain (OpenSpec.ofChange labelOrdersSpec)) labelOrdersCard

/-- THE TIED CARD OF 'plimsolllaw02.LabelLeast'. -/
def labelLeastCard : Claim7 := { stood := { row := labelLeastRow, standIns := [], harness := (true, "6b7a1ac5fa8806db0fa554ee4e1cedb4215076f78d2b1e684320bc879d87c9bb"), looks := true }, kinds := [], alts := [], laidByText := true, laidKinds := [.handle], laidTests := true, laidLooks := .later }
def LabelLeastCardSaid : Prop := Claim7.holds Tryd.pinned (.plain (OpenSpec.ofChange labelLeastSpec)) labelLeastCard

/-- THE TIED CARD OF 'plimsolllaw02.LabelTotal'. -/
def labelTotalCard : Claim7 := { stood := { row := labelTotalRow, standIns := [], harness := (true, "6b7a1ac5fa8806db0fa554ee4e1cedb4215076f78d2b1e684320bc879d87c9bb"), looks := true }, kinds := [], alts := [], laidByText := true, laidKinds := [.handle], laidTests := true, laidLooks := .later }
def LabelTotalCardSaid : Prop := Claim7.holds Tryd.pinned (.plain (OpenSpec.ofChange labelTotalSpec)) labelTotalCard

/-- THE TIED CARD OF 'plimsolllaw02.LabelKnows'. -/
def labelKnowsCard : Claim7 := { stood := { row := labelKnowsRow, standIns := [], harness := (true, "6b7a1ac5fa8806db0fa554ee4e1cedb4215076f78d2b1e684320bc879d87c9bb"), looks := true }, kinds := [], alts := [], laidByText := true, laidKinds := [.handle], laidTests := true, laidLooks := .later }
def LabelKnowsCardSaid : Prop := Claim7.holds Tryd.pinned (.plain (OpenSpec.ofChange labelKnowsSpec)) labelKnowsCard

/-- THE SECOND FORM's CARD OF 'plimsolllaw02.LabelJoins'. -/
def labelJoinsUptoCard : Claim7 := { stood := { row := labelJoinsUptoRow, standIns := [], harness := (true, "6b7a1ac5fa8806db0fa554ee4e1cedb4215076f78d2b1e684320bc879d87c9bb"), looks := true }, kinds := [], alts := [], laidByText := true, laidKinds := [.handle], laidTests := true, laidLooks := .later }
def LabelJoinsUptoCardSaid : Prop := Claim7.holds Tryd.pinned (.plain (OpenSpec.upto labelJoinsSpec)) labelJoinsUptoCard

/-- THE SECOND FORM's CARD OF 'plimsolllaw02.LabelMeets'. -/
def labelMeetsUptoCard : Claim7 := { stood := { row := labelMeetsUptoRow, standIns := [], harness := (true, "6b7a1ac5fa8806db0fa554ee4e1cedb4215076f78d2b1e684320bc879d87c9bb"), looks := true }, kinds := [], alts := [], laidByText := true, laidKinds := [.handle], laidTests := true, laidLooks := .later }
def LabelMeetsUptoCardSaid : Prop := Claim7.holds Tryd.pinned (.plain (OpenSpec.upto labelMeetsSpec)) labelMeetsUptoCard

/-- THE SECOND FORM's CARD OF 'plimsolllaw02.LabelTurns'. -/
def labelTurnsUptoCard : Claim7 := { stood := { row := labelTurnsUptoRow, standIns := [], harness := (true, "6b7a1ac5fa8806db0fa554ee4e1cedb4215076f78d2b1e684320bc879d87c9bb"), looks := true }, kinds := [], alts := [], laidByText := true, laidKinds := [.handle], laidTests := true, laidLooks := .later }
def LabelTurnsUptoCardSaid : Prop := Claim7.holds Tryd.pinned (.plain (OpenSpec.upto labelTurnsSpec)) labelTurnsUptoCard

/-- THE SECOND FORM's CARD OF 'plimsolllaw02.LabelUnder'. -/
def labelUnderUptoCard : Claim7 := { stood := { row := labelUnderUptoRow, standIns := [], harness := (true, "6b7a1ac5fa8806db0fa554ee4e1cedb4215076f78d2b1e684320bc879d87c9bb"), looks := true }, kinds := [], alts := [], laidByText := true, laidKinds := [.handle], laidTests := true, laidLooks := .later }
def LabelUnderUptoCardSaid : Prop := Claim7.holds Tryd.pinned (.plain (OpenSpec.upto labelUnderSpec)) labelUnderUptoCard

/-- THE SECOND FORM's CARD OF 'plimsolllaw02.LabelOrders'. -/
def labelOrdersUptoCard : Claim7 := { stood := { row := labelOrdersUptoRow, standIns := [], harness := (true, "6b7a1ac5fa8806db0fa554ee4e1cedb4215076f78d2b1e684320bc879d87c9bb"), looks := true }, kinds := [], alts := [], laidByText := true, laidKinds := [.handle], laidTests := true, laidLooks := .later }
def LabelOrdersUptoCardSaid : Prop := Claim7.holds Tryd.pinned (.plain (OpenSpec.upto labelOrdersSpec)) labelOrdersUptoCard

/-- THE SECOND FORM's CARD OF 'plimsolllaw02.LabelLeast'. -/
def labelLeastUptoCard : Claim7 := { stood := { row := labelLeastUptoRow, standIns := [], harness := (true, "6b7a1ac5fa8806db0fa554ee4e1cedb4215076f78d2b1e684320bc879d87c9bb"), looks := true }, kinds := [], alts := [], laidByText := true, laidKinds := [.handle], laidTests := true, laidLooks := .later }
def LabelLeastUptoCardSaid : Prop := Claim7.holds Tryd.pinned (.plain (OpenSpec.upto labelLeastSpec)) labelLeastUptoCard

/-- THE SECOND FORM's CARD OF 'plimsolllaw02.LabelTotal'. -/
def labelTotalUptoCard : Claim7 := { stood := { row := labelTotalUptoRow, standIns := [], harness := (true, "6b7a1ac5fa8806db0fa554ee4e1cedb4215076f78d2b1e684320bc879d87c9bb"), looks := true }, kinds := [], alts := [], laidByText := true, laidKinds := [.handle], laidTests := true, laidLooks := .later }
def LabelTotalUptoCardSaid : Prop := Claim7.holds Tryd.pinned (.plain (OpenSpec.upto labelTotalSpec)) labelTotalUptoCard

/-- THE SECOND FORM's CARD OF 'plimsolllaw02.LabelKnows'. -/
def labelKnowsUptoCard : Claim7 := { stood := { row := labelKnowsUptoRow, standIns := [], harness := (true, "6b7a1ac5fa8806db0fa554ee4e1cedb4215076f78d2b1e684320bc879d87c9bb"), looks := true }, kinds := [], alts := [], laidByText := true, laidKinds := [.handle], laidTests := true, laidLooks := .later }
def LabelKnowsUptoCardSaid : Prop := Claim7.holds Tryd.pinned (.plain (OpenSpec.upto labelKnowsSpec)) labelKnowsUptoCard
end Rows
end Go.Proofs.YtapgeagmdiphgaaDoor
