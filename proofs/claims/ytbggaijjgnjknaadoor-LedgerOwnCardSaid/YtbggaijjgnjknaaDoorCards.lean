/-
  DERIVED. GIVEN WITH THE SEED: THE CARDS: each row of YtbggaijjgnjknaaDoorRows.lean that lists a variable, with what it lists TIED to the program's text (the seventh form; the later family's looks); each row that meets fmt, with fmt's text TOLD by the authors' own Lean function (tested against real Go, not proved from fmt's source: count such statements apart). THE CARD IS WHAT COUNTS. Prove the row's statement (the work); the ties are given (YtbggaijjgnjknaaDoorTie.lean); close each card by the builder's one call (the guide's Derived/Test/ToyasCard.lean, 'card_holds'). Laid BY PROGRAM, IN A SANDBOX (cutbox-door.mjs). By AI agents, Wed Nov 11 2026. No macro, syntax, notation, axiom, sorry.
-/
import Derived.Test.YtbggaijjgnjknaaDoorRows
import GoSem.ClaimSeven
namespace Go.Proofs.YtbggaijjgnjknaaDoor
namespace Rows

/-- THE TIED CARD OF 'plimsolllaw07.LedgerBooks'. -/
def ledgerBooksCard : Claim7 := { stood := { row := ledgerBooksRow, standIns := [], harness := (true, "263cff5de8ea3aa00cbe62c656a71597019749636c6b82d0e26f0c9af33d7a25"), looks := true }, kinds := [], alts := [], laidByText := true, laidKinds := [.handle], laidTests := true, laidLooks := .later }
def LedgerBooksCardSaid : Prop := Claim7.holds Tryd.pinned (.plain (OpenSpec.ofChange ledgerBooksSpec)) ledgerBooksCard

/-- THE TIED CARD OF 'plimsolllaw07.LedgerBack'. -/
def ledgerBackCard : Claim7 := { stood := { row := ledgerBackRow, standIns := [], harness := (true, "263cff5de8ea3aa00cbe62c656a71597019749636c6b82d0e26f0c9af33d7a25"), looks := true }, kinds := [], alts := [], laidByText := true, laidKinds := [.handle], laidTests := true, laidLooks := .later }
def LedgerBackCardSaid : Prop := Claim7.holds Tryd.pinned (.plain (OpenSpec.ofChange ledgerBackSpec)) ledgerBackCard

/-- THE TIED CARD OF 'plimsolllaw07.LedgerTurns'. -/
def ledgerTurnsCard : Claim7 := { stood := { row := ledgerTurnsRow, standIns := [], harness := (true, "263cff5de8ea3aa00cbe62c656a71597019749636c6b82d0e26f0c9af33d7a25"), looks := true }, kinds := [], alts := [], laidByText := true, laidKinds := [.handle], laidTests := true, laidLooks := .later }
def LedgerTurnsCardSaid : Prop := Claim7.holds Tryd.pinned (.plain (OpenSpec.ofChange ledgerTurnsSpec)) ledgerTurnsCard

/-- THE TIED CARD OF 'plimsolllaw07.LedgerRefunds'. -/
def ledgerRefundsCard : Claim7 := { stood := { row := ledgerRefundsRow, standIns := [], harness := (true, "263cff5de8ea3aa00cbe62c656a71597019749636c6b82d0e26f0c9af33d7a25"), looks := true }, kinds := [], alts := [], laidByText := true, laidKinds := [.handle], laidTests := true, laidLooks := .later }
def LedgerRefundsCardSaid : Prop := Claim7.holds Tryd.pinned (.plain (OpenSpec.ofChange ledgerRefundsSpec)) ledgerRefundsCard

/-- THE TIED CARD OF 'plimsolllaw07.LedgerOwn'. -/
def ledgerOwnCard : Claim7 := { stood := { row := ledgerOwnRow, standIns := [], harness := (true, "263cff5de8ea3aa00cbe62c656a71597019749636c6b82d0e26f0c9af33d7a25"), looks := true }, kinds := [], alts := [], laidByText := true, laidKinds := [.handle], laidTests := true, laidLooks := .later }
def LedgerOwnCardSaid : Prop := Claim7.holds Tryd.pinned (.plain (OpenSpec.ofChange ledgerOwnSpec)) ledgerOwnCard

/-- THE TIED CARD OF 'plimsolllaw07.LedgerTells'. -/
def ledgerTellsCard : Claim7 := { stood := { row := ledgerTellsRow, standIns := [], harness := (true, "263cff5de8ea3aa00cbe62c656a71597019749636c6b82d0e26f0c9af33d7a25"), looks := true }, kinds := [], alts := [], laidByText := true, laidKinds := [.handle], laidTests := true, laidLooks := .later }
def LedgerTellsCardSaid : Prop := Claim7.holds Tryd.pinned (.plain (OpenSpec.ofChange ledgerTellsSpec)) ledgerTellsCard

/-- THE TIED CARD OF 'plimsolllaw07.LedgerApart'. -/
def ledgerApartCard : Claim7 := { stood := { row := ledgerApartRow, standIns := [], harness := (true, "263cff5de8ea3aa00cbe62c656a71597019749636c6b82d0e26f0c9af33d7a25"), looks := true }, kinds := [], alts := [], laidByText := true, laidKinds := [.handle], laidTests := true, laidLooks := .later }
def LedgerApartCardSaid : Prop := Claim7.holds Tryd.pinned (.plain (OpenSpec.ofChange ledgerApartSpec)) ledgerApartCard

/-- THE TIED CARD OF 'plimsolllaw07.LedgerSums'. -/
def ledgerSumsCard : Claim7 := { stood := { row := ledgerSumsRow, standIns := [], harness := (true, "263cff5de8ea3aa00cbe62c656a71597019749636c6b82d0e26f0c9af33d7a25"), looks := true }, kinds := [], alts := [], laidByText := true, laidKinds := [.handle], laidTests := true, laidLooks := .later }
def LedgerSumsCardSaid : Prop := Claim7.holds Tryd.pinned (.plain (OpenSpec.ofChange ledgerSumsSpec)) ledgerSumsCard

/-- THE SECOND FORM's CARD OF 'plimsolllaw07.LedgerBooks'. -/
def ledgerBooksUptoCard : Claim7 := { stood := { row := ledgerBooksUptoRow, standIns := [], harness := (true, "263cff5de8ea3aa00cbe62c656a71597019749636c6b82d0e26f0c9af33d7a25"), looks := true }, kinds := [], alts := [], laidByText := true, laidKinds := [.handle], laidTests := true, laidLooks := .later }
def LedgerBooksUptoCardSaid : Prop := Claim7.holds Tryd.pinned (.plain (OpenSpec.upto ledgerBooksSpec)) ledgerBooksUptoCard

/-- THE SECOND FORM's CARD OF 'plimsolllaw07.LedgerBack'. -/
def ledgerBackUptoCard : Claim7 := { stood := { row := ledgerBackUptoRow, standIns := [], harness := (true, "263cff5de8ea3aa00cbe62c656a71597019749636c6b82d0e26f0c9af33d7a25"), looks := true }, kinds := [], alts := [], laidByText := true, laidKinds := [.handle], laidTests := true, laidLooks := .later }
def LedgerBackUptoCardSaid : Prop := Claim7.holds Tryd.pinned (.plain (OpenSpec.upto ledgerBackSpec)) ledgerBackUptoCard

/-- THE SECOND FORM's CARD OF 'plimsolllaw07.LedgerTurns'. -/
def ledgerTurnsUptoCard : Claim7 := { stood := { row := ledgerTurnsUptoRow, standIns := [], harness := (true, "263cff5de8ea3aa00cbe62c656a71597019749636c6b82d0e26f0c9af33d7a25"), looks := true }, kinds := [], alts := [], laidByText := true, laidKinds := [.handle], laidTests := true, laidLooks := .later }
def LedgerTurnsUptoCardSaid : Prop := Claim7.holds Tryd.pinned (.plain (OpenSpec.upto ledgerTurnsSpec)) ledgerTurnsUptoCard

/-- THE SECOND FORM's CARD OF 'plimsolllaw07.LedgerRefunds'. -/
def ledgerRefundsUptoCard : Claim7 := { stood := { row := ledgerRefundsUptoRow, standIns := [], harness := (true, "263cff5de8ea3aa00cbe62c656a71597019749636c6b82d0e26f0c9af33d7a25"), looks := true }, kinds := [], alts := [], laidByText := true, laidKinds := [.handle], laidTests := true, laidLooks := .later }
def LedgerRefundsUptoCardSaid : Prop := Claim7.holds Tryd.pinned (.plain (OpenSpec.upto ledgerRefundsSpec)) ledgerRefundsUptoCard

/-- THE SECOND FORM's CARD OF 'plimsolllaw07.LedgerOwn'. -/
def ledgerOwnUptoCard : Claim7 := { stood := { row := ledgerOwnUptoRow, standIns := [], harness := (true, "263cff5de8ea3aa00cbe62c656a71597019749636c6b82d0e26f0c9af33d7a25"), looks := true }, kinds := [], alts := [], laidByText := true, laidKinds := [.handle], laidTests := true, laidLooks := .later }
def LedgerOwnUptoCardSaid : Prop := Claim7.holds Tryd.pinned (.plain (OpenSpec.upto ledgerOwnSpec)) ledgerOwnUptoCard

/-- THE SECOND FORM's CARD OF 'plimsolllaw07.LedgerTells'. -/
def ledgerTellsUptoCard : Claim7 := { stood := { row := ledgerTellsUptoRow, standIns := [], harness := (true, "263cff5de8ea3aa00cbe62c656a71597019749636c6b82d0e26f0c9af33d7a25"), looks := true }, kinds := [], alts := [], laidByText := true, laidKinds := [.handle], laidTests := true, laidLooks := .later }
def LedgerTellsUptoCardSaid : Prop := Claim7.holds Tryd.pinned (.plain (OpenSpec.upto ledgerTellsSpec)) ledgerTellsUptoCard

/-- THE SECOND FORM's CARD OF 'plimsolllaw07.LedgerApart'. -/
def ledgerApartUptoCard : Claim7 := { stood := { row := ledgerApartUptoRow, standIns := [], harness := (true, "263cff5de8ea3aa00cbe62c656a71597019749636c6b82d0e26f0c9af33d7a25"), looks := true }, kinds := [], alts := [], laidByText := true, laidKinds := [.handle], laidTests := true, laidLooks := .later }
def LedgerApartUptoCardSaid : Prop := Claim7.holds Tryd.pinned (.plain (OpenSpec.upto ledgerApartSpec)) ledgerApartUptoCard

/-- THE SECOND FORM's CARD OF 'plimsolllaw07.LedgerSums'. -/
def ledgerSumsUptoCard : Claim7 := { stood := { row := ledgerSumsUptoRow, standIns := [], harness := (true, "263cff5de8ea3aa00cbe62c656a71597019749636c6b82d0e26f0c9af33d7a25"), looks := true }, kinds := [], alts := [], laidByText := true, laidKinds := [.handle], laidTests := true, laidLooks := .later }
def LedgerSumsUptoCardSaid : Prop := Claim7.holds Tryd.pinned (.plain (OpenSpec.upto ledgerSumsSpec)) ledgerSumsUptoCard
end Rows
end Go.Proofs.YtbggaijjgnjknaaDoor
