/-
  DERIVED. GIVEN WITH THE SEED: THE CARDS: each row of YtmbafllkiofhnaaDoorRows.lean that lists a variable, with what it lists TIED to the program's text (the seventh form; the later family's looks); each row that meets fmt, with fmt's text TOLD by the authors' own Lean function (tested against real Go, not proved from fmt's source: count such statements apart). THE CARD IS WHAT COUNTS. Prove the row's statement (the work); the ties are given (YtmbafllkiofhnaaDoorTie.lean); close each card by the builder's one call (the guide's Derived/Test/ToyasCard.lean, 'card_holds'). Laid BY PROGRAM, IN A SANDBOX (cutbox-door.mjs). By AI agents, Wed Nov 11 2026. No macro, syntax, notation, axiom, sorry.
-/
import Derived.Test.YtmbafllkiofhnaaDoorRows
import GoSem.ClaimSeven
namespace Go.Proofs.YtmbafllkiofhnaaDoor
namespace Rows

/-- THE TIED CARD OF 'plimsolllaw12.CeilingRises'. -/
def ceilingRisesCard : Claim7 := { stood := { row := ceilingRisesRow, standIns := [], harness := (true, "16c2b5988608339ad9b252210d67364e06d4730db83869722ee80b3a68d414d8"), looks := true }, kinds := [], alts := [], laidByText := true, laidKinds := [.handle, .sentinel], laidTests := true, laidLooks := .later }
def CeilingRisesCardSaid : Prop := Claim7.holds Tryd.pinned (.plain (OpenSpec.ofChange ceilingRisesSpec)) ceilingRisesCard

/-- THE TIED CARD OF 'plimsolllaw12.CeilingFlows'. -/
def ceilingFlowsCard : Claim7 := { stood := { row := ceilingFlowsRow, standIns := [], harness := (true, "16c2b5988608339ad9b252210d67364e06d4730db83869722ee80b3a68d414d8"), looks := true }, kinds := [], alts := [], laidByText := true, laidKinds := [.handle, .sentinel], laidTests := true, laidLooks := .later }
def CeilingFlowsCardSaid : Prop := Claim7.holds Tryd.pinned (.plain (OpenSpec.ofChange ceilingFlowsSpec)) ceilingFlowsCard

/-- THE TIED CARD OF 'plimsolllaw12.CeilingSends'. -/
def ceilingSendsCard : Claim7 := { stood := { row := ceilingSendsRow, standIns := [], harness := (true, "16c2b5988608339ad9b252210d67364e06d4730db83869722ee80b3a68d414d8"), looks := true }, kinds := [], alts := [], laidByText := true, laidKinds := [.handle, .sentinel], laidTests := true, laidLooks := .later }
def CeilingSendsCardSaid : Prop := Claim7.holds Tryd.pinned (.plain (OpenSpec.ofChange ceilingSendsSpec)) ceilingSendsCard

/-- THE TIED CARD OF 'plimsolllaw12.CeilingFloats'. -/
def ceilingFloatsCard : Claim7 := { stood := { row := ceilingFloatsRow, standIns := [], harness := (true, "16c2b5988608339ad9b252210d67364e06d4730db83869722ee80b3a68d414d8"), looks := true }, kinds := [], alts := [], laidByText := true, laidKinds := [.handle, .sentinel], laidTests := true, laidLooks := .later }
def CeilingFloatsCardSaid : Prop := Claim7.holds Tryd.pinned (.plain (OpenSpec.ofChange ceilingFloatsSpec)) ceilingFloatsCard

/-- THE TIED CARD OF 'plimsolllaw12.CeilingGains'. -/
def ceilingGainsCard : Claim7 := { stood := { row := ceilingGainsRow, standIns := [], harness := (true, "16c2b5988608339ad9b252210d67364e06d4730db83869722ee80b3a68d414d8"), looks := true }, kinds := [], alts := [], laidByText := true, laidKinds := [.handle, .sentinel], laidTests := true, laidLooks := .later }
def CeilingGainsCardSaid : Prop := Claim7.holds Tryd.pinned (.plain (OpenSpec.ofChange ceilingGainsSpec)) ceilingGainsCard

/-- THE TIED CARD OF 'plimsolllaw12.CeilingPaths'. -/
def ceilingPathsCard : Claim7 := { stood := { row := ceilingPathsRow, standIns := [], harness := (true, "16c2b5988608339ad9b252210d67364e06d4730db83869722ee80b3a68d414d8"), looks := true }, kinds := [], alts := [], laidByText := true, laidKinds := [.handle, .sentinel], laidTests := true, laidLooks := .later }
def CeilingPathsCardSaid : Prop := Claim7.holds Tryd.pinned (.plain (OpenSpec.ofChange ceilingPathsSpec)) ceilingPathsCard

/-- THE TIED CARD OF 'plimsolllaw12.CeilingTurns'. -/
def ceilingTurnsCard : Claim7 := { stood := { row := ceilingTurnsRow, standIns := [], harness := (true, "16c2b5988608339ad9b252210d67364e06d4730db83869722ee80b3a68d414d8"), looks := true }, kinds := [], alts := [], laidByText := true, laidKinds := [.handle, .sentinel], laidTests := true, laidLooks := .later }
def CeilingTurnsCardSaid : Prop := Claim7.holds Tryd.pinned (.plain (OpenSpec.ofChange ceilingTurnsSpec)) ceilingTurnsCard

/-- THE TIED CARD OF 'plimsolllaw12.CeilingMany'. -/
def ceilingManyCard : Claim7 := { stood := { row := ceilingManyRow, standIns := [], harness := (true, "16c2b5988608339ad9b252210d67364e06d4730db83869722ee80b3a68d414d8"), looks := true }, kinds := [], alts := [], laidByText := true, laidKinds := [.handle, .sentinel], laidTests := true, laidLooks := .later }
def CeilingManyCardSaid : Prop := Claim7.holds Tryd.pinned (.plain (OpenSpec.ofChange ceilingManySpec)) ceilingManyCard

/-- THE SECOND FORM's CARD OF 'plimsolllaw12.CeilingRises'. -/
def ceilingRisesUptoCard : Claim7 := { stood := { row := ceilingRisesUptoRow, standIns := [], harness := (true, "16c2b5988608339ad9b252210d67364e06d4730db83869722ee80b3a68d414d8"), looks := true }, kinds := [], alts := [], laidByText := true, laidKinds := [.handle, .sentinel], laidTests := true, laidLooks := .later }
def CeilingRisesUptoCardSaid : Prop := Claim7.holds Tryd.pinned (.plain (OpenSpec.upto ceilingRisesSpec)) ceilingRisesUptoCard

/-- THE SECOND FORM's CARD OF 'plimsolllaw12.CeilingFlows'. -/
def ceilingFlowsUptoCard : Claim7 := { stood := { row := ceilingFlowsUptoRow, standIns := [], harness := (true, "16c2b5988608339ad9b252210d67364e06d4730db83869722ee80b3a68d414d8"), looks := true }, kinds := [], alts := [], laidByText := true, laidKinds := [.handle, .sentinel], laidTests := true, laidLooks := .later }
def CeilingFlowsUptoCardSaid : Prop := Claim7.holds Tryd.pinned (.plain (OpenSpec.upto ceilingFlowsSpec)) ceilingFlowsUptoCard

/-- THE SECOND FORM's CARD OF 'plimsolllaw12.CeilingSends'. -/
def ceilingSendsUptoCard : Claim7 := { stood := { row := ceilingSendsUptoRow, standIns := [], harness := (true, "16c2b5988608339ad9b252210d67364e06d4730db83869722ee80b3a68d414d8"), looks := true }, kinds := [], alts := [], laidByText := true, laidKinds := [.handle, .sentinel], laidTests := true, laidLooks := .later }
def CeilingSendsUptoCardSaid : Prop := Claim7.holds Tryd.pinned (.plain (OpenSpec.upto ceilingSendsSpec)) ceilingSendsUptoCard

/-- THE SECOND FORM's CARD OF 'plimsolllaw12.CeilingFloats'. -/
def ceilingFloatsUptoCard : Claim7 := { stood := { row := ceilingFloatsUptoRow, standIns := [], harness := (true, "16c2b5988608339ad9b252210d67364e06d4730db83869722ee80b3a68d414d8"), looks := true }, kinds := [], alts := [], laidByText := true, laidKinds := [.handle, .sentinel], laidTests := true, laidLooks := .later }
def CeilingFloatsUptoCardSaid : Prop := Claim7.holds Tryd.pinned (.plain (OpenSpec.upto ceilingFloatsSpec)) ceilingFloatsUptoCard

/-- THE SECOND FORM's CARD OF 'plimsolllaw12.CeilingGains'. -/
def ceilingGainsUptoCard : Claim7 := { stood := { row := ceilingGainsUptoRow, standIns := [], harness := (true, "16c2b5988608339ad9b252210d67364e06d4730db83869722ee80b3a68d414d8"), looks := true }, kinds := [], alts := [], laidByText := true, laidKinds := [.handle, .sentinel], laidTests := true, laidLooks := .later }
def CeilingGainsUptoCardSaid : Prop := Claim7.holds Tryd.pinned (.plain (OpenSpec.upto ceilingGainsSpec)) ceilingGainsUptoCard

/-- THE SECOND FORM's CARD OF 'plimsolllaw12.CeilingPaths'. -/
def ceilingPathsUptoCard : Claim7 := { stood := { row := ceilingPathsUptoRow, standIns := [], harness := (true, "16c2b5988608339ad9b252210d67364e06d4730db83869722ee80b3a68d414d8"), looks := true }, kinds := [], alts := [], laidByText := true, laidKinds := [.handle, .sentinel], laidTests := true, laidLooks := .later }
def CeilingPathsUptoCardSaid : Prop := Claim7.holds Tryd.pinned (.plain (OpenSpec.upto ceilingPathsSpec)) ceilingPathsUptoCard

/-- THE SECOND FORM's CARD OF 'plimsolllaw12.CeilingTurns'. -/
def ceilingTurnsUptoCard : Claim7 := { stood := { row := ceilingTurnsUptoRow, standIns := [], harness := (true, "16c2b5988608339ad9b252210d67364e06d4730db83869722ee80b3a68d414d8"), looks := true }, kinds := [], alts := [], laidByText := true, laidKinds := [.handle, .sentinel], laidTests := true, laidLooks := .later }
def CeilingTurnsUptoCardSaid : Prop := Claim7.holds Tryd.pinned (.plain (OpenSpec.upto ceilingTurnsSpec)) ceilingTurnsUptoCard

/-- THE SECOND FORM's CARD OF 'plimsolllaw12.CeilingMany'. -/
def ceilingManyUptoCard : Claim7 := { stood := { row := ceilingManyUptoRow, standIns := [], harness := (true, "16c2b5988608339ad9b252210d67364e06d4730db83869722ee80b3a68d414d8"), looks := true }, kinds := [], alts := [], laidByText := true, laidKinds := [.handle, .sentinel], laidTests := true, laidLooks := .later }
def CeilingManyUptoCardSaid : Prop := Claim7.holds Tryd.pinned (.plain (OpenSpec.upto ceilingManySpec)) ceilingManyUptoCard
end Rows
end Go.Proofs.YtmbafllkiofhnaaDoor
