/-
  DERIVED. GIVEN WITH THE SEED: THE CARDS: each row of YtkmklmdhmfikmaaDoorRows.lean that lists a variable, with what it lists TIED to the program's text (the seventh form; the later family's looks); each row that meets fmt, with fmt's text TOLD by the authors' own Lean function (tested against real Go, not proved from fmt's source: count such statements apart). THE CARD IS WHAT COUNTS. Prove the row's statement (the work); the ties are given (YtkmklmdhmfikmaaDoorTie.lean); close each card by the builder's one call (the guide's Derived/Test/ToyasCard.lean, 'card_holds'). Laid BY PROGRAM, IN A SANDBOX (cutbox-door.mjs). By AI agents, Wed Nov 11 2026. No macro, syntax, notation, axiom, sorry.
-/
import Derived.Test.YtkmklmdhmfikmaaDoorRows
import GoSem.ClaimSeven
namespace Go.Proofs.YtkmklmdhmfikmaaDoor
namespace Rows

/-- THE TIED CARD OF 'plimsolllaw01.CatsCompares'. -/
def catsComparesCard : Claim7 := { stood := { row := catsComparesRow, standIns := [], harness := (true, "61718c8f908ca67ae52c2ce6e133924422d4d15cef3b461f33d2b2d29cd48d29"), looks := true }, kinds := [], alts := [], laidByText := true, laidKinds := [.sentinel], laidTests := true, laidLooks := .later }
def CatsComparesCardSaid : Prop := Claim7.holds Tryd.pinned (.plain (OpenSpec.ofChange catsComparesSpec)) catsComparesCard

/-- THE TIED CARD OF 'plimsolllaw01.CatsParts'. -/
def catsPartsCard : Claim7 := { stood := { row := catsPartsRow, standIns := [], harness := (true, "61718c8f908ca67ae52c2ce6e133924422d4d15cef3b461f33d2b2d29cd48d29"), looks := true }, kinds := [], alts := [], laidByText := true, laidKinds := [.sentinel], laidTests := true, laidLooks := .later }
def CatsPartsCardSaid : Prop := Claim7.holds Tryd.pinned (.plain (OpenSpec.ofChange catsPartsSpec)) catsPartsCard

/-- THE TIED CARD OF 'plimsolllaw01.CatsCounts'. -/
def catsCountsCard : Claim7 := { stood := { row := catsCountsRow, standIns := [], harness := (true, "61718c8f908ca67ae52c2ce6e133924422d4d15cef3b461f33d2b2d29cd48d29"), looks := true }, kinds := [], alts := [], laidByText := true, laidKinds := [.sentinel], laidTests := true, laidLooks := .later }
def CatsCountsCardSaid : Prop := Claim7.holds Tryd.pinned (.plain (OpenSpec.ofChange catsCountsSpec)) catsCountsCard

/-- THE TIED CARD OF 'plimsolllaw01.CatsSteps'. -/
def catsStepsCard : Claim7 := { stood := { row := catsStepsRow, standIns := [], harness := (true, "61718c8f908ca67ae52c2ce6e133924422d4d15cef3b461f33d2b2d29cd48d29"), looks := true }, kinds := [], alts := [], laidByText := true, laidKinds := [.sentinel], laidTests := true, laidLooks := .later }
def CatsStepsCardSaid : Prop := Claim7.holds Tryd.pinned (.plain (OpenSpec.ofChange catsStepsSpec)) catsStepsCard

/-- THE TIED CARD OF 'plimsolllaw01.CatsBack'. -/
def catsBackCard : Claim7 := { stood := { row := catsBackRow, standIns := [], harness := (true, "61718c8f908ca67ae52c2ce6e133924422d4d15cef3b461f33d2b2d29cd48d29"), looks := true }, kinds := [], alts := [], laidByText := true, laidKinds := [.data, .sentinel], laidTests := true, laidLooks := .later }
def CatsBackCardSaid : Prop := Claim7.holds Tryd.pinned (.plain (OpenSpec.ofChange catsBackSpec)) catsBackCard

/-- THE TIED CARD OF 'plimsolllaw01.CatsMakes'. -/
def catsMakesCard : Claim7 := { stood := { row := catsMakesRow, standIns := [], harness := (true, "61718c8f908ca67ae52c2ce6e133924422d4d15cef3b461f33d2b2d29cd48d29"), looks := true }, kinds := [], alts := [], laidByText := true, laidKinds := [.data, .sentinel], laidTests := true, laidLooks := .later }
def CatsMakesCardSaid : Prop := Claim7.holds Tryd.pinned (.plain (OpenSpec.ofChange catsMakesSpec)) catsMakesCard

/-- THE SECOND FORM's CARD OF 'plimsolllaw01.CatsCompares'. -/
def catsComparesUptoCard : Claim7 := { stood := { row := catsComparesUptoRow, standIns := [], harness := (true, "61718c8f908ca67ae52c2ce6e133924422d4d15cef3b461f33d2b2d29cd48d29"), looks := true }, kinds := [], alts := [], laidByText := true, laidKinds := [.sentinel], laidTests := true, laidLooks := .later }
def CatsComparesUptoCardSaid : Prop := Claim7.holds Tryd.pinned (.plain (OpenSpec.upto catsComparesSpec)) catsComparesUptoCard

/-- THE SECOND FORM's CARD OF 'plimsolllaw01.CatsParts'. -/
def catsPartsUptoCard : Claim7 := { stood := { row := catsPartsUptoRow, standIns := [], harness := (true, "61718c8f908ca67ae52c2ce6e133924422d4d15cef3b461f33d2b2d29cd48d29"), looks := true }, kinds := [], alts := [], laidByText := true, laidKinds := [.sentinel], laidTests := true, laidLooks := .later }
def CatsPartsUptoCardSaid : Prop := Claim7.holds Tryd.pinned (.plain (OpenSpec.upto catsPartsSpec)) catsPartsUptoCard

/-- THE SECOND FORM's CARD OF 'plimsolllaw01.CatsCounts'. -/
def catsCountsUptoCard : Claim7 := { stood := { row := catsCountsUptoRow, standIns := [], harness := (true, "61718c8f908ca67ae52c2ce6e133924422d4d15cef3b461f33d2b2d29cd48d29"), looks := true }, kinds := [], alts := [], laidByText := true, laidKinds := [.sentinel], laidTests := true, laidLooks := .later }
def CatsCountsUptoCardSaid : Prop := Claim7.holds Tryd.pinned (.plain (OpenSpec.upto catsCountsSpec)) catsCountsUptoCard

/-- THE SECOND FORM's CARD OF 'plimsolllaw01.CatsSteps'. -/
def catsStepsUptoCard : Claim7 := { stood := { row := catsStepsUptoRow, standIns := [], harness := (true, "61718c8f908ca67ae52c2ce6e133924422d4d15cef3b461f33d2b2d29cd48d29"), looks := true }, kinds := [], alts := [], laidByText := true, laidKinds := [.sentinel], laidTests := true, laidLooks := .later }
def CatsStepsUptoCardSaid : Prop := Claim7.holds Tryd.pinned (.plain (OpenSpec.upto catsStepsSpec)) catsStepsUptoCard

/-- THE SECOND FORM's CARD OF 'plimsolllaw01.CatsBack'. -/
def catsBackUptoCard : Claim7 := { stood := { row := catsBackUptoRow, standIns := [], harness := (true, "61718c8f908ca67ae52c2ce6e133924422d4d15cef3b461f33d2b2d29cd48d29"), looks := true }, kinds := [], alts := [], laidByText := true, laidKinds := [.data, .sentinel], laidTests := true, laidLooks := .later }
def CatsBackUptoCardSaid : Prop := Claim7.holds Tryd.pinned (.plain (OpenSpec.upto catsBackSpec)) catsBackUptoCard

/-- THE SECOND FORM's CARD OF 'plimsolllaw01.CatsMakes'. -/
def catsMakesUptoCard : Claim7 := { stood := { row := catsMakesUptoRow, standIns := [], harness := (true, "61718c8f908ca67ae52c2ce6e133924422d4d15cef3b461f33d2b2d29cd48d29"), looks := true }, kinds := [], alts := [], laidByText := true, laidKinds := [.data, .sentinel], laidTests := true, laidLooks := .later }
def CatsMakesUptoCardSaid : Prop := Claim7.holds Tryd.pinned (.plain (OpenSpec.upto catsMakesSpec)) catsMakesUptoCard
end Rows
end Go.Proofs.YtkmklmdhmfikmaaDoor
