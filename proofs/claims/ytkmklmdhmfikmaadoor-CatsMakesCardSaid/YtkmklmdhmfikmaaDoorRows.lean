/-
  NARROWER THAN 'FOR EVERY INPUT', by the rows' own cells (each row's printed sentence says how): CatsCompares: laid · CatsParts: laid · CatsCounts: laid · CatsSteps: laid · CatsBack: laid · CatsMakes: laid.
  DERIVED. THE GIVEN ROWS OF THIS SEAT. 6 by the template 'for every input the law returns true; each argument reads behind the call as it read before'; 0 by the template 'total and deterministic' (their statements: YtkmklmdhmfikmaaDoorTotals.lean).
  GIVEN WITH THE SEED: the statements are not yours to turn. If you find one false, say at which input.
  Laid BY PROGRAM, IN A SANDBOX (cutbox-rows.mjs): the forced cells as the released guide's own fill.sh prints them over the translation 6bcdf037af06f329… (all of the seat's roots in one cut). By AI agents, Wed Nov 11 2026. No macro, syntax, notation, axiom, sorry.
-/
import Derived.Test.YtkmklmdhmfikmaaDoorChecked
import GoSem.Claim
import GoSem.ClaimJoined
import GoSem.ClaimMapViews
import Derived.JoinedTies
import Derived.KernelRfl
namespace Go.Proofs.YtkmklmdhmfikmaaDoor
/- THE CELL 'sum', in the pinned program and in every row, IS THE sha256 OF THE DUMP (.gsa) THAT YtkmklmdhmfikmaaDoorProg.lean LOADS. Nothing in Lean hashes anything: it is a label: what it is worth is what the hold of that sum in a sandbox is worth. -/
noncomputable def Tryd.pinned : Pinned := { name := "ytkmklmdhmfikmaadoor", sum := "6bcdf037af06f3299e3fec60c75b0cb3689ca99fa6e2757f8cd371184279355a", checked := Tryd.checked }
namespace Rows
def none {H : Type} : Left H := { results := [], args := [] }

/- WHAT THE LISTED PACKAGE-LEVEL VARIABLES READ AS WHEN THE CALL BEGINS. Each datum BY PROGRAM (the guide's laid-datum.mjs) off the statement by which the dump's own 'gosem.cut.vars' lays the variable. In a bare row this is a premise. The card (YtkmklmdhmfikmaaDoorCards.lean) ties it to the program's text. -/
def laid_plimsoll_cats_errCats {H : Type} : DataW H := .iface "*errors.errorString" (.ptr (.agg [.lit (.string [110, 111, 32, 99, 97, 116, 101, 103, 111, 114, 121])]))
def laid_math_bits_deBruijn64tab {H : Type} : DataW H := .agg [.lit (.int .u8 0), .lit (.int .u8 1), .lit (.int .u8 56), .lit (.int .u8 2), .lit (.int .u8 57), .lit (.int .u8 49), .lit (.int .u8 28), .lit (.int .u8 3), .lit (.int .u8 61), .lit (.int .u8 58), .lit (.int .u8 42), .lit (.int .u8 50), .lit (.int .u8 38), .lit (.int .u8 29), .lit (.int .u8 17), .lit (.int .u8 4), .lit (.int .u8 62), .lit (.int .u8 47), .lit (.int .u8 59), .lit (.int .u8 36), .lit (.int .u8 45), .lit (.int .u8 43), .lit (.int .u8 51), .lit (.int .u8 22), .lit (.int .u8 53), .lit (.int .u8 39), .lit (.int .u8 33), .lit (.int .u8 30), .lit (.int .u8 24), .lit (.int .u8 18), .lit (.int .u8 12), .lit (.int .u8 5), .lit (.int .u8 63), .lit (.int .u8 55), .lit (.int .u8 48), .lit (.int .u8 27), .lit (.int .u8 60), .lit (.int .u8 41), .lit (.int .u8 37), .lit (.int .u8 16), .lit (.int .u8 46), .lit (.int .u8 35), .lit (.int .u8 44), .lit (.int .u8 21), .lit (.int .u8 52), .lit (.int .u8 32), .lit (.int .u8 23), .lit (.int .u8 11), .lit (.int .u8 54), .lit (.int .u8 26), .lit (.int .u8 40), .lit (.int .u8 15), .lit (.int .u8 34), .lit (.int .u8 20), .lit (.int .u8 31), .lit (.int .u8 10), .lit (.int .u8 25), .lit (.int .u8 14), .lit (.int .u8 19), .lit (.int .u8 9), .lit (.int .u8 13), .lit (.int .u8 8), .lit (.int .u8 7), .lit (.int .u8 6)]

/-- 'plimsolllaw01.CatsCompares': WHATEVER THE INPUT: true; the input reads as it did. -/
def catsComparesSpec : ChangeSpec := { name := "catsCompares", fn := fun _ => fun
  | [d1, d2] => { results := [.lit (.bool true)], args := [d1, d2] }
  | _ => none }
def catsComparesRow : OpenClaim := { program := "ytkmklmdhmfikmaadoor", sum := "6bcdf037af06f3299e3fec60c75b0cb3689ca99fa6e2757f8cd371184279355a", func := "plimsoll/plimsolllaw01.CatsCompares", spec := "catsCompares", inPlace := ["internal/reflectlite.TypeOf"], unfollowed := true, recurses := true, named := ["plimsoll/cats.errCats"], apart := false, laid := [("plimsoll/cats.errCats", laid_plimsoll_cats_errCats)] }
def CatsComparesSaid : Prop := catsComparesRow.holds Tryd.pinned (OpenSpec.ofChange catsComparesSpec)

/-- ITS FALSE NEIGHBOUR: 'it returns false'. Refute it at one input. -/
def catsComparesWrong : ChangeSpec := { name := "catsCompares", fn := fun _ => fun
  | [d1, d2] => { results := [.lit (.bool false)], args := [d1, d2] }
  | _ => none }
def CatsComparesWrongFalsely : Prop := catsComparesRow.holds Tryd.pinned (OpenSpec.ofChange catsComparesWrong)

/-- 'plimsolllaw01.CatsParts': WHATEVER THE INPUT: true; the input reads as it did. -/
def catsPartsSpec : ChangeSpec := { name := "catsParts", fn := fun _ => fun
  | [d1, d2] => { results := [.lit (.bool true)], args := [d1, d2] }
  | _ => none }
def catsPartsRow : OpenClaim := { program := "ytkmklmdhmfikmaadoor", sum := "6bcdf037af06f3299e3fec60c75b0cb3689ca99fa6e2757f8cd371184279355a", func := "plimsoll/plimsolllaw01.CatsParts", spec := "catsParts", inPlace := ["internal/reflectlite.TypeOf"], unfollowed := true, recurses := true, named := ["plimsoll/cats.errCats"], apart := false, laid := [("plimsoll/cats.errCats", laid_plimsoll_cats_errCats)] }
def CatsPartsSaid : Prop := catsPartsRow.holds Tryd.pinned (OpenSpec.ofChange catsPartsSpec)

/-- ITS FALSE NEIGHBOUR: 'it returns false'. Refute it at one input. -/
def catsPartsWrong : ChangeSpec := { name := "catsParts", fn := fun _ => fun
  | [d1, d2] => { results := [.lit (.bool false)], args := [d1, d2] }
  | _ => none }
def CatsPartsWrongFalsely : Prop := catsPartsRow.holds Tryd.pinned (OpenSpec.ofChange catsPartsWrong)

/-- 'plimsolllaw01.CatsCounts': WHATEVER THE INPUT: true; the input reads as it did. -/
def catsCountsSpec : ChangeSpec := { name := "catsCounts", fn := fun _ => fun
  | [d1, d2] => { results := [.lit (.bool true)], args := [d1, d2] }
  | _ => none }
def catsCountsRow : OpenClaim := { program := "ytkmklmdhmfikmaadoor", sum := "6bcdf037af06f3299e3fec60c75b0cb3689ca99fa6e2757f8cd371184279355a", func := "plimsoll/plimsolllaw01.CatsCounts", spec := "catsCounts", inPlace := ["internal/reflectlite.TypeOf"], unfollowed := true, recurses := true, named := ["plimsoll/cats.errCats"], apart := false, laid := [("plimsoll/cats.errCats", laid_plimsoll_cats_errCats)] }
def CatsCountsSaid : Prop := catsCountsRow.holds Tryd.pinned (OpenSpec.ofChange catsCountsSpec)

/-- ITS FALSE NEIGHBOUR: 'it returns false'. Refute it at one input. -/
def catsCountsWrong : ChangeSpec := { name := "catsCounts", fn := fun _ => fun
  | [d1, d2] => { results := [.lit (.bool false)], args := [d1, d2] }
  | _ => none }
def CatsCountsWrongFalsely : Prop := catsCountsRow.holds Tryd.pinned (OpenSpec.ofChange catsCountsWrong)

/-- 'plimsolllaw01.CatsSteps': WHATEVER THE INPUT: true; the input reads as it did. -/
def catsStepsSpec : ChangeSpec := { name := "catsSteps", fn := fun _ => fun
  | [d1, d2, d3] => { results := [.lit (.bool true)], args := [d1, d2, d3] }
  | _ => none }
def catsStepsRow : OpenClaim := { program := "ytkmklmdhmfikmaadoor", sum := "6bcdf037af06f3299e3fec60c75b0cb3689ca99fa6e2757f8cd371184279355a", func := "plimsoll/plimsolllaw01.CatsSteps", spec := "catsSteps", inPlace := ["internal/reflectlite.TypeOf"], unfollowed := true, recurses := true, named := ["plimsoll/cats.errCats"], apart := false, laid := [("plimsoll/cats.errCats", laid_plimsoll_cats_errCats)] }
def CatsStepsSaid : Prop := catsStepsRow.holds Tryd.pinned (OpenSpec.ofChange catsStepsSpec)

/-- ITS FALSE NEIGHBOUR: 'it returns false'. Refute it at one input. -/
def catsStepsWrong : ChangeSpec := { name := "catsSteps", fn := fun _ => fun
  | [d1, d2, d3] => { results := [.lit (.bool false)], args := [d1, d2, d3] }
  | _ => none }
def CatsStepsWrongFalsely : Prop := catsStepsRow.holds Tryd.pinned (OpenSpec.ofChange catsStepsWrong)

/-- 'plimsolllaw01.CatsBack': WHATEVER THE INPUT: true; the input reads as it did. -/
def catsBackSpec : ChangeSpec := { name := "catsBack", fn := fun _ => fun
  | [d1, d2] => { results := [.lit (.bool true)], args := [d1, d2] }
  | _ => none }
def catsBackRow : OpenClaim := { program := "ytkmklmdhmfikmaadoor", sum := "6bcdf037af06f3299e3fec60c75b0cb3689ca99fa6e2757f8cd371184279355a", func := "plimsoll/plimsolllaw01.CatsBack", spec := "catsBack", inPlace := ["internal/reflectlite.TypeOf"], unfollowed := true, recurses := true, named := ["plimsoll/cats.errCats", "math/bits.deBruijn64tab"], apart := false, laid := [("math/bits.deBruijn64tab", laid_math_bits_deBruijn64tab), ("plimsoll/cats.errCats", laid_plimsoll_cats_errCats)] }
def CatsBackSaid : Prop := catsBackRow.holds Tryd.pinned (OpenSpec.ofChange catsBackSpec)

/-- ITS FALSE NEIGHBOUR: 'it returns false'. Refute it at one input. -/
def catsBackWrong : ChangeSpec := { name := "catsBack", fn := fun _ => fun
  | [d1, d2] => { results := [.lit (.bool false)], args := [d1, d2] }
  | _ => none }
def CatsBackWrongFalsely : Prop := catsBackRow.holds Tryd.pinned (OpenSpec.ofChange catsBackWrong)

/-- 'plimsolllaw01.CatsMakes': WHATEVER THE INPUT: true; the input reads as it did. -/
def catsMakesSpec : ChangeSpec := { name := "catsMakes", fn := fun _ => fun
  | [d1, d2, d3] => { results := [.lit (.bool true)], args := [d1, d2, d3] }
  | _ => none }
def catsMakesRow : OpenClaim := { program := "ytkmklmdhmfikmaadoor", sum := "6bcdf037af06f3299e3fec60c75b0cb3689ca99fa6e2757f8cd371184279355a", func := "plimsoll/plimsolllaw01.CatsMakes", spec := "catsMakes", inPlace := ["internal/reflectlite.TypeOf"], unfollowed := true, recurses := true, named := ["plimsoll/cats.errCats", "math/bits.deBruijn64tab"], apart := false, laid := [("math/bits.deBruijn64tab", laid_math_bits_deBruijn64tab), ("plimsoll/cats.errCats", laid_plimsoll_cats_errCats)] }
def CatsMakesSaid : Prop := catsMakesRow.holds Tryd.pinned (OpenSpec.ofChange catsMakesSpec)

/-- ITS FALSE NEIGHBOUR: 'it returns false'. Refute it at one input. -/
def catsMakesWrong : ChangeSpec := { name := "catsMakes", fn := fun _ => fun
  | [d1, d2, d3] => { results := [.lit (.bool false)], args := [d1, d2, d3] }
  | _ => none }
def CatsMakesWrongFalsely : Prop := catsMakesRow.holds Tryd.pinned (OpenSpec.ofChange catsMakesWrong)

/- THE SECOND FORM. 'bulk': how many values and letters a reading holds, each counted each time it is reached (what is shared counts as often as it is met; a slice's spare places count too). A statement '..UptoSaid' is the law's where the arguments, and the package variables that the reading takes, are together of bulk at most 1048576: NARROWER than '..Said'. Prove '..Said' where nothing that the law and all that it calls make is longer than what came in: it says more and counts as full. Else prove '..UptoSaid'. A law counts once. -/
mutual
def uptoBulk {H : Type} : DataW H → Nat
  | .lit (.string bytes) => bytes.length + 1
  | .lit _ => 1
  | .nil => 1
  | .ptr d => uptoBulk d + 1
  | .slice elems spare => uptoBulkAll elems + uptoBulkAll spare + 1
  | .agg parts => uptoBulkAll parts + 1
  | .iface _ d => uptoBulk d + 1
  | .map entries => uptoBulkEntries entries + 1
  | .held _ => 1
def uptoBulkAll {H : Type} : List (DataW H) → Nat
  | [] => 0
  | d :: r => uptoBulk d + uptoBulkAll r
def uptoBulkEntries {H : Type} : List (Lit × DataW H) → Nat
  | [] => 0
  | x :: r => uptoBulkEntry x + uptoBulkEntries r
def uptoBulkEntry {H : Type} : Lit × DataW H → Nat
  | (.string bytes, d) => bytes.length + uptoBulk d + 1
  | (_, d) => uptoBulk d + 1
 end
def uptoSmall : (H : Type) → List (DataW H) → Bool := fun _ ds => decide (uptoBulkAll ds ≤ 1048576)
def OpenSpec.upto (s : _root_.Go.ChangeSpec) : _root_.Go.OpenSpec := { _root_.Go.OpenSpec.ofChange s with cond := some uptoSmall }

/-- 'plimsolllaw01.CatsCompares', WHERE WHAT IT READS IS OF BULK AT MOST 1048576: true; the input reads as it did. -/
def catsComparesUptoRow : OpenClaim := { program := "ytkmklmdhmfikmaadoor", sum := "6bcdf037af06f3299e3fec60c75b0cb3689ca99fa6e2757f8cd371184279355a", func := "plimsoll/plimsolllaw01.CatsCompares", spec := "catsCompares", inPlace := ["internal/reflectlite.TypeOf"], unfollowed := true, recurses := true, named := ["plimsoll/cats.errCats"], apart := false, laid := [("plimsoll/cats.errCats", laid_plimsoll_cats_errCats)], narrowed := true }
def CatsComparesUptoSaid : Prop := catsComparesUptoRow.holds Tryd.pinned (OpenSpec.upto catsComparesSpec)

/-- 'plimsolllaw01.CatsParts', WHERE WHAT IT READS IS OF BULK AT MOST 1048576: true; the input reads as it did. -/
def catsPartsUptoRow : OpenClaim := { program := "ytkmklmdhmfikmaadoor", sum := "6bcdf037af06f3299e3fec60c75b0cb3689ca99fa6e2757f8cd371184279355a", func := "plimsoll/plimsolllaw01.CatsParts", spec := "catsParts", inPlace := ["internal/reflectlite.TypeOf"], unfollowed := true, recurses := true, named := ["plimsoll/cats.errCats"], apart := false, laid := [("plimsoll/cats.errCats", laid_plimsoll_cats_errCats)], narrowed := true }
def CatsPartsUptoSaid : Prop := catsPartsUptoRow.holds Tryd.pinned (OpenSpec.upto catsPartsSpec)

/-- 'plimsolllaw01.CatsCounts', WHERE WHAT IT READS IS OF BULK AT MOST 1048576: true; the input reads as it did. -/
def catsCountsUptoRow : OpenClaim := { program := "ytkmklmdhmfikmaadoor", sum := "6bcdf037af06f3299e3fec60c75b0cb3689ca99fa6e2757f8cd371184279355a", func := "plimsoll/plimsolllaw01.CatsCounts", spec := "catsCounts", inPlace := ["internal/reflectlite.TypeOf"], unfollowed := true, recurses := true, named := ["plimsoll/cats.errCats"], apart := false, laid := [("plimsoll/cats.errCats", laid_plimsoll_cats_errCats)], narrowed := true }
def CatsCountsUptoSaid : Prop := catsCountsUptoRow.holds Tryd.pinned (OpenSpec.upto catsCountsSpec)

/-- 'plimsolllaw01.CatsSteps', WHERE WHAT IT READS IS OF BULK AT MOST 1048576: true; the input reads as it did. -/
def catsStepsUptoRow : OpenClaim := { program := "ytkmklmdhmfikmaadoor", sum := "6bcdf037af06f3299e3fec60c75b0cb3689ca99fa6e2757f8cd371184279355a", func := "plimsoll/plimsolllaw01.CatsSteps", spec := "catsSteps", inPlace := ["internal/reflectlite.TypeOf"], unfollowed := true, recurses := true, named := ["plimsoll/cats.errCats"], apart := false, laid := [("plimsoll/cats.errCats", laid_plimsoll_cats_errCats)], narrowed := true }
def CatsStepsUptoSaid : Prop := catsStepsUptoRow.holds Tryd.pinned (OpenSpec.upto catsStepsSpec)

/-- 'plimsolllaw01.CatsBack', WHERE WHAT IT READS IS OF BULK AT MOST 1048576: true; the input reads as it did. -/
def catsBackUptoRow : OpenClaim := { program := "ytkmklmdhmfikmaadoor", sum := "6bcdf037af06f3299e3fec60c75b0cb3689ca99fa6e2757f8cd371184279355a", func := "plimsoll/plimsolllaw01.CatsBack", spec := "catsBack", inPlace := ["internal/reflectlite.TypeOf"], unfollowed := true, recurses := true, named := ["plimsoll/cats.errCats", "math/bits.deBruijn64tab"], apart := false, laid := [("math/bits.deBruijn64tab", laid_math_bits_deBruijn64tab), ("plimsoll/cats.errCats", laid_plimsoll_cats_errCats)], narrowed := true }
def CatsBackUptoSaid : Prop := catsBackUptoRow.holds Tryd.pinned (OpenSpec.upto catsBackSpec)

/-- 'plimsolllaw01.CatsMakes', WHERE WHAT IT READS IS OF BULK AT MOST 1048576: true; the input reads as it did. -/
def catsMakesUptoRow : OpenClaim := { program := "ytkmklmdhmfikmaadoor", sum := "6bcdf037af06f3299e3fec60c75b0cb3689ca99fa6e2757f8cd371184279355a", func := "plimsoll/plimsolllaw01.CatsMakes", spec := "catsMakes", inPlace := ["internal/reflectlite.TypeOf"], unfollowed := true, recurses := true, named := ["plimsoll/cats.errCats", "math/bits.deBruijn64tab"], apart := false, laid := [("math/bits.deBruijn64tab", laid_math_bits_deBruijn64tab), ("plimsoll/cats.errCats", laid_plimsoll_cats_errCats)], narrowed := true }
def CatsMakesUptoSaid : Prop := catsMakesUptoRow.holds Tryd.pinned (OpenSpec.upto catsMakesSpec)

end Rows
end Go.Proofs.YtkmklmdhmfikmaaDoor
