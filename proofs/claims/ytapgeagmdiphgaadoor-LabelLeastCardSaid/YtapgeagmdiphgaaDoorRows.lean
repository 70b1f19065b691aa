/-
  NARROWER THAN 'FOR EVERY INPUT', by the rows' own cells (each row's printed sentence says how): LabelJoins: laid · LabelMeets: laid · LabelTurns: laid · LabelUnder: laid · LabelOrders: laid · LabelLeast: laid · LabelTotal: laid · LabelKnows: laid.
  DERIVED. THE GIVEN ROWS OF THIS SEAT. 8 by the template 'for every input the law returns true; each argument reads behind the call as it read before'; 0 by the template 'total and deterministic' (their statements: YtapgeagmdiphgaaDoorTotals.lean).
  GIVEN WITH THE SEED: the statements are not yours to turn. If you find one false, say at which input.
  Laid BY PROGRAM, IN A SANDBOX (cutbox-rows.mjs): the forced cells as the released guide's own fill.sh prints them over the translation 42c6cce0f1708165… (all of the seat's roots in one cut). By AI agents, Wed Nov 11 2026. No macro, syntax, notation, axiom, sorry.
-/
import Derived.Test.YtapgeagmdiphgaaDoorChecked
import GoSem.Claim
import GoSem.ClaimJoined
import GoSem.ClaimMapViews
import Derived.JoinedTies
import Derived.KernelRfl
namespace Go.Proofs.YtapgeagmdiphgaaDoor
/- THE CELL 'sum', in the pinned program and in every row, IS THE sha256 OF THE DUMP (.gsa) THAT YtapgeagmdiphgaaDoorProg.lean LOADS. Nothing in Lean hashes anything: it is a label: what it is worth is what the hold of that sum in a sandbox is worth. -/
noncomputable def Tryd.pinned : Pinned := { name := "ytapgeagmdiphgaadoor", sum := "42c6cce0f1708165f7caa85dd1bf9364cd17658404d6f9b7f5b033934bfc61ce", checked := Tryd.checked }
namespace Rows
def none {H : Type} : Left H := { results := [], args := [] }

/- WHAT THE LISTED PACKAGE-LEVEL VARIABLES READ AS WHEN THE CALL BEGINS. Each datum BY PROGRAM (the guide's laid-datum.mjs) off the statement by which the dump's own 'gosem.cut.vars' lays the variable. In a bare row this is a premise. The card (YtapgeagmdiphgaaDoorCards.lean) ties it to the program's text. -/
def laid_errors_errorType {H : Type} : DataW H := .iface "internal/reflectlite.rtype" (.agg [.ptr (.lit (.string [101, 114, 114, 111, 114]))])

/-- 'plimsolllaw02.LabelJoins': WHATEVER THE INPUT: true; the input reads as it did. -/
def labelJoinsSpec : ChangeSpec := { name := "labelJoins", fn := fun _ => fun
  | [d1, d2, d3] => { results := [.lit (.bool true)], args := [d1, d2, d3] }
  | _ => none }
def labelJoinsRow : OpenClaim := { program := "ytapgeagmdiphgaadoor", sum := "42c6cce0f1708165f7caa85dd1bf9364cd17658404d6f9b7f5b033934bfc61ce", func := "plimsoll/plimsolllaw02.LabelJoins", spec := "labelJoins", inPlace := ["internal/reflectlite.ValueOf", "(internal/reflectlite.Value).Type", "(internal/reflectlite.Value).IsNil", "internal/reflectlite.TypeOf", "(internal/reflectlite.Value).Elem", "(internal/reflectlite.Value).Set"], unfollowed := true, recurses := true, named := ["errors.errorType"], apart := false, laid := [("errors.errorType", laid_errors_errorType)] }
def LabelJoinsSaid : Prop := labelJoinsRow.holds Tryd.pinned (OpenSpec.ofChange labelJoinsSpec)

/-- ITS FALSE NEIGHBOUR: 'it returns false'. Refute it at one input. -/
def labelJoinsWrong : ChangeSpec := { name := "labelJoins", fn := fun _ => fun
  | [d1, d2, d3] => { results := [.lit (.bool false)], args := [d1, d2, d3] }
  | _ => none }
def LabelJoinsWrongFalsely : Prop := labelJoinsRow.holds Tryd.pinned (OpenSpec.ofChange labelJoinsWrong)

/-- 'plimsolllaw02.LabelMeets': WHATEVER THE INPUT: true; the input reads as it did. -/
def labelMeetsSpec : ChangeSpec := { name := "labelMeets", fn := fun _ => fun
  | [d1, d2, d3] => { results := [.lit (.bool true)], args := [d1, d2, d3] }
  | _ => none }
def labelMeetsRow : OpenClaim := { program := "ytapgeagmdiphgaadoor", sum := "42c6cce0f1708165f7caa85dd1bf9364cd17658404d6f9b7f5b033934bfc61ce", func := "plimsoll/plimsolllaw02.LabelMeets", spec := "labelMeets", inPlace := ["internal/reflectlite.ValueOf", "(internal/reflectlite.Value).Type", "(internal/reflectlite.Value).IsNil", "internal/reflectlite.TypeOf", "(internal/reflectlite.Value).Elem", "(internal/reflectlite.Value).Set"], unfollowed := true, recurses := true, named := ["errors.errorType"], apart := false, laid := [("errors.errorType", laid_errors_errorType)] }
def LabelMeetsSaid : Prop := labelMeetsRow.holds Tryd.pinned (OpenSpec.ofChange labelMeetsSpec)

/-- ITS FALSE NEIGHBOUR: 'it returns false'. Refute it at one input. -/
def labelMeetsWrong : ChangeSpec := { name := "labelMeets", fn := fun _ => fun
  | [d1, d2, d3] => { results := [.lit (.bool false)], args := [d1, d2, d3] }
  | _ => none }
def LabelMeetsWrongFalsely : Prop := labelMeetsRow.holds Tryd.pinned (OpenSpec.ofChange labelMeetsWrong)

/-- 'plimsolllaw02.LabelTurns': WHATEVER THE INPUT: true; the input reads as it did. -/
def labelTurnsSpec : ChangeSpec := { name := "labelTurns", fn := fun _ => fun
  | [d1, d2, d3] => { results := [.lit (.bool true)], args := [d1, d2, d3] }
  | _ => none }
def labelTurnsRow : OpenClaim := { program := "ytapgeagmdiphgaadoor", sum := "42c6cce0f1708165f7caa85dd1bf9364cd17658404d6f9b7f5b033934bfc61ce", func := "plimsoll/plimsolllaw02.LabelTurns", spec := "labelTurns", inPlace := ["internal/reflectlite.ValueOf", "(internal/reflectlite.Value).Type", "(internal/reflectlite.Value).IsNil", "internal/reflectlite.TypeOf", "(internal/reflectlite.Value).Elem", "(internal/reflectlite.Value).Set"], unfollowed := true, recurses := true, named := ["errors.errorType"], apart := false, laid := [("errors.errorType", laid_errors_errorType)] }
def LabelTurnsSaid : Prop := labelTurnsRow.holds Tryd.pinned (OpenSpec.ofChange labelTurnsSpec)

/-- ITS FALSE NEIGHBOUR: 'it returns false'. Refute it at one input. -/
def labelTurnsWrong : ChangeSpec := { name := "labelTurns", fn := fun _ => fun
  | [d1, d2, d3] => { results := [.lit (.bool false)], args := [d1, d2, d3] }
  | _ => none }
def LabelTurnsWrongFalsely : Prop := labelTurnsRow.holds Tryd.pinned (OpenSpec.ofChange labelTurnsWrong)

/-- 'plimsolllaw02.LabelUnder': WHATEVER THE INPUT: true; the input reads as it did. -/
def labelUnderSpec : ChangeSpec := { name := "labelUnder", fn := fun _ => fun
  | [d1, d2] => { results := [.lit (.bool true)], args := [d1, d2] }
  | _ => none }
def labelUnderRow : OpenClaim := { program := "ytapgeagmdiphgaadoor", sum := "42c6cce0f1708165f7caa85dd1bf9364cd17658404d6f9b7f5b033934bfc61ce", func := "plimsoll/plimsolllaw02.LabelUnder", spec := "labelUnder", inPlace := ["internal/reflectlite.ValueOf", "(internal/reflectlite.Value).Type", "(internal/reflectlite.Value).IsNil", "internal/reflectlite.TypeOf", "(internal/reflectlite.Value).Elem", "(internal/reflectlite.Value).Set"], unfollowed := true, recurses := true, named := ["errors.errorType"], apart := false, laid := [("errors.errorType", laid_errors_errorType)] }
def LabelUnderSaid : Prop := labelUnderRow.holds Tryd.pinned (OpenSpec.ofChange labelUnderSpec)

/-- ITS FALSE NEIGHBOUR: 'it returns false'. Refute it at one input. -/
def labelUnderWrong : ChangeSpec := { name := "labelUnder", fn := fun _ => fun
  | [d1, d2] => { results := [.lit (.bool false)], args := [d1, d2] }
  | _ => none }
def LabelUnderWrongFalsely : Prop := labelUnderRow.holds Tryd.pinned (OpenSpec.ofChange labelUnderWrong)

/-- 'plimsolllaw02.LabelOrders': WHATEVER THE INPUT: true; the input reads as it did. -/
def labelOrdersSpec : ChangeSpec := { name := "labelOrders", fn := fun _ => fun
  | [d1, d2, d3] => { results := [.lit (.bool true)], args := [d1, d2, d3] }
  | _ => none }
def labelOrdersRow : OpenClaim := { program := "ytapgeagmdiphgaadoor", sum := "42c6cce0f1708165f7caa85dd1bf9364cd17658404d6f9b7f5b033934bfc61ce", func := "plimsoll/plimsolllaw02.LabelOrders", spec := "labelOrders", inPlace := ["internal/reflectlite.ValueOf", "(internal/reflectlite.Value).Type", "(internal/reflectlite.Value).IsNil", "internal/reflectlite.TypeOf", "(internal/reflectlite.Value).Elem", "(internal/reflectlite.Value).Set"], unfollowed := true, recurses := true, named := ["errors.errorType"], apart := false, laid := [("errors.errorType", laid_errors_errorType)] }
def LabelOrdersSaid : Prop := labelOrdersRow.holds Tryd.pinned (OpenSpec.ofChange labelOrdersSpec)

/-- ITS FALSE NEIGHBOUR: 'it returns false'. Refute it at one input. -/
def labelOrdersWrong : ChangeSpec := { name := "labelOrders", fn := fun _ => fun
  | [d1, d2, d3] => { results := [.lit (.bool false)], args := [d1, d2, d3] }
  | _ => none }
def LabelOrdersWrongFalsely : Prop := labelOrdersRow.holds Tryd.pinned (OpenSpec.ofChange labelOrdersWrong)

/-- 'plimsolllaw02.LabelLeast': WHATEVER THE INPUT: true; the input reads as it did. -/
def labelLeastSpec : ChangeSpec := { name := "labelLeast", fn := fun _ => fun
  | [d] => { results := [.lit (.bool true)], args := [d] }
  | _ => none }
def labelLeastRow : OpenClaim := { program := "ytapgeagmdiphgaadoor", sum := "42c6cce0f1708165f7caa85dd1bf9364cd17658404d6f9b7f5b033934bfc61ce", func := "plimsoll/plimsolllaw02.LabelLeast", spec := "labelLeast", inPlace := ["internal/reflectlite.ValueOf", "(internal/reflectlite.Value).Type", "(internal/reflectlite.Value).IsNil", "internal/reflectlite.TypeOf", "(internal/reflectlite.Value).Elem", "(internal/reflectlite.Value).Set"], unfollowed := true, recurses := true, named := ["errors.errorType"], apart := false, laid := [("errors.errorType", laid_errors_errorType)] }
def LabelLeastSaid : Prop := labelLeastRow.holds Tryd.pinned (OpenSpec.ofChange labelLeastSpec)

/-- ITS FALSE NEIGHBOUR: 'it returns false'. Refute it at one input. -/
def labelLeastWrong : ChangeSpec := { name := "labelLeast", fn := fun _ => fun
  | [d] => { results := [.lit (.bool false)], args := [d] }
  | _ => none }
def LabelLeastWrongFalsely : Prop := labelLeastRow.holds Tryd.pinned (OpenSpec.ofChange labelLeastWrong)

/-- 'plimsolllaw02.LabelTotal': WHATEVER THE INPUT: true; the input reads as it did. -/
def labelTotalSpec : ChangeSpec := { name := "labelTotal", fn := fun _ => fun
  | [d1, d2, d3] => { results := [.lit (.bool true)], args := [d1, d2, d3] }
  | _ => none }
def labelTotalRow : OpenClaim := { program := "ytapgeagmdiphgaadoor", sum := "42c6cce0f1708165f7caa85dd1bf9364cd17658404d6f9b7f5b033934bfc61ce", func := "plimsoll/plimsolllaw02.LabelTotal", spec := "labelTotal", inPlace := ["internal/reflectlite.ValueOf", "(internal/reflectlite.Value).Type", "(internal/reflectlite.Value).IsNil", "internal/reflectlite.TypeOf", "(internal/reflectlite.Value).Elem", "(internal/reflectlite.Value).Set"], unfollowed := true, recurses := true, named := ["errors.errorType"], apart := false, laid := [("errors.errorType", laid_errors_errorType)] }
def LabelTotalSaid : Prop := labelTotalRow.holds Tryd.pinned (OpenSpec.ofChange labelTotalSpec)

/-- ITS FALSE NEIGHBOUR: 'it returns false'. Refute it at one input. -/
def labelTotalWrong : ChangeSpec := { name := "labelTotal", fn := fun _ => fun
  | [d1, d2, d3] => { results := [.lit (.bool false)], args := [d1, d2, d3] }
  | _ => none }
def LabelTotalWrongFalsely : Prop := labelTotalRow.holds Tryd.pinned (OpenSpec.ofChange labelTotalWrong)

/-- 'plimsolllaw02.LabelKnows': WHATEVER THE INPUT: true; the input reads as it did. -/
def labelKnowsSpec : ChangeSpec := { name := "labelKnows", fn := fun _ => fun
  | [d1, d2] => { results := [.lit (.bool true)], args := [d1, d2] }
  | _ => none }
def labelKnowsRow : OpenClaim := { program := "ytapgeagmdiphgaadoor", sum := "42c6cce0f1708165f7caa85dd1bf9364cd17658404d6f9b7f5b033934bfc61ce", func := "plimsoll/plimsolllaw02.LabelKnows", spec := "labelKnows", inPlace := ["internal/reflectlite.ValueOf", "(internal/reflectlite.Value).Type", "(internal/reflectlite.Value).IsNil", "internal/reflectlite.TypeOf", "(internal/reflectlite.Value).Elem", "(internal/reflectlite.Value).Set"], unfollowed := true, recurses := true, named := ["errors.errorType"], apart := false, laid := [("errors.errorType", laid_errors_errorType)] }
def LabelKnowsSaid : Prop := labelKnowsRow.holds Tryd.pinned (OpenSpec.ofChange labelKnowsSpec)

/-- ITS FALSE NEIGHBOUR: 'it returns false'. Refute it at one input. -/
def labelKnowsWrong : ChangeSpec := { name := "labelKnows", fn := fun _ => fun
  | [d1, d2] => { results := [.lit (.bool false)], args := [d1, d2] }
  | _ => none }
def LabelKnowsWrongFalsely : Prop := labelKnowsRow.holds Tryd.pinned (OpenSpec.ofChange labelKnowsWrong)

/- THE SECOND FORM. 'bulk': how many values and letters a reading holds, each counted each time it is reached (what is shared counts as often as it is met; a slice's spare places count too). A statement '..UptoSaid' is the law's where the arguments, and the package variables that the reading takes, are together of bulk at most 1048576: NARROWER than '..Said'. Prove '..Said' where nothing that the law and all that it calls make is longer than what came in: it says more and counts as full. Else prove '..UptoSaid'. A law counts once. -/
mutual
def uptoBulk {H : Type} : DataW H → Nat
  | .lit (.string bytes) => bytes.length + 1
  | .lit _ => 1
  | .nil => 1
  | .ptr d => uptoBulk d + 1
  | .slice elems spare => uptoBulkAll elems + uptoBulkAll spare + 1
  | .agg parts => uptoBulkAll parts + 1
  | .iface _ d => uptoBulk d + 1
  | .map entries => uptoBulkEntries entries + 1
  | .held _ => 1
def uptoBulkAll {H : Type} : List (DataW H) → Nat
  | [] => 0
  | d :: r => uptoBulk d + uptoBulkAll r
def uptoBulkEntries {H : Type} : List (Lit × DataW H) → Nat
  | [] => 0
  | x :: r => uptoBulkEntry x + uptoBulkEntries r
def uptoBulkEntry {H : Type} : Lit × DataW H → Nat
  | (.string bytes, d) => bytes.length + uptoBulk d + 1
  | (_, d) => uptoBulk d + 1
 end
def uptoSmall : (H : Type) → List (DataW H) → Bool := fun _ ds => decide (uptoBulkAll ds ≤ 1048576)
def OpenSpec.upto (s : _root_.Go.ChangeSpec) : _root_.Go.OpenSpec := { _root_.Go.OpenSpec.ofChange s with cond := some uptoSmall }

/-- 'plimsolllaw02.LabelJoins', WHERE WHAT IT READS IS OF BULK AT MOST 1048576: true; the input reads as it did. -/
def labelJoinsUptoRow : OpenClaim := { program := "ytapgeagmdiphgaadoor", sum := "42c6cce0f1708165f7caa85dd1bf9364cd17658404d6f9b7f5b033934bfc61ce", func := "plimsoll/plimsolllaw02.LabelJoins", spec := "labelJoins", inPlace := ["internal/reflectlite.ValueOf", "(internal/reflectlite.Value).Type", "(internal/reflectlite.Value).IsNil", "internal/reflectlite.TypeOf", "(internal/reflectlite.Value).Elem", "(internal/reflectlite.Value).Set"], unfollowed := true, recurses := true, named := ["errors.errorType"], apart := false, laid := [("errors.errorType", laid_errors_errorType)], narrowed := true }
def LabelJoinsUptoSaid : Prop := labelJoinsUptoRow.holds Tryd.pinned (OpenSpec.upto labelJoinsSpec)

/-- 'plimsolllaw02.LabelMeets', WHERE WHAT IT READS IS OF BULK AT MOST 1048576: true; the input reads as it did. -/
def labelMeetsUptoRow : OpenClaim := { program := "ytapgeagmdiphgaadoor", sum := "42c6cce0f1708165f7caa85dd1bf9364cd17658404d6f9b7f5b033934bfc61ce", func := "plimsoll/plimsolllaw02.LabelMeets", spec := "labelMeets", inPlace := ["internal/reflectlite.ValueOf", "(internal/reflectlite.Value).Type", "(internal/reflectlite.Value).IsNil", "internal/reflectlite.TypeOf", "(internal/reflectlite.Value).Elem", "(internal/reflectlite.Value).Set"], unfollowed := true, recurses := true, named := ["errors.errorType"], apart := false, laid := [("errors.errorType", laid_errors_errorType)], narrowed := true }
def LabelMeetsUptoSaid : Prop := labelMeetsUptoRow.holds Tryd.pinned (OpenSpec.upto labelMeetsSpec)

/-- 'plimsolllaw02.LabelTurns', WHERE WHAT IT READS IS OF BULK AT MOST 1048576: true; the input reads as it did. -/
def labelTurnsUptoRow : OpenClaim := { program := "ytapgeagmdiphgaadoor", sum := "42c6cce0f1708165f7caa85dd1bf9364cd17658404d6f9b7f5b033934bfc61ce", func := "plimsoll/plimsolllaw02.LabelTurns", spec := "labelTurns", inPlace := ["internal/reflectlite.ValueOf", "(internal/reflectlite.Value).Type", "(internal/reflectlite.Value).IsNil", "internal/reflectlite.TypeOf", "(internal/reflectlite.Value).Elem", "(internal/reflectlite.Value).Set"], unfollowed := true, recurses := true, named := ["errors.errorType"], apart := false, laid := [("errors.errorType", laid_errors_errorType)], narrowed := true }
def LabelTurnsUptoSaid : Prop := labelTurnsUptoRow.holds Tryd.pinned (OpenSpec.upto labelTurnsSpec)

/-- 'plimsolllaw02.LabelUnder', WHERE WHAT IT READS IS OF BULK AT MOST 1048576: true; the input reads as it did. -/
def labelUnderUptoRow : OpenClaim := { program := "ytapgeagmdiphgaadoor", sum := "42c6cce0f1708165f7caa85dd1bf9364cd17658404d6f9b7f5b033934bfc61ce", func := "plimsoll/plimsolllaw02.LabelUnder", spec := "labelUnder", inPlace := ["internal/reflectlite.ValueOf", "(internal/reflectlite.Value).Type", "(internal/reflectlite.Value).IsNil", "internal/reflectlite.TypeOf", "(internal/reflectlite.Value).Elem", "(internal/reflectlite.Value).Set"], unfollowed := true, recurses := true, named := ["errors.errorType"], apart := false, laid := [("errors.errorType", laid_errors_errorType)], narrowed := true }
def LabelUnderUptoSaid : Prop := labelUnderUptoRow.holds Tryd.pinned (OpenSpec.upto labelUnderSpec)

/-- 'plimsolllaw02.LabelOrders', WHERE WHAT IT READS IS OF BULK AT MOST 1048576: true; the input reads as it did. -/
def labelOrdersUptoRow : OpenClaim := { program := "ytapgeagmdiphgaadoor", sum := "42c6cce0f1708165f7caa85dd1bf9364cd17658404d6f9b7f5b033934bfc61ce", func := "plimsoll/plimsolllaw02.LabelOrders", spec := "labelOrders", inPlace := ["internal/reflectlite.ValueOf", "(internal/reflectlite.Value).Type", "(internal/reflectlite.Value).IsNil", "internal/reflectlite.TypeOf", "(internal/reflectlite.Value).Elem", "(internal/reflectlite.Value).Set"], unfollowed := true, recurses := true, named := ["errors.errorType"], apart := false, laid := [("errors.errorType", laid_errors_errorType)], narrowed := true }
def LabelOrdersUptoSaid : Prop := labelOrdersUptoRow.holds Tryd.pinned (OpenSpec.upto labelOrdersSpec)

/-- 'plimsolllaw02.LabelLeast', WHERE WHAT IT READS IS OF BULK AT MOST 1048576: true; the input reads as it did. -/
def labelLeastUptoRow : OpenClaim := { program := "ytapgeagmdiphgaadoor", sum := "42c6cce0f1708165f7caa85dd1bf9364cd17658404d6f9b7f5b033934bfc61ce", func := "plimsoll/plimsolllaw02.LabelLeast", spec := "labelLeast", inPlace := ["internal/reflectlite.ValueOf", "(internal/reflectlite.Value).Type", "(internal/reflectlite.Value).IsNil", "internal/reflectlite.TypeOf", "(internal/reflectlite.Value).Elem", "(internal/reflectlite.Value).Set"], unfollowed := true, recurses := true, named := ["errors.errorType"], apart := false, laid := [("errors.errorType", laid_errors_errorType)], narrowed := true }
def LabelLeastUptoSaid : Prop := labelLeastUptoRow.holds Tryd.pinned (OpenSpec.upto labelLeastSpec)

/-- 'plimsolllaw02.LabelTotal', WHERE WHAT IT READS IS OF BULK AT MOST 1048576: true; the input reads as it did. -/
def labelTotalUptoRow : OpenClaim := { program := "ytapgeagmdiphgaadoor", sum := "42c6cce0f1708165f7caa85dd1bf9364cd17658404d6f9b7f5b033934bfc61ce", func := "plimsoll/plimsolllaw02.LabelTotal", spec := "labelTotal", inPlace := ["internal/reflectlite.ValueOf", "(internal/reflectlite.Value).Type", "(internal/reflectlite.Value).IsNil", "internal/reflectlite.TypeOf", "(internal/reflectlite.Value).Elem", "(internal/reflectlite.Value).Set"], unfollowed := true, recurses := true, named := ["errors.errorType"], apart := false, laid := [("errors.errorType", laid_errors_errorType)], narrowed := true }
def LabelTotalUptoSaid : Prop := labelTotalUptoRow.holds Tryd.pinned (OpenSpec.upto labelTotalSpec)

/-- 'plimsolllaw02.LabelKnows', WHERE WHAT IT READS IS OF BULK AT MOST 1048576: true; the input reads as it did. -/
def labelKnowsUptoRow : OpenClaim := { program := "ytapgeagmdiphgaadoor", sum := "42c6cce0f1708165f7caa85dd1bf9364cd17658404d6f9b7f5b033934bfc61ce", func := "plimsoll/plimsolllaw02.LabelKnows", spec := "labelKnows", inPlace := ["internal/reflectlite.ValueOf", "(internal/reflectlite.Value).Type", "(internal/reflectlite.Value).IsNil", "internal/reflectlite.TypeOf", "(internal/reflectlite.Value).Elem", "(internal/reflectlite.Value).Set"], unfollowed := true, recurses := true, named := ["errors.errorType"], apart := false, laid := [("errors.errorType", laid_errors_errorType)], narrowed := true }
def LabelKnowsUptoSaid : Prop := labelKnowsUptoRow.holds Tryd.pinned (OpenSpec.upto labelKnowsSpec)

end Rows
end Go.Proofs.YtapgeagmdiphgaaDoor
