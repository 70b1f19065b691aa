/-
  NARROWER THAN 'FOR EVERY INPUT', by the rows' own cells (each row's printed sentence says how): CeilingRises: laid · CeilingFlows: laid · CeilingSends: laid · CeilingFloats: laid · CeilingGains: laid · CeilingPaths: laid · CeilingTurns: laid · CeilingMany: laid.
  DERIVED. THE GIVEN ROWS OF THIS SEAT. 8 by the template 'for every input the law returns true; each argument reads behind the call as it read before'; 0 by the template 'total and deterministic' (their statements: YtmbafllkiofhnaaDoorTotals.lean).
  GIVEN WITH THE SEED: the statements are not yours to turn. If you find one false, say at which input.
  Laid BY PROGRAM, IN A SANDBOX (cutbox-rows.mjs): the forced cells as the released guide's own fill.sh prints them over the translation 5cd6b87368d5988d… (all of the seat's roots in one cut). By AI agents, Wed Nov 11 2026. No macro, syntax, notation, axiom, sorry.
-/
import Derived.Test.YtmbafllkiofhnaaDoorChecked
import GoSem.Claim
import GoSem.ClaimJoined
import GoSem.ClaimMapViews
import Derived.JoinedTies
import Derived.KernelRfl
namespace Go.Proofs.YtmbafllkiofhnaaDoor
/- THE CELL 'sum', in the pinned program and in every row, IS THE sha256 OF THE DUMP (.gsa) THAT YtmbafllkiofhnaaDoorProg.lean LOADS. Nothing in Lean hashes anything: it is a label: what it is worth is what the hold of that sum in a sandbox is worth. -/
noncomputable def Tryd.pinned : Pinned := { name := "ytmbafllkiofhnaadoor", sum := "5cd6b87368d5988de5f6a245a853a1cac169758790d07a1528c440a20de52d41", checked := Tryd.checked }
namespace Rows
def none {H : Type} : Left H := { results := [], args := [] }

/- WHAT THE LISTED PACKAGE-LEVEL VARIABLES READ AS WHEN THE CALL BEGINS. Each datum BY PROGRAM (the guide's laid-datum.mjs) off the statement by which the dump's own 'gosem.cut.vars' lays the variable. In a bare row this is a premise. The card (YtmbafllkiofhnaaDoorCards.lean) ties it to the program's text. -/
def laid_errors_errorType {H : Type} : DataW H := .iface "internal/reflectlite.rtype" (.agg [.ptr (.lit (.string [101, 114, 114, 111, 114]))])
def laid_plimsoll_ceiling_errCeiling {H : Type} : DataW H := .iface "*errors.errorString" (.ptr (.agg [.lit (.string [116, 111, 111, 32, 104, 105, 103, 104])]))

/-- 'plimsolllaw12.CeilingRises': WHATEVER THE INPUT: true; the input reads as it did. -/
def ceilingRisesSpec : ChangeSpec := { name := "ceilingRises", fn := fun _ => fun
  | [d1, d2, d3] => { results := [.lit (.bool true)], args := [d1, d2, d3] }
  | _ => none }
def ceilingRisesRow : OpenClaim := { program := "ytmbafllkiofhnaadoor", sum := "5cd6b87368d5988de5f6a245a853a1cac169758790d07a1528c440a20de52d41", func := "plimsoll/plimsolllaw12.CeilingRises", spec := "ceilingRises", inPlace := ["internal/reflectlite.ValueOf", "(internal/reflectlite.Value).Type", "(internal/reflectlite.Value).IsNil", "internal/reflectlite.TypeOf", "(internal/reflectlite.Value).Elem", "(internal/reflectlite.Value).Set"], unfollowed := true, recurses := true, named := ["plimsoll/ceiling.errCeiling", "errors.errorType"], apart := false, laid := [("errors.errorType", laid_errors_errorType), ("plimsoll/ceiling.errCeiling", laid_plimsoll_ceiling_errCeiling)] }
def CeilingRisesSaid : Prop := ceilingRisesRow.holds Tryd.pinned (OpenSpec.ofChange ceilingRisesSpec)

/-- ITS FALSE NEIGHBOUR: 'it returns false'. Refute it at one input. -/
def ceilingRisesWrong : ChangeSpec := { name := "ceilingRises", fn := fun _ => fun
  | [d1, d2, d3] => { results := [.lit (.bool false)], args := [d1, d2, d3] }
  | _ => none }
def CeilingRisesWrongFalsely : Prop := ceilingRisesRow.holds Tryd.pinned (OpenSpec.ofChange ceilingRisesWrong)

/-- 'plimsolllaw12.CeilingFlows': WHATEVER THE INPUT: true; the input reads as it did. -/
def ceilingFlowsSpec : ChangeSpec := { name := "ceilingFlows", fn := fun _ => fun
  | [d1, d2] => { results := [.lit (.bool true)], args := [d1, d2] }
  | _ => none }
def ceilingFlowsRow : OpenClaim := { program := "ytmbafllkiofhnaadoor", sum := "5cd6b87368d5988de5f6a245a853a1cac169758790d07a1528c440a20de52d41", func := "plimsoll/plimsolllaw12.CeilingFlows", spec := "ceilingFlows", inPlace := ["internal/reflectlite.ValueOf", "(internal/reflectlite.Value).Type", "(internal/reflectlite.Value).IsNil", "internal/reflectlite.TypeOf", "(internal/reflectlite.Value).Elem", "(internal/reflectlite.Value).Set"], unfollowed := true, recurses := true, named := ["plimsoll/ceiling.errCeiling", "errors.errorType"], apart := false, laid := [("errors.errorType", laid_errors_errorType), ("plimsoll/ceiling.errCeiling", laid_plimsoll_ceiling_errCeiling)] }
def CeilingFlowsSaid : Prop := ceilingFlowsRow.holds Tryd.pinned (OpenSpec.ofChange ceilingFlowsSpec)

/-- ITS FALSE NEIGHBOUR: 'it returns false'. Refute it at one input. -/
def ceilingFlowsWrong : ChangeSpec := { name := "ceilingFlows", fn := fun _ => fun
  | [d1, d2] => { results := [.lit (.bool false)], args := [d1, d2] }
  | _ => none }
def CeilingFlowsWrongFalsely : Prop := ceilingFlowsRow.holds Tryd.pinned (OpenSpec.ofChange ceilingFlowsWrong)

/-- 'plimsolllaw12.CeilingSends': WHATEVER THE INPUT: true; the input reads as it did. -/
def ceilingSendsSpec : ChangeSpec := { name := "ceilingSends", fn := fun _ => fun
  | [d1, d2, d3] => { results := [.lit (.bool true)], args := [d1, d2, d3] }
  | _ => none }
def ceilingSendsRow : OpenClaim := { program := "ytmbafllkiofhnaadoor", sum := "5cd6b87368d5988de5f6a245a853a1cac169758790d07a1528c440a20de52d41", func := "plimsoll/plimsolllaw12.CeilingSends", spec := "ceilingSends", inPlace := ["internal/reflectlite.ValueOf", "(internal/reflectlite.Value).Type", "(internal/reflectlite.Value).IsNil", "internal/reflectlite.TypeOf", "(internal/reflectlite.Value).Elem", "(internal/reflectlite.Value).Set"], unfollowed := true, recurses := true, named := ["plimsoll/ceiling.errCeiling", "errors.errorType"], apart := false, laid := [("errors.errorType", laid_errors_errorType), ("plimsoll/ceiling.errCeiling", laid_plimsoll_ceiling_errCeiling)] }
def CeilingSendsSaid : Prop := ceilingSendsRow.holds Tryd.pinned (OpenSpec.ofChange ceilingSendsSpec)

/-- ITS FALSE NEIGHBOUR: 'it returns false'. Refute it at one input. -/
def ceilingSendsWrong : ChangeSpec := { name := "ceilingSends", fn := fun _ => fun
  | [d1, d2, d3] => { results := [.lit (.bool false)], args := [d1, d2, d3] }
  | _ => none }
def CeilingSendsWrongFalsely : Prop := ceilingSendsRow.holds Tryd.pinned (OpenSpec.ofChange ceilingSendsWrong)

/-- 'plimsolllaw12.CeilingFloats': WHATEVER THE INPUT: true; the input reads as it did. -/
def ceilingFloatsSpec : ChangeSpec := { name := "ceilingFloats", fn := fun _ => fun
  | [d1, d2, d3] => { results := [.lit (.bool true)], args := [d1, d2, d3] }
  | _ => none }
def ceilingFloatsRow : OpenClaim := { program := "ytmbafllkiofhnaadoor", sum := "5cd6b87368d5988de5f6a245a853a1cac169758790d07a1528c440a20de52d41", func := "plimsoll/plimsolllaw12.CeilingFloats", spec := "ceilingFloats", inPlace := ["internal/reflectlite.ValueOf", "(internal/reflectlite.Value).Type", "(internal/reflectlite.Value).IsNil", "internal/reflectlite.TypeOf", "(internal/reflectlite.Value).Elem", "(internal/reflectlite.Value).Set"], unfollowed := true, recurses := true, named := ["plimsoll/ceiling.errCeiling", "errors.errorType"], apart := false, laid := [("errors.errorType", laid_errors_errorType), ("plimsoll/ceiling.errCeiling", laid_plimsoll_ceiling_errCeiling)] }
def CeilingFloatsSaid : Prop := ceilingFloatsRow.holds Tryd.pinned (OpenSpec.ofChange ceilingFloatsSpec)

/-- ITS FALSE NEIGHBOUR: 'it returns false'. Refute it at one input. -/
def ceilingFloatsWrong : ChangeSpec := { name := "ceilingFloats", fn := fun _ => fun
  | [d1, d2, d3] => { results := [.lit (.bool false)], args := [d1, d2, d3] }
  | _ => none }
def CeilingFloatsWrongFalsely : Prop := ceilingFloatsRow.holds Tryd.pinned (OpenSpec.ofChange ceilingFloatsWrong)

/-- 'plimsolllaw12.CeilingGains': WHATEVER THE INPUT: true; the input reads as it did. -/
def ceilingGainsSpec : ChangeSpec := { name := "ceilingGains", fn := fun _ => fun
  | [d1, d2, d3] => { results := [.lit (.bool true)], args := [d1, d2, d3] }
  | _ => none }
def ceilingGainsRow : OpenClaim := { program := "ytmbafllkiofhnaadoor", sum := "5cd6b87368d5988de5f6a245a853a1cac169758790d07a1528c440a20de52d41", func := "plimsoll/plimsolllaw12.CeilingGains", spec := "ceilingGains", inPlace := ["internal/reflectlite.ValueOf", "(internal/reflectlite.Value).Type", "(internal/reflectlite.Value).IsNil", "internal/reflectlite.TypeOf", "(internal/reflectlite.Value).Elem", "(internal/reflectlite.Value).Set"], unfollowed := true, recurses := true, named := ["plimsoll/ceiling.errCeiling", "errors.errorType"], apart := false, laid := [("errors.errorType", laid_errors_errorType), ("plimsoll/ceiling.errCeiling", laid_plimsoll_ceiling_errCeiling)] }
def CeilingGainsSaid : Prop := ceilingGainsRow.holds Tryd.pinned (OpenSpec.ofChange ceilingGainsSpec)

/-- ITS FALSE NEIGHBOUR: 'it returns false'. Refute it at one input. -/
def ceilingGainsWrong : ChangeSpec := { name := "ceilingGains", fn := fun _ => fun
  | [d1, d2, d3] => { results := [.lit (.bool false)], args := [d1, d2, d3] }
  | _ => none }
def CeilingGainsWrongFalsely : Prop := ceilingGainsRow.holds Tryd.pinned (OpenSpec.ofChange ceilingGainsWrong)

/-- 'plimsolllaw12.CeilingPaths': WHATEVER THE INPUT: true; the input reads as it did. -/
def ceilingPathsSpec : ChangeSpec := { name := "ceilingPaths", fn := fun _ => fun
  | [d1, d2, d3] => { results := [.lit (.bool true)], args := [d1, d2, d3] }
  | _ => none }
def ceilingPathsRow : OpenClaim := { program := "ytmbafllkiofhnaadoor", sum := "5cd6b87368d5988de5f6a245a853a1cac169758790d07a1528c440a20de52d41", func := "plimsoll/plimsolllaw12.CeilingPaths", spec := "ceilingPaths", inPlace := ["internal/reflectlite.ValueOf", "(internal/reflectlite.Value).Type", "(internal/reflectlite.Value).IsNil", "internal/reflectlite.TypeOf", "(internal/reflectlite.Value).Elem", "(internal/reflectlite.Value).Set"], unfollowed := true, recurses := true, named := ["plimsoll/ceiling.errCeiling", "errors.errorType"], apart := false, laid := [("errors.errorType", laid_errors_errorType), ("plimsoll/ceiling.errCeiling", laid_plimsoll_ceiling_errCeiling)] }
def CeilingPathsSaid : Prop := ceilingPathsRow.holds Tryd.pinned (OpenSpec.ofChange ceilingPathsSpec)

/-- ITS FALSE NEIGHBOUR: 'it returns false'. Refute it at one input. -/
def ceilingPathsWrong : ChangeSpec := { name := "ceilingPaths", fn := fun _ => fun
  | [d1, d2, d3] => { results := [.lit (.bool false)], args := [d1, d2, d3] }
  | _ => none }
def CeilingPathsWrongFalsely : Prop := ceilingPathsRow.holds Tryd.pinned (OpenSpec.ofChange ceilingPathsWrong)

/-- 'plimsolllaw12.CeilingTurns': WHATEVER THE INPUT: true; the input reads as it did. -/
def ceilingTurnsSpec : ChangeSpec := { name := "ceilingTurns", fn := fun _ => fun
  | [d1, d2, d3, d4] => { results := [.lit (.bool true)], args := [d1, d2, d3, d4] }
  | _ => none }
def ceilingTurnsRow : OpenClaim := { program := "ytmbafllkiofhnaadoor", sum := "5cd6b87368d5988de5f6a245a853a1cac169758790d07a1528c440a20de52d41", func := "plimsoll/plimsolllaw12.CeilingTurns", spec := "ceilingTurns", inPlace := ["internal/reflectlite.ValueOf", "(internal/reflectlite.Value).Type", "(internal/reflectlite.Value).IsNil", "internal/reflectlite.TypeOf", "(internal/reflectlite.Value).Elem", "(internal/reflectlite.Value).Set"], unfollowed := true, recurses := true, named := ["plimsoll/ceiling.errCeiling", "errors.errorType"], apart := false, laid := [("errors.errorType", laid_errors_errorType), ("plimsoll/ceiling.errCeiling", laid_plimsoll_ceiling_errCeiling)] }
def CeilingTurnsSaid : Prop := ceilingTurnsRow.holds Tryd.pinned (OpenSpec.ofChange ceilingTurnsSpec)

/-- ITS FALSE NEIGHBOUR: 'it returns false'. Refute it at one input. -/
def ceilingTurnsWrong : ChangeSpec := { name := "ceilingTurns", fn := fun _ => fun
  | [d1, d2, d3, d4] => { results := [.lit (.bool false)], args := [d1, d2, d3, d4] }
  | _ => none }
def CeilingTurnsWrongFalsely : Prop := ceilingTurnsRow.holds Tryd.pinned (OpenSpec.ofChange ceilingTurnsWrong)

/-- 'plimsolllaw12.CeilingMany': WHATEVER THE INPUT: true; the input reads as it did. -/
def ceilingManySpec : ChangeSpec := { name := "ceilingMany", fn := fun _ => fun
  | [d1, d2, d3] => { results := [.lit (.bool true)], args := [d1, d2, d3] }
  | _ => none }
def ceilingManyRow : OpenClaim := { program := "ytmbafllkiofhnaadoor", sum := "5cd6b87368d5988de5f6a245a853a1cac169758790d07a1528c440a20de52d41", func := "plimsoll/plimsolllaw12.CeilingMany", spec := "ceilingMany", inPlace := ["internal/reflectlite.ValueOf", "(internal/reflectlite.Value).Type", "(internal/reflectlite.Value).IsNil", "internal/reflectlite.TypeOf", "(internal/reflectlite.Value).Elem", "(internal/reflectlite.Value).Set"], unfollowed := true, recurses := true, named := ["plimsoll/ceiling.errCeiling", "errors.errorType"], apart := false, laid := [("errors.errorType", laid_errors_errorType), ("plimsoll/ceiling.errCeiling", laid_plimsoll_ceiling_errCeiling)] }
def CeilingManySaid : Prop := ceilingManyRow.holds Tryd.pinned (OpenSpec.ofChange ceilingManySpec)

/-- ITS FALSE NEIGHBOUR: 'it returns false'. Refute it at one input. -/
def ceilingManyWrong : ChangeSpec := { name := "ceilingMany", fn := fun _ => fun
  | [d1, d2, d3] => { results := [.lit (.bool false)], args := [d1, d2, d3] }
  | _ => none }
def CeilingManyWrongFalsely : Prop := ceilingManyRow.holds Tryd.pinned (OpenSpec.ofChange ceilingManyWrong)

/- THE SECOND FORM. 'bulk': how many values and letters a reading holds, each counted each time it is reached (what is shared counts as often as it is met; a slice's spare places count too). A statement '..UptoSaid' is the law's where the arguments, and the package variables that the reading takes, are together of bulk at most 1048576: NARROWER than '..Said'. Prove '..Said' where nothing that the law and all that it calls make is longer than what came in: it says more and counts as full. Else prove '..UptoSaid'. A law counts once. -/
mutual
def uptoBulk {H : Type} : DataW H → Nat
  | .lit (.string bytes) => bytes.length + 1
  | .lit _ => 1
  | .nil => 1
  | .ptr d => uptoBulk d + 1
  | .slice elems spare => uptoBulkAll elems + uptoBulkAll spare + 1
  | .agg parts => uptoBulkAll parts + 1
  | .iface _ d => uptoBulk d + 1
  | .map entries => uptoBulkEntries entries + 1
  | .held _ => 1
def uptoBulkAll {H : Type} : List (DataW H) → Nat
  | [] => 0
  | d :: r => uptoBulk d + uptoBulkAll r
def uptoBulkEntries {H : Type} : List (Lit × DataW H) → Nat
  | [] => 0
  | x :: r => uptoBulkEntry x + uptoBulkEntries r
def uptoBulkEntry {H : Type} : Lit × DataW H → Nat
  | (.string bytes, d) => bytes.length + uptoBulk d + 1
  | (_, d) => uptoBulk d + 1
 end
def uptoSmall : (H : Type) → List (DataW H) → Bool := fun _ ds => decide (uptoBulkAll ds ≤ 1048576)
def OpenSpec.upto (s : _root_.Go.ChangeSpec) : _root_.Go.OpenSpec := { _root_.Go.OpenSpec.ofChange s with cond := some uptoSmall }

/-- 'plimsolllaw12.CeilingRises', WHERE WHAT IT READS IS OF BULK AT MOST 1048576: true; the input reads as it did. -/
def ceilingRisesUptoRow : OpenClaim := { program := "ytmbafllkiofhnaadoor", sum := "5cd6b87368d5988de5f6a245a853a1cac169758790d07a1528c440a20de52d41", func := "plimsoll/plimsolllaw12.CeilingRises", spec := "ceilingRises", inPlace := ["internal/reflectlite.ValueOf", "(internal/reflectlite.Value).Type", "(internal/reflectlite.Value).IsNil", "internal/reflectlite.TypeOf", "(internal/reflectlite.Value).Elem", "(internal/reflectlite.Value).Set"], unfollowed := true, recurses := true, named := ["plimsoll/ceiling.errCeiling", "errors.errorType"], apart := false, laid := [("errors.errorType", laid_errors_errorType), ("plimsoll/ceiling.errCeiling", laid_plimsoll_ceiling_errCeiling)], narrowed := true }
def CeilingRisesUptoSaid : Prop := ceilingRisesUptoRow.holds Tryd.pinned (OpenSpec.upto ceilingRisesSpec)

/-- 'plimsolllaw12.CeilingFlows', WHERE WHAT IT READS IS OF BULK AT MOST 1048576: true; the input reads as it did. -/
def ceilingFlowsUptoRow : OpenClaim := { program := "ytmbafllkiofhnaadoor", sum := "5cd6b87368d5988de5f6a245a853a1cac169758790d07a1528c440a20de52d41", func := "plimsoll/plimsolllaw12.CeilingFlows", spec := "ceilingFlows", inPlace := ["internal/reflectlite.ValueOf", "(internal/reflectlite.Value).Type", "(internal/reflectlite.Value).IsNil", "internal/reflectlite.TypeOf", "(internal/reflectlite.Value).Elem", "(internal/reflectlite.Value).Set"], unfollowed := true, recurses := true, named := ["plimsoll/ceiling.errCeiling", "errors.errorType"], apart := false, laid := [("errors.errorType", laid_errors_errorType), ("plimsoll/ceiling.errCeiling", laid_plimsoll_ceiling_errCeiling)], narrowed := true }
def CeilingFlowsUptoSaid : Prop := ceilingFlowsUptoRow.holds Tryd.pinned (OpenSpec.upto ceilingFlowsSpec)

/-- 'plimsolllaw12.CeilingSends', WHERE WHAT IT READS IS OF BULK AT MOST 1048576: true; the input reads as it did. -/
def ceilingSendsUptoRow : OpenClaim := { program := "ytmbafllkiofhnaadoor", sum := "5cd6b87368d5988de5f6a245a853a1cac169758790d07a1528c440a20de52d41", func := "plimsoll/plimsolllaw12.CeilingSends", spec := "ceilingSends", inPlace := ["internal/reflectlite.ValueOf", "(internal/reflectlite.Value).Type", "(internal/reflectlite.Value).IsNil", "internal/reflectlite.TypeOf", "(internal/reflectlite.Value).Elem", "(internal/reflectlite.Value).Set"], unfollowed := true, recurses := true, named := ["plimsoll/ceiling.errCeiling", "errors.errorType"], apart := false, laid := [("errors.errorType", laid_errors_errorType), ("plimsoll/ceiling.errCeiling", laid_plimsoll_ceiling_errCeiling)], narrowed := true }
def CeilingSendsUptoSaid : Prop := ceilingSendsUptoRow.holds Tryd.pinned (OpenSpec.upto ceilingSendsSpec)

/-- 'plimsolllaw12.CeilingFloats', WHERE WHAT IT READS IS OF BULK AT MOST 1048576: true; the input reads as it did. -/
def ceilingFloatsUptoRow : OpenClaim := { program := "ytmbafllkiofhnaadoor", sum := "5cd6b87368d5988de5f6a245a853a1cac169758790d07a1528c440a20de52d41", func := "plimsoll/plimsolllaw12.CeilingFloats", spec := "ceilingFloats", inPlace := ["internal/reflectlite.ValueOf", "(internal/reflectlite.Value).Type", "(internal/reflectlite.Value).IsNil", "internal/reflectlite.TypeOf", "(internal/reflectlite.Value).Elem", "(internal/reflectlite.Value).Set"], unfollowed := true, recurses := true, named := ["plimsoll/ceiling.errCeiling", "errors.errorType"], apart := false, laid := [("errors.errorType", laid_errors_errorType), ("plimsoll/ceiling.errCeiling", laid_plimsoll_ceiling_errCeiling)], narrowed := true }
def CeilingFloatsUptoSaid : Prop := ceilingFloatsUptoRow.holds Tryd.pinned (OpenSpec.upto ceilingFloatsSpec)

/-- 'plimsolllaw12.CeilingGains', WHERE WHAT IT READS IS OF BULK AT MOST 1048576: true; the input reads as it did. -/
def ceilingGainsUptoRow : OpenClaim := { program := "ytmbafllkiofhnaadoor", sum := "5cd6b87368d5988de5f6a245a853a1cac169758790d07a1528c440a20de52d41", func := "plimsoll/plimsolllaw12.CeilingGains", spec := "ceilingGains", inPlace := ["internal/reflectlite.ValueOf", "(internal/reflectlite.Value).Type", "(internal/reflectlite.Value).IsNil", "internal/reflectlite.TypeOf", "(internal/reflectlite.Value).Elem", "(internal/reflectlite.Value).Set"], unfollowed := true, recurses := true, named := ["plimsoll/ceiling.errCeiling", "errors.errorType"], apart := false, laid := [("errors.errorType", laid_errors_errorType), ("plimsoll/ceiling.errCeiling", laid_plimsoll_ceiling_errCeiling)], narrowed := true }
def CeilingGainsUptoSaid : Prop := ceilingGainsUptoRow.holds Tryd.pinned (OpenSpec.upto ceilingGainsSpec)

/-- 'plimsolllaw12.CeilingPaths', WHERE WHAT IT READS IS OF BULK AT MOST 1048576: true; the input reads as it did. -/
def ceilingPathsUptoRow : OpenClaim := { program := "ytmbafllkiofhnaadoor", sum := "5cd6b87368d5988de5f6a245a853a1cac169758790d07a1528c440a20de52d41", func := "plimsoll/plimsolllaw12.CeilingPaths", spec := "ceilingPaths", inPlace := ["internal/reflectlite.ValueOf", "(internal/reflectlite.Value).Type", "(internal/reflectlite.Value).IsNil", "internal/reflectlite.TypeOf", "(internal/reflectlite.Value).Elem", "(internal/reflectlite.Value).Set"], unfollowed := true, recurses := true, named := ["plimsoll/ceiling.errCeiling", "errors.errorType"], apart := false, laid := [("errors.errorType", laid_errors_errorType), ("plimsoll/ceiling.errCeiling", laid_plimsoll_ceiling_errCeiling)], narrowed := true }
def CeilingPathsUptoSaid : Prop := ceilingPathsUptoRow.holds Tryd.pinned (OpenSpec.upto ceilingPathsSpec)

/-- 'plimsolllaw12.CeilingTurns', WHERE WHAT IT READS IS OF BULK AT MOST 1048576: true; the input reads as it did. -/
def ceilingTurnsUptoRow : OpenClaim := { program := "ytmbafllkiofhnaadoor", sum := "5cd6b87368d5988de5f6a245a853a1cac169758790d07a1528c440a20de52d41", func := "plimsoll/plimsolllaw12.CeilingTurns", spec := "ceilingTurns", inPlace := ["internal/reflectlite.ValueOf", "(internal/reflectlite.Value).Type", "(internal/reflectlite.Value).IsNil", "internal/reflectlite.TypeOf", "(internal/reflectlite.Value).Elem", "(internal/reflectlite.Value).Set"], unfollowed := true, recurses := true, named := ["plimsoll/ceiling.errCeiling", "errors.errorType"], apart := false, laid := [("errors.errorType", laid_errors_errorType), ("plimsoll/ceiling.errCeiling", laid_plimsoll_ceiling_errCeiling)], narrowed := true }
def CeilingTurnsUptoSaid : Prop := ceilingTurnsUptoRow.holds Tryd.pinned (OpenSpec.upto ceilingTurnsSpec)

/-- 'plimsolllaw12.CeilingMany', WHERE WHAT IT READS IS OF BULK AT MOST 1048576: true; the input reads as it did. -/
def ceilingManyUptoRow : OpenClaim := { program := "ytmbafllkiofhnaadoor", sum := "5cd6b87368d5988de5f6a245a853a1cac169758790d07a1528c440a20de52d41", func := "plimsoll/plimsolllaw12.CeilingMany", spec := "ceilingMany", inPlace := ["internal/reflectlite.ValueOf", "(internal/reflectlite.Value).Type", "(internal/reflectlite.Value).IsNil", "internal/reflectlite.TypeOf", "(internal/reflectlite.Value).Elem", "(internal/reflectlite.Value).Set"], unfollowed := true, recurses := true, named := ["plimsoll/ceiling.errCeiling", "errors.errorType"], apart := false, laid := [("errors.errorType", laid_errors_errorType), ("plimsoll/ceiling.errCeiling", laid_plimsoll_ceiling_errCeiling)], narrowed := true }
def CeilingManyUptoSaid : Prop := ceilingManyUptoRow.holds Tryd.pinned (OpenSpec.upto ceilingManySpec)

end Rows
end Go.Proofs.YtmbafllkiofhnaaDoor
