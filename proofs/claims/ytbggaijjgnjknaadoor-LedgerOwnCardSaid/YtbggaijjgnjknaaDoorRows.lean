/-
  NARROWER THAN 'FOR EVERY INPUT', by the rows' own cells (each row's printed sentence says how): LedgerBooks: laid · LedgerBack: laid · LedgerTurns: laid · LedgerRefunds: laid · LedgerOwn: laid · LedgerTells: laid · LedgerApart: laid · LedgerSums: laid.
  DERIVED. THE GIVEN ROWS OF THIS SEAT. 8 by the template 'for every input the law returns true; each argument reads behind the call as it read before'; 0 by the template 'total and deterministic' (their statements: YtbggaijjgnjknaaDoorTotals.lean).
  GIVEN WITH THE SEED: the statements are not yours to turn. If you find one false, say at which input.
  Laid BY PROGRAM, IN A SANDBOX (cutbox-rows.mjs): the forced cells as the released guide's own fill.sh prints them over the translation cfae7213016e4f54… (all of the seat's roots in one cut). By AI agents, Wed Nov 11 2026. No macro, syntax, notation, axiom, sorry.
-/
import Derived.Test.YtbggaijjgnjknaaDoorChecked
import GoSem.Claim
import GoSem.ClaimJoined
import GoSem.ClaimMapViews
import Derived.JoinedTies
import Derived.KernelRfl
namespace Go.Proofs.YtbggaijjgnjknaaDoor
/- THE CELL 'sum', in the pinned program and in every row, IS THE sha256 OF THE DUMP (.gsa) THAT YtbggaijjgnjknaaDoorProg.lean LOADS. Nothing in Lean hashes anything: it is a label: what it is worth is what the hold of that sum in a sandbox is worth. -/
noncomputable def Tryd.pinned : Pinned := { name := "ytbggaijjgnjknaadoor", sum := "cfae7213016e4f547ec7cc9708ff8f45c5ef6f818e45dc62e013e1c70ad9a1b6", checked := Tryd.checked }
namespace Rows
def none {H : Type} : Left H := { results := [], args := [] }

/- WHAT THE LISTED PACKAGE-LEVEL VARIABLES READ AS WHEN THE CALL BEGINS. Each datum BY PROGRAM (the guide's laid-datum.mjs) off the statement by which the dump's own 'gosem.cut.vars' lays the variable. In a bare row this is a premise. The card (YtbggaijjgnjknaaDoorCards.lean) ties it to the program's text. -/
def laid_errors_errorType {H : Type} : DataW H := .iface "internal/reflectlite.rtype" (.agg [.ptr (.lit (.string [101, 114, 114, 111, 114]))])

/-- 'plimsolllaw07.LedgerBooks': WHATEVER THE INPUT: true; the input reads as it did. -/
def ledgerBooksSpec : ChangeSpec := { name := "ledgerBooks", fn := fun _ => fun
  | [d1, d2, d3, d4] => { results := [.lit (.bool true)], args := [d1, d2, d3, d4] }
  | _ => none }
def ledgerBooksRow : OpenClaim := { program := "ytbggaijjgnjknaadoor", sum := "cfae7213016e4f547ec7cc9708ff8f45c5ef6f818e45dc62e013e1c70ad9a1b6", func := "plimsoll/plimsolllaw07.LedgerBooks", spec := "ledgerBooks", inPlace := ["slices.overlaps[plimsoll/api.Line]", "internal/reflectlite.ValueOf", "(internal/reflectlite.Value).Type", "(internal/reflectlite.Value).IsNil", "internal/reflectlite.TypeOf", "(internal/reflectlite.Value).Elem", "(internal/reflectlite.Value).Set"], unfollowed := true, recurses := true, named := ["errors.errorType"], apart := false, laid := [("errors.errorType", laid_errors_errorType)] }
def LedgerBooksSaid : Prop := ledgerBooksRow.holds Tryd.pinned (OpenSpec.ofChange ledgerBooksSpec)

/-- ITS FALSE NEIGHBOUR: 'it returns false'. Refute it at one input. -/
def ledgerBooksWrong : ChangeSpec := { name := "ledgerBooks", fn := fun _ => fun
  | [d1, d2, d3, d4] => { results := [.lit (.bool false)], args := [d1, d2, d3, d4] }
  | _ => none }
def LedgerBooksWrongFalsely : Prop := ledgerBooksRow.holds Tryd.pinned (OpenSpec.ofChange ledgerBooksWrong)

/-- 'plimsolllaw07.LedgerBack': WHATEVER THE INPUT: true; the input reads as it did. -/
def ledgerBackSpec : ChangeSpec := { name := "ledgerBack", fn := fun _ => fun
  | [d1, d2, d3, d4] => { results := [.lit (.bool true)], args := [d1, d2, d3, d4] }
  | _ => none }
def ledgerBackRow : OpenClaim := { program := "ytbggaijjgnjknaadoor", sum := "cfae7213016e4f547ec7cc9708ff8f45c5ef6f818e45dc62e013e1c70ad9a1b6", func := "plimsoll/plimsolllaw07.LedgerBack", spec := "ledgerBack", inPlace := ["slices.overlaps[plimsoll/api.Line]", "internal/reflectlite.ValueOf", "(internal/reflectlite.Value).Type", "(internal/reflectlite.Value).IsNil", "internal/reflectlite.TypeOf", "(internal/reflectlite.Value).Elem", "(internal/reflectlite.Value).Set"], unfollowed := true, recurses := true, named := ["errors.errorType"], apart := false, laid := [("errors.errorType", laid_errors_errorType)] }
def LedgerBackSaid : Prop := ledgerBackRow.holds Tryd.pinned (OpenSpec.ofChange ledgerBackSpec)

/-- ITS FALSE NEIGHBOUR: 'it returns false'. Refute it at one input. -/
def ledgerBackWrong : ChangeSpec := { name := "ledgerBack", fn := fun _ => fun
  | [d1, d2, d3, d4] => { results := [.lit (.bool false)], args := [d1, d2, d3, d4] }
  | _ => none }
def LedgerBackWrongFalsely : Prop := ledgerBackRow.holds Tryd.pinned (OpenSpec.ofChange ledgerBackWrong)

/-- 'plimsolllaw07.LedgerTurns': WHATEVER THE INPUT: true; the input reads as it did. -/
def ledgerTurnsSpec : ChangeSpec := { name := "ledgerTurns", fn := fun _ => fun
  | [d1, d2, d3, d4, d5, d6] => { results := [.lit (.bool true)], args := [d1, d2, d3, d4, d5, d6] }
  | _ => none }
def ledgerTurnsRow : OpenClaim := { program := "ytbggaijjgnjknaadoor", sum := "cfae7213016e4f547ec7cc9708ff8f45c5ef6f818e45dc62e013e1c70ad9a1b6", func := "plimsoll/plimsolllaw07.LedgerTurns", spec := "ledgerTurns", inPlace := ["slices.overlaps[plimsoll/api.Line]", "internal/reflectlite.ValueOf", "(internal/reflectlite.Value).Type", "(internal/reflectlite.Value).IsNil", "internal/reflectlite.TypeOf", "(internal/reflectlite.Value).Elem", "(internal/reflectlite.Value).Set"], unfollowed := true, recurses := true, named := ["errors.errorType"], apart := false, laid := [("errors.errorType", laid_errors_errorType)] }
def LedgerTurnsSaid : Prop := ledgerTurnsRow.holds Tryd.pinned (OpenSpec.ofChange ledgerTurnsSpec)

/-- ITS FALSE NEIGHBOUR: 'it returns false'. Refute it at one input. -/
def ledgerTurnsWrong : ChangeSpec := { name := "ledgerTurns", fn := fun _ => fun
  | [d1, d2, d3, d4, d5, d6] => { results := [.lit (.bool false)], args := [d1, d2, d3, d4, d5, d6] }
  | _ => none }
def LedgerTurnsWrongFalsely : Prop := ledgerTurnsRow.holds Tryd.pinned (OpenSpec.ofChange ledgerTurnsWrong)

/-- 'plimsolllaw07.LedgerRefunds': WHATEVER THE INPUT: true; the input reads as it did. -/
def ledgerRefundsSpec : ChangeSpec := { name := "ledgerRefunds", fn := fun _ => fun
  | [d1, d2, d3] => { results := [.lit (.bool true)], args := [d1, d2, d3] }
  | _ => none }
def ledgerRefundsRow : OpenClaim := { program := "ytbggaijjgnjknaadoor", sum := "cfae7213016e4f547ec7cc9708ff8f45c5ef6f818e45dc62e013e1c70ad9a1b6", func := "plimsoll/plimsolllaw07.LedgerRefunds", spec := "ledgerRefunds", inPlace := ["slices.overlaps[plimsoll/api.Line]", "internal/reflectlite.ValueOf", "(internal/reflectlite.Value).Type", "(internal/reflectlite.Value).IsNil", "internal/reflectlite.TypeOf", "(internal/reflectlite.Value).Elem", "(internal/reflectlite.Value).Set"], unfollowed := true, recurses := true, named := ["errors.errorType"], apart := false, laid := [("errors.errorType", laid_errors_errorType)] }
def LedgerRefundsSaid : Prop := ledgerRefundsRow.holds Tryd.pinned (OpenSpec.ofChange ledgerRefundsSpec)

/-- ITS FALSE NEIGHBOUR: 'it returns false'. Refute it at one input. -/
def ledgerRefundsWrong : ChangeSpec := { name := "ledgerRefunds", fn := fun _ => fun
  | [d1, d2, d3] => { results := [.lit (.bool false)], args := [d1, d2, d3] }
  | _ => none }
def LedgerRefundsWrongFalsely : Prop := ledgerRefundsRow.holds Tryd.pinned (OpenSpec.ofChange ledgerRefundsWrong)

/-- 'plimsolllaw07.LedgerOwn': WHATEVER THE INPUT: true; the input reads as it did. -/
def ledgerOwnSpec : ChangeSpec := { name := "ledgerOwn", fn := fun _ => fun
  | [d1, d2, d3, d4] => { results := [.lit (.bool true)], args := [d1, d2, d3, d4] }
  | _ => none }
def ledgerOwnRow : OpenClaim := { program := "ytbggaijjgnjknaadoor", sum := "cfae7213016e4f547ec7cc9708ff8f45c5ef6f818e45dc62e013e1c70ad9a1b6", func := "plimsoll/plimsolllaw07.LedgerOwn", spec := "ledgerOwn", inPlace := ["slices.overlaps[plimsoll/api.Line]", "internal/reflectlite.ValueOf", "(internal/reflectlite.Value).Type", "(internal/reflectlite.Value).IsNil", "internal/reflectlite.TypeOf", "(internal/reflectlite.Value).Elem", "(internal/reflectlite.Value).Set"], unfollowed := true, recurses := true, named := ["errors.errorType"], apart := false, laid := [("errors.errorType", laid_errors_errorType)] }
def LedgerOwnSaid : Prop := ledgerOwnRow.holds Tryd.pinned (OpenSpec.ofChange ledgerOwnSpec)

/-- ITS FALSE NEIGHBOUR: 'it returns false'. Refute it at one input. -/
def ledgerOwnWrong : ChangeSpec := { name := "ledgerOwn", fn := fun _ => fun
  | [d1, d2, d3, d4] => { results := [.lit (.bool false)], args := [d1, d2, d3, d4] }
  | _ => none }
def LedgerOwnWrongFalsely : Prop := ledgerOwnRow.holds Tryd.pinned (OpenSpec.ofChange ledgerOwnWrong)

/-- 'plimsolllaw07.LedgerTells': WHATEVER THE INPUT: true; the input reads as it did. -/
def ledgerTellsSpec : ChangeSpec := { name := "ledgerTells", fn := fun _ => fun
  | [d1, d2, d3] => { results := [.lit (.bool true)], args := [d1, d2, d3] }
  | _ => none }
def ledgerTellsRow : OpenClaim := { program := "ytbggaijjgnjknaadoor", sum := "cfae7213016e4f547ec7cc9708ff8f45c5ef6f818e45dc62e013e1c70ad9a1b6", func := "plimsoll/plimsolllaw07.LedgerTells", spec := "ledgerTells", inPlace := ["slices.overlaps[plimsoll/api.Line]", "internal/reflectlite.ValueOf", "(internal/reflectlite.Value).Type", "(internal/reflectlite.Value).IsNil", "internal/reflectlite.TypeOf", "(internal/reflectlite.Value).Elem", "(internal/reflectlite.Value).Set"], unfollowed := true, recurses := true, named := ["errors.errorType"], apart := false, laid := [("errors.errorType", laid_errors_errorType)] }
def LedgerTellsSaid : Prop := ledgerTellsRow.holds Tryd.pinned (OpenSpec.ofChange ledgerTellsSpec)

/-- ITS FALSE NEIGHBOUR: 'it returns false'. Refute it at one input. -/
def ledgerTellsWrong : ChangeSpec := { name := "ledgerTells", fn := fun _ => fun
  | [d1, d2, d3] => { results := [.lit (.bool false)], args := [d1, d2, d3] }
  | _ => none }
def LedgerTellsWrongFalsely : Prop := ledgerTellsRow.holds Tryd.pinned (OpenSpec.ofChange ledgerTellsWrong)

/-- 'plimsolllaw07.LedgerApart': WHATEVER THE INPUT: true; the input reads as it did. -/
def ledgerApartSpec : ChangeSpec := { name := "ledgerApart", fn := fun _ => fun
  | [d1, d2, d3, d4, d5, d6] => { results := [.lit (.bool true)], args := [d1, d2, d3, d4, d5, d6] }
  | _ => none }
def ledgerApartRow : OpenClaim := { program := "ytbggaijjgnjknaadoor", sum := "cfae7213016e4f547ec7cc9708ff8f45c5ef6f818e45dc62e013e1c70ad9a1b6", func := "plimsoll/plimsolllaw07.LedgerApart", spec := "ledgerApart", inPlace := ["slices.overlaps[plimsoll/api.Line]", "internal/reflectlite.ValueOf", "(internal/reflectlite.Value).Type", "(internal/reflectlite.Value).IsNil", "internal/reflectlite.TypeOf", "(internal/reflectlite.Value).Elem", "(internal/reflectlite.Value).Set"], unfollowed := true, recurses := true, named := ["errors.errorType"], apart := false, laid := [("errors.errorType", laid_errors_errorType)] }
def LedgerApartSaid : Prop := ledgerApartRow.holds Tryd.pinned (OpenSpec.ofChange ledgerApartSpec)

/-- ITS FALSE NEIGHBOUR: 'it returns false'. Refute it at one input. -/
def ledgerApartWrong : ChangeSpec := { name := "ledgerApart", fn := fun _ => fun
  | [d1, d2, d3, d4, d5, d6] => { results := [.lit (.bool false)], args := [d1, d2, d3, d4, d5, d6] }
  | _ => none }
def LedgerApartWrongFalsely : Prop := ledgerApartRow.holds Tryd.pinned (OpenSpec.ofChange ledgerApartWrong)

/-- 'plimsolllaw07.LedgerSums': WHATEVER THE INPUT: true; the input reads as it did. -/
def ledgerSumsSpec : ChangeSpec := { name := "ledgerSums", fn := fun _ => fun
  | [d1, d2] => { results := [.lit (.bool true)], args := [d1, d2] }
  | _ => none }
def ledgerSumsRow : OpenClaim := { program := "ytbggaijjgnjknaadoor", sum := "cfae7213016e4f547ec7cc9708ff8f45c5ef6f818e45dc62e013e1c70ad9a1b6", func := "plimsoll/plimsolllaw07.LedgerSums", spec := "ledgerSums", inPlace := ["slices.overlaps[plimsoll/api.Line]", "internal/reflectlite.ValueOf", "(internal/reflectlite.Value).Type", "(internal/reflectlite.Value).IsNil", "internal/reflectlite.TypeOf", "(internal/reflectlite.Value).Elem", "(internal/reflectlite.Value).Set"], unfollowed := true, recurses := true, named := ["errors.errorType"], apart := false, laid := [("errors.errorType", laid_errors_errorType)] }
def LedgerSumsSaid : Prop := ledgerSumsRow.holds Tryd.pinned (OpenSpec.ofChange ledgerSumsSpec)

/-- ITS FALSE NEIGHBOUR: 'it returns false'. Refute it at one input. -/
def ledgerSumsWrong : ChangeSpec := { name := "ledgerSums", fn := fun _ => fun
  | [d1, d2] => { results := [.lit (.bool false)], args := [d1, d2] }
  | _ => none }
def LedgerSumsWrongFalsely : Prop := ledgerSumsRow.holds Tryd.pinned (OpenSpec.ofChange ledgerSumsWrong)

/- THE SECOND FORM. 'bulk': how many values and letters a reading holds, each counted each time it is reached (what is shared counts as often as it is met; a slice's spare places count too). A statement '..UptoSaid' is the law's where the arguments, and the package variables that the reading takes, are together of bulk at most 1048576: NARROWER than '..Said'. Prove '..Said' where nothing that the law and all that it calls make is longer than what came in: it says more and counts as full. Else prove '..UptoSaid'. A law counts once. -/
mutual
def uptoBulk {H : Type} : DataW H → Nat
  | .lit (.string bytes) => bytes.length + 1
  | .lit _ => 1
  | .nil => 1
  | .ptr d => uptoBulk d + 1
  | .slice elems spare => uptoBulkAll elems + uptoBulkAll spare + 1
  | .agg parts => uptoBulkAll parts + 1
  | .iface _ d => uptoBulk d + 1
  | .map entries => uptoBulkEntries entries + 1
  | .held _ => 1
def uptoBulkAll {H : Type} : List (DataW H) → Nat
  | [] => 0
  | d :: r => uptoBulk d + uptoBulkAll r
def uptoBulkEntries {H : Type} : List (Lit × DataW H) → Nat
  | [] => 0
  | x :: r => uptoBulkEntry x + uptoBulkEntries r
def uptoBulkEntry {H : Type} : Lit × DataW H → Nat
  | (.string bytes, d) => bytes.length + uptoBulk d + 1
  | (_, d) => uptoBulk d + 1
 end
def uptoSmall : (H : Type) → List (DataW H) → Bool := fun _ ds => decide (uptoBulkAll ds ≤ 1048576)
def OpenSpec.upto (s : _root_.Go.ChangeSpec) : _root_.Go.OpenSpec := { _root_.Go.OpenSpec.ofChange s with cond := some uptoSmall }

/-- 'plimsolllaw07.LedgerBooks', WHERE WHAT IT READS IS OF BULK AT MOST 1048576: true; the input reads as it did. -/
def ledgerBooksUptoRow : OpenClaim := { program := "ytbggaijjgnjknaadoor", sum := "cfae7213016e4f547ec7cc9708ff8f45c5ef6f818e45dc62e013e1c70ad9a1b6", func := "plimsoll/plimsolllaw07.LedgerBooks", spec := "ledgerBooks", inPlace := ["slices.overlaps[plimsoll/api.Line]", "internal/reflectlite.ValueOf", "(internal/reflectlite.Value).Type", "(internal/reflectlite.Value).IsNil", "internal/reflectlite.TypeOf", "(internal/reflectlite.Value).Elem", "(internal/reflectlite.Value).Set"], unfollowed := true, recurses := true, named := ["errors.errorType"], apart := false, laid := [("errors.errorType", laid_errors_errorType)], narrowed := true }
def LedgerBooksUptoSaid : Prop := ledgerBooksUptoRow.holds Tryd.pinned (OpenSpec.upto ledgerBooksSpec)

/-- 'plimsolllaw07.LedgerBack', WHERE WHAT IT READS IS OF BULK AT MOST 1048576: true; the input reads as it did. -/
def ledgerBackUptoRow : OpenClaim := { program := "ytbggaijjgnjknaadoor", sum := "cfae7213016e4f547ec7cc9708ff8f45c5ef6f818e45dc62e013e1c70ad9a1b6", func := "plimsoll/plimsolllaw07.LedgerBack", spec := "ledgerBack", inPlace := ["slices.overlaps[plimsoll/api.Line]", "internal/reflectlite.ValueOf", "(internal/reflectlite.Value).Type", "(internal/reflectlite.Value).IsNil", "internal/reflectlite.TypeOf", "(internal/reflectlite.Value).Elem", "(internal/reflectlite.Value).Set"], unfollowed := true, recurses := true, named := ["errors.errorType"], apart := false, laid := [("errors.errorType", laid_errors_errorType)], narrowed := true }
def LedgerBackUptoSaid : Prop := ledgerBackUptoRow.holds Tryd.pinned (OpenSpec.upto ledgerBackSpec)

/-- 'plimsolllaw07.LedgerTurns', WHERE WHAT IT READS IS OF BULK AT MOST 1048576: true; the input reads as it did. -/
def ledgerTurnsUptoRow : OpenClaim := { program := "ytbggaijjgnjknaadoor", sum := "cfae7213016e4f547ec7cc9708ff8f45c5ef6f818e45dc62e013e1c70ad9a1b6", func := "plimsoll/plimsolllaw07.LedgerTurns", spec := "ledgerTurns", inPlace := ["slices.overlaps[plimsoll/api.Line]", "internal/reflectlite.ValueOf", "(internal/reflectlite.Value).Type", "(internal/reflectlite.Value).IsNil", "internal/reflectlite.TypeOf", "(internal/reflectlite.Value).Elem", "(internal/reflectlite.Value).Set"], unfollowed := true, recurses := true, named := ["errors.errorType"], apart := false, laid := [("errors.errorType", laid_errors_errorType)], narrowed := true }
def LedgerTurnsUptoSaid : Prop := ledgerTurnsUptoRow.holds Tryd.pinned (OpenSpec.upto ledgerTurnsSpec)

/-- 'plimsolllaw07.LedgerRefunds', WHERE WHAT IT READS IS OF BULK AT MOST 1048576: true; the input reads as it did. -/
def ledgerRefundsUptoRow : OpenClaim := { program := "ytbggaijjgnjknaadoor", sum := "cfae7213016e4f547ec7cc9708ff8f45c5ef6f818e45dc62e013e1c70ad9a1b6", func := "plimsoll/plimsolllaw07.LedgerRefunds", spec := "ledgerRefunds", inPlace := ["slices.overlaps[plimsoll/api.Line]", "internal/reflectlite.ValueOf", "(internal/reflectlite.Value).Type", "(internal/reflectlite.Value).IsNil", "internal/reflectlite.TypeOf", "(internal/reflectlite.Value).Elem", "(internal/reflectlite.Value).Set"], unfollowed := true, recurses := true, named := ["errors.errorType"], apart := false, laid := [("errors.errorType", laid_errors_errorType)], narrowed := true }
def LedgerRefundsUptoSaid : Prop := ledgerRefundsUptoRow.holds Tryd.pinned (OpenSpec.upto ledgerRefundsSpec)

/-- 'plimsolllaw07.LedgerOwn', WHERE WHAT IT READS IS OF BULK AT MOST 1048576: true; the input reads as it did. -/
def ledgerOwnUptoRow : OpenClaim := { program := "ytbggaijjgnjknaadoor", sum := "cfae7213016e4f547ec7cc9708ff8f45c5ef6f818e45dc62e013e1c70ad9a1b6", func := "plimsoll/plimsolllaw07.LedgerOwn", spec := "ledgerOwn", inPlace := ["slices.overlaps[plimsoll/api.Line]", "internal/reflectlite.ValueOf", "(internal/reflectlite.Value).Type", "(internal/reflectlite.Value).IsNil", "internal/reflectlite.TypeOf", "(internal/reflectlite.Value).Elem", "(internal/reflectlite.Value).Set"], unfollowed := true, recurses := true, named := ["errors.errorType"], apart := false, laid := [("errors.errorType", laid_errors_errorType)], narrowed := true }
def LedgerOwnUptoSaid : Prop := ledgerOwnUptoRow.holds Tryd.pinned (OpenSpec.upto ledgerOwnSpec)

/-- 'plimsolllaw07.LedgerTells', WHERE WHAT IT READS IS OF BULK AT MOST 1048576: true; the input reads as it did. -/
def ledgerTellsUptoRow : OpenClaim := { program := "ytbggaijjgnjknaadoor", sum := "cfae7213016e4f547ec7cc9708ff8f45c5ef6f818e45dc62e013e1c70ad9a1b6", func := "plimsoll/plimsolllaw07.LedgerTells", spec := "ledgerTells", inPlace := ["slices.overlaps[plimsoll/api.Line]", "internal/reflectlite.ValueOf", "(internal/reflectlite.Value).Type", "(internal/reflectlite.Value).IsNil", "internal/reflectlite.TypeOf", "(internal/reflectlite.Value).Elem", "(internal/reflectlite.Value).Set"], unfollowed := true, recurses := true, named := ["errors.errorType"], apart := false, laid := [("errors.errorType", laid_errors_errorType)], narrowed := true }
def LedgerTellsUptoSaid : Prop := ledgerTellsUptoRow.holds Tryd.pinned (OpenSpec.upto ledgerTellsSpec)

/-- 'plimsolllaw07.LedgerApart', WHERE WHAT IT READS IS OF BULK AT MOST 1048576: true; the input reads as it did. -/
def ledgerApartUptoRow : OpenClaim := { program := "ytbggaijjgnjknaadoor", sum := "cfae7213016e4f547ec7cc9708ff8f45c5ef6f818e45dc62e013e1c70ad9a1b6", func := "plimsoll/plimsolllaw07.LedgerApart", spec := "ledgerApart", inPlace := ["slices.overlaps[plimsoll/api.Line]", "internal/reflectlite.ValueOf", "(internal/reflectlite.Value).Type", "(internal/reflectlite.Value).IsNil", "internal/reflectlite.TypeOf", "(internal/reflectlite.Value).Elem", "(internal/reflectlite.Value).Set"], unfollowed := true, recurses := true, named := ["errors.errorType"], apart := false, laid := [("errors.errorType", laid_errors_errorType)], narrowed := true }
def LedgerApartUptoSaid : Prop := ledgerApartUptoRow.holds Tryd.pinned (OpenSpec.upto ledgerApartSpec)

/-- 'plimsolllaw07.LedgerSums', WHERE WHAT IT READS IS OF BULK AT MOST 1048576: true; the input reads as it did. -/
def ledgerSumsUptoRow : OpenClaim := { program := "ytbggaijjgnjknaadoor", sum := "cfae7213016e4f547ec7cc9708ff8f45c5ef6f818e45dc62e013e1c70ad9a1b6", func := "plimsoll/plimsolllaw07.LedgerSums", spec := "ledgerSums", inPlace := ["slices.overlaps[plimsoll/api.Line]", "internal/reflectlite.ValueOf", "(internal/reflectlite.Value).Type", "(internal/reflectlite.Value).IsNil", "internal/reflectlite.TypeOf", "(internal/reflectlite.Value).Elem", "(internal/reflectlite.Value).Set"], unfollowed := true, recurses := true, named := ["errors.errorType"], apart := false, laid := [("errors.errorType", laid_errors_errorType)], narrowed := true }
def LedgerSumsUptoSaid : Prop := ledgerSumsUptoRow.holds Tryd.pinned (OpenSpec.upto ledgerSumsSpec)

end Rows
end Go.Proofs.YtbggaijjgnjknaaDoor
