/-
  NARROWER THAN 'FOR EVERY INPUT', by the rows' own cells (each row's printed sentence says how): SubjectActs: laid · SubjectRises: laid · SubjectApart: laid · SubjectEnds: laid · SubjectStarts: laid · SubjectSeen: laid · SubjectTells: laid.
  DERIVED. THE GIVEN ROWS OF THIS SEAT. 7 by the template 'for every input the law returns true; each argument reads behind the call as it read before'; 0 by the template 'total and deterministic' (their statements: YteepgbkblgcegaaDoorTotals.lean).
  GIVEN WITH THE SEED: the statements are not yours to turn. If you find one false, say at which input.
  Laid BY PROGRAM, IN A SANDBOX (cutbox-rows.mjs): the forced cells as the released guide's own fill.sh prints them over the translation 7cef0bc0c06334b2… (all of the seat's roots in one cut). By AI agents, Wed Nov 11 2026. No macro, syntax, notation, axiom, sorry.
-/
import Derived.Test.YteepgbkblgcegaaDoorChecked
import GoSem.Claim
import GoSem.ClaimJoined
import GoSem.ClaimMapViews
import Derived.JoinedTies
import Derived.KernelRfl
namespace Go.Proofs.YteepgbkblgcegaaDoor
/- THE CELL 'sum', in the pinned program and in every row, IS THE sha256 OF THE DUMP (.gsa) THAT YteepgbkblgcegaaDoorProg.lean LOADS. Nothing in Lean hashes anything: it is a label: what it is worth is what the hold of that sum in a sandbox is worth. -/
noncomputable def Tryd.pinned : Pinned := { name := "yteepgbkblgcegaadoor", sum := "7cef0bc0c06334b2e14d7178fd12b1f4604f3d8db62868e1fda057e6560d8a1d", checked := Tryd.checked }
namespace Rows
def none {H : Type} : Left H := { results := [], args := [] }

/- WHAT THE LISTED PACKAGE-LEVEL VARIABLES READ AS WHEN THE CALL BEGINS. Each datum BY PROGRAM (the guide's laid-datum.mjs) off the statement by which the dump's own 'gosem.cut.vars' lays the variable. In a bare row this is a premise. The card (YteepgbkblgcegaaDoorCards.lean) ties it to the program's text. -/
def laid_errors_errorType {H : Type} : DataW H := .iface "internal/reflectlite.rtype" (.agg [.ptr (.lit (.string [101, 114, 114, 111, 114]))])
def laid_plimsoll_ceiling_errCeiling {H : Type} : DataW H := .iface "*errors.errorString" (.ptr (.agg [.lit (.string [116, 111, 111, 32, 104, 105, 103, 104])]))

/-- 'plimsolllaw16.SubjectActs': WHATEVER THE INPUT: true; the input reads as it did. -/
def subjectActsSpec : ChangeSpec := { name := "subjectActs", fn := fun _ => fun
  | [d1, d2, d3, d4] => { results := [.lit (.bool true)], args := [d1, d2, d3, d4] }
  | _ => none }
def subjectActsRow : OpenClaim := { program := "yteepgbkblgcegaadoor", sum := "7cef0bc0c06334b2e14d7178fd12b1f4604f3d8db62868e1fda057e6560d8a1d", func := "plimsoll/plimsolllaw16.SubjectActs", spec := "subjectActs", inPlace := ["internal/reflectlite.ValueOf", "(internal/reflectlite.Value).Type", "(internal/reflectlite.Value).IsNil", "internal/reflectlite.TypeOf", "(internal/reflectlite.Value).Elem", "(internal/reflectlite.Value).Set"], unfollowed := true, recurses := true, named := ["plimsoll/ceiling.errCeiling", "errors.errorType"], apart := false, laid := [("errors.errorType", laid_errors_errorType), ("plimsoll/ceiling.errCeiling", laid_plimsoll_ceiling_errCeiling)] }
def SubjectActsSaid : Prop := subjectActsRow.holds Tryd.pinned (OpenSpec.ofChange subjectActsSpec)

/-- ITS FALSE NEIGHBOUR: 'it returns false'. Refute it at one input. -/
def subjectActsWrong : ChangeSpec := { name := "subjectActs", fn := fun _ => fun
  | [d1, d2, d3, d4] => { results := [.lit (.bool false)], args := [d1, d2, d3, d4] }
  | _ => none }
def SubjectActsWrongFalsely : Prop := subjectActsRow.holds Tryd.pinned (OpenSpec.ofChange subjectActsWrong)

/-- 'plimsolllaw16.SubjectRises': WHATEVER THE INPUT: true; the input reads as it did. -/
def subjectRisesSpec : ChangeSpec := { name := "subjectRises", fn := fun _ => fun
  | [d1, d2] => { results := [.lit (.bool true)], args := [d1, d2] }
  | _ => none }
def subjectRisesRow : OpenClaim := { program := "yteepgbkblgcegaadoor", sum := "7cef0bc0c06334b2e14d7178fd12b1f4604f3d8db62868e1fda057e6560d8a1d", func := "plimsoll/plimsolllaw16.SubjectRises", spec := "subjectRises", inPlace := ["internal/reflectlite.ValueOf", "(internal/reflectlite.Value).Type", "(internal/reflectlite.Value).IsNil", "internal/reflectlite.TypeOf", "(internal/reflectlite.Value).Elem", "(internal/reflectlite.Value).Set"], unfollowed := true, recurses := true, named := ["plimsoll/ceiling.errCeiling", "errors.errorType"], apart := false, laid := [("errors.errorType", laid_errors_errorType), ("plimsoll/ceiling.errCeiling", laid_plimsoll_ceiling_errCeiling)] }
def SubjectRisesSaid : Prop := subjectRisesRow.holds Tryd.pinned (OpenSpec.ofChange subjectRisesSpec)

/-- ITS FALSE NEIGHBOUR: 'it returns false'. Refute it at one input. -/
def subjectRisesWrong : ChangeSpec := { name := "subjectRises", fn := fun _ => fun
  | [d1, d2] => { results := [.lit (.bool false)], args := [d1, d2] }
  | _ => none }
def SubjectRisesWrongFalsely : Prop := subjectRisesRow.holds Tryd.pinned (OpenSpec.ofChange subjectRisesWrong)

/-- 'plimsolllaw16.SubjectApart': WHATEVER THE INPUT: true; the input reads as it did. -/
def subjectApartSpec : ChangeSpec := { name := "subjectApart", fn := fun _ => fun
  | [d1, d2] => { results := [.lit (.bool true)], args := [d1, d2] }
  | _ => none }
def subjectApartRow : OpenClaim := { program := "yteepgbkblgcegaadoor", sum := "7cef0bc0c06334b2e14d7178fd12b1f4604f3d8db62868e1fda057e6560d8a1d", func := "plimsoll/plimsolllaw16.SubjectApart", spec := "subjectApart", inPlace := ["internal/reflectlite.ValueOf", "(internal/reflectlite.Value).Type", "(internal/reflectlite.Value).IsNil", "internal/reflectlite.TypeOf", "(internal/reflectlite.Value).Elem", "(internal/reflectlite.Value).Set"], unfollowed := true, recurses := true, named := ["plimsoll/ceiling.errCeiling", "errors.errorType"], apart := false, laid := [("errors.errorType", laid_errors_errorType), ("plimsoll/ceiling.errCeiling", laid_plimsoll_ceiling_errCeiling)] }
def SubjectApartSaid : Prop := subjectApartRow.holds Tryd.pinned (OpenSpec.ofChange subjectApartSpec)

/-- ITS FALSE NEIGHBOUR: 'it returns false'. Refute it at one input. -/
def subjectApartWrong : ChangeSpec := { name := "subjectApart", fn := fun _ => fun
  | [d1, d2] => { results := [.lit (.bool false)], args := [d1, d2] }
  | _ => none }
def SubjectApartWrongFalsely : Prop := subjectApartRow.holds Tryd.pinned (OpenSpec.ofChange subjectApartWrong)

/-- 'plimsolllaw16.SubjectEnds': WHATEVER THE INPUT: true; the input reads as it did. -/
def subjectEndsSpec : ChangeSpec := { name := "subjectEnds", fn := fun _ => fun
  | [d1, d2, d3, d4] => { results := [.lit (.bool true)], args := [d1, d2, d3, d4] }
  | _ => none }
def subjectEndsRow : OpenClaim := { program := "yteepgbkblgcegaadoor", sum := "7cef0bc0c06334b2e14d7178fd12b1f4604f3d8db62868e1fda057e6560d8a1d", func := "plimsoll/plimsolllaw16.SubjectEnds", spec := "subjectEnds", inPlace := ["internal/reflectlite.ValueOf", "(internal/reflectlite.Value).Type", "(internal/reflectlite.Value).IsNil", "internal/reflectlite.TypeOf", "(internal/reflectlite.Value).Elem", "(internal/reflectlite.Value).Set"], unfollowed := true, recurses := true, named := ["plimsoll/ceiling.errCeiling", "errors.errorType"], apart := false, laid := [("errors.errorType", laid_errors_errorType), ("plimsoll/ceiling.errCeiling", laid_plimsoll_ceiling_errCeiling)] }
def SubjectEndsSaid : Prop := subjectEndsRow.holds Tryd.pinned (OpenSpec.ofChange subjectEndsSpec)

/-- ITS FALSE NEIGHBOUR: 'it returns false'. Refute it at one input. -/
def subjectEndsWrong : ChangeSpec := { name := "subjectEnds", fn := fun _ => fun
  | [d1, d2, d3, d4] => { results := [.lit (.bool false)], args := [d1, d2, d3, d4] }
  | _ => none }
def SubjectEndsWrongFalsely : Prop := subjectEndsRow.holds Tryd.pinned (OpenSpec.ofChange subjectEndsWrong)

/-- 'plimsolllaw16.SubjectStarts': WHATEVER THE INPUT: true; the input reads as it did. -/
def subjectStartsSpec : ChangeSpec := { name := "subjectStarts", fn := fun _ => fun
  | [d1, d2, d3] => { results := [.lit (.bool true)], args := [d1, d2, d3] }
  | _ => none }
def subjectStartsRow : OpenClaim := { program := "yteepgbkblgcegaadoor", sum := "7cef0bc0c06334b2e14d7178fd12b1f4604f3d8db62868e1fda057e6560d8a1d", func := "plimsoll/plimsolllaw16.SubjectStarts", spec := "subjectStarts", inPlace := ["internal/reflectlite.ValueOf", "(internal/reflectlite.Value).Type", "(internal/reflectlite.Value).IsNil", "internal/reflectlite.TypeOf", "(internal/reflectlite.Value).Elem", "(internal/reflectlite.Value).Set"], unfollowed := true, recurses := true, named := ["plimsoll/ceiling.errCeiling", "errors.errorType"], apart := false, laid := [("errors.errorType", laid_errors_errorType), ("plimsoll/ceiling.errCeiling", laid_plimsoll_ceiling_errCeiling)] }
def SubjectStartsSaid : Prop := subjectStartsRow.holds Tryd.pinned (OpenSpec.ofChange subjectStartsSpec)

/-- ITS FALSE NEIGHBOUR: 'it returns false'. Refute it at one input. -/
def subjectStartsWrong : ChangeSpec := { name := "subjectStarts", fn := fun _ => fun
  | [d1, d2, d3] => { results := [.lit (.bool false)], args := [d1, d2, d3] }
  | _ => none }
def SubjectStartsWrongFalsely : Prop := subjectStartsRow.holds Tryd.pinned (OpenSpec.ofChange subjectStartsWrong)

/-- 'plimsolllaw16.SubjectSeen': WHATEVER THE INPUT: true; the input reads as it did. -/
def subjectSeenSpec : ChangeSpec := { name := "subjectSeen", fn := fun _ => fun
  | [d1, d2, d3] => { results := [.lit (.bool true)], args := [d1, d2, d3] }
  | _ => none }
def subjectSeenRow : OpenClaim := { program := "yteepgbkblgcegaadoor", sum := "7cef0bc0c06334b2e14d7178fd12b1f4604f3d8db62868e1fda057e6560d8a1d", func := "plimsoll/plimsolllaw16.SubjectSeen", spec := "subjectSeen", inPlace := ["internal/reflectlite.ValueOf", "(internal/reflectlite.Value).Type", "(internal/reflectlite.Value).IsNil", "internal/reflectlite.TypeOf", "(internal/reflectlite.Value).Elem", "(internal/reflectlite.Value).Set"], unfollowed := true, recurses := true, named := ["plimsoll/ceiling.errCeiling", "errors.errorType"], apart := false, laid := [("errors.errorType", laid_errors_errorType), ("plimsoll/ceiling.errCeiling", laid_plimsoll_ceiling_errCeiling)] }
def SubjectSeenSaid : Prop := subjectSeenRow.holds Tryd.pinned (OpenSpec.ofChange subjectSeenSpec)

/-- ITS FALSE NEIGHBOUR: 'it returns false'. Refute it at one input. -/
def subjectSeenWrong : ChangeSpec := { name := "subjectSeen", fn := fun _ => fun
  | [d1, d2, d3] => { results := [.lit (.bool false)], args := [d1, d2, d3] }
  | _ => none }
def SubjectSeenWrongFalsely : Prop := subjectSeenRow.holds Tryd.pinned (OpenSpec.ofChange subjectSeenWrong)

/-- 'plimsolllaw16.SubjectTells': WHATEVER THE INPUT: true; the input reads as it did. -/
def subjectTellsSpec : ChangeSpec := { name := "subjectTells", fn := fun _ => fun
  | [d1, d2, d3, d4] => { results := [.lit (.bool true)], args := [d1, d2, d3, d4] }
  | _ => none }
def subjectTellsRow : OpenClaim := { program := "yteepgbkblgcegaadoor", sum := "7cef0bc0c06334b2e14d7178fd12b1f4604f3d8db62868e1fda057e6560d8a1d", func := "plimsoll/plimsolllaw16.SubjectTells", spec := "subjectTells", inPlace := ["internal/reflectlite.ValueOf", "(internal/reflectlite.Value).Type", "(internal/reflectlite.Value).IsNil", "internal/reflectlite.TypeOf", "(internal/reflectlite.Value).Elem", "(internal/reflectlite.Value).Set"], unfollowed := true, recurses := true, named := ["plimsoll/ceiling.errCeiling", "errors.errorType"], apart := false, laid := [("errors.errorType", laid_errors_errorType), ("plimsoll/ceiling.errCeiling", laid_plimsoll_ceiling_errCeiling)] }
def SubjectTellsSaid : Prop := subjectTellsRow.holds Tryd.pinned (OpenSpec.ofChange subjectTellsSpec)

/-- ITS FALSE NEIGHBOUR: 'it returns false'. Refute it at one input. -/
def subjectTellsWrong : ChangeSpec := { name := "subjectTells", fn := fun _ => fun
  | [d1, d2, d3, d4] => { results := [.lit (.bool false)], args := [d1, d2, d3, d4] }
  | _ => none }
def SubjectTellsWrongFalsely : Prop := subjectTellsRow.holds Tryd.pinned (OpenSpec.ofChange subjectTellsWrong)

/- THE SECOND FORM. 'bulk': how many values and letters a reading holds, each counted each time it is reached (what is shared counts as often as it is met; a slice's spare places count too). A statement '..UptoSaid' is the law's where the arguments, and the package variables that the reading takes, are together of bulk at most 1048576: NARROWER than '..Said'. Prove '..Said' where nothing that the law and all that it calls make is longer than what came in: it says more and counts as full. Else prove '..UptoSaid'. A law counts once. -/
mutual
def uptoBulk {H : Type} : DataW H → Nat
  | .lit (.string bytes) => bytes.length + 1
  | .lit _ => 1
  | .nil => 1
  | .ptr d => uptoBulk d + 1
  | .slice elems spare => uptoBulkAll elems + uptoBulkAll spare + 1
  | .agg parts => uptoBulkAll parts + 1
  | .iface _ d => uptoBulk d + 1
  | .map entries => uptoBulkEntries entries + 1
  | .held _ => 1
def uptoBulkAll {H : Type} : List (DataW H) → Nat
  | [] => 0
  | d :: r => uptoBulk d + uptoBulkAll r
def uptoBulkEntries {H : Type} : List (Lit × DataW H) → Nat
  | [] => 0
  | x :: r => uptoBulkEntry x + uptoBulkEntries r
def uptoBulkEntry {H : Type} : Lit × DataW H → Nat
  | (.string bytes, d) => bytes.length + uptoBulk d + 1
  | (_, d) => uptoBulk d + 1
 end
def uptoSmall : (H : Type) → List (DataW H) → Bool := fun _ ds => decide (uptoBulkAll ds ≤ 1048576)
def OpenSpec.upto (s : _root_.Go.ChangeSpec) : _root_.Go.OpenSpec := { _root_.Go.OpenSpec.ofChange s with cond := some uptoSmall }

/-- 'plimsolllaw16.SubjectActs', WHERE WHAT IT READS IS OF BULK AT MOST 1048576: true; the input reads as it did. -/
def subjectActsUptoRow : OpenClaim := { program := "yteepgbkblgcegaadoor", sum := "7cef0bc0c06334b2e14d7178fd12b1f4604f3d8db62868e1fda057e6560d8a1d", func := "plimsoll/plimsolllaw16.SubjectActs", spec := "subjectActs", inPlace := ["internal/reflectlite.ValueOf", "(internal/reflectlite.Value).Type", "(internal/reflectlite.Value).IsNil", "internal/reflectlite.TypeOf", "(internal/reflectlite.Value).Elem", "(internal/reflectlite.Value).Set"], unfollowed := true, recurses := true, named := ["plimsoll/ceiling.errCeiling", "errors.errorType"], apart := false, laid := [("errors.errorType", laid_errors_errorType), ("plimsoll/ceiling.errCeiling", laid_plimsoll_ceiling_errCeiling)], narrowed := true }
def SubjectActsUptoSaid : Prop := subjectActsUptoRow.holds Tryd.pinned (OpenSpec.upto subjectActsSpec)

/-- 'plimsolllaw16.SubjectRises', WHERE WHAT IT READS IS OF BULK AT MOST 1048576: true; the input reads as it did. -/
def subjectRisesUptoRow : OpenClaim := { program := "yteepgbkblgcegaadoor", sum := "7cef0bc0c06334b2e14d7178fd12b1f4604f3d8db62868e1fda057e6560d8a1d", func := "plimsoll/plimsolllaw16.SubjectRises", spec := "subjectRises", inPlace := ["internal/reflectlite.ValueOf", "(internal/reflectlite.Value).Type", "(internal/reflectlite.Value).IsNil", "internal/reflectlite.TypeOf", "(internal/reflectlite.Value).Elem", "(internal/reflectlite.Value).Set"], unfollowed := true, recurses := true, named := ["plimsoll/ceiling.errCeiling", "errors.errorType"], apart := false, laid := [("errors.errorType", laid_errors_errorType), ("plimsoll/ceiling.errCeiling", laid_plimsoll_ceiling_errCeiling)], narrowed := true }
def SubjectRisesUptoSaid : Prop := subjectRisesUptoRow.holds Tryd.pinned (OpenSpec.upto subjectRisesSpec)

/-- 'plimsolllaw16.SubjectApart', WHERE WHAT IT READS IS OF BULK AT MOST 1048576: true; the input reads as it did. -/
def subjectApartUptoRow : OpenClaim := { program := "yteepgbkblgcegaadoor", sum := "7cef0bc0c06334b2e14d7178fd12b1f4604f3d8db62868e1fda057e6560d8a1d", func := "plimsoll/plimsolllaw16.SubjectApart", spec := "subjectApart", inPlace := ["internal/reflectlite.ValueOf", "(internal/reflectlite.Value).Type", "(internal/reflectlite.Value).IsNil", "internal/reflectlite.TypeOf", "(internal/reflectlite.Value).Elem", "(internal/reflectlite.Value).Set"], unfollowed := true, recurses := true, named := ["plimsoll/ceiling.errCeiling", "errors.errorType"], apart := false, laid := [("errors.errorType", laid_errors_errorType), ("plimsoll/ceiling.errCeiling", laid_plimsoll_ceiling_errCeiling)], narrowed := true }
def SubjectApartUptoSaid : Prop := subjectApartUptoRow.holds Tryd.pinned (OpenSpec.upto subjectApartSpec)

/-- 'plimsolllaw16.SubjectEnds', WHERE WHAT IT READS IS OF BULK AT MOST 1048576: true; the input reads as it did. -/
def subjectEndsUptoRow : OpenClaim := { program := "yteepgbkblgcegaadoor", sum := "7cef0bc0c06334b2e14d7178fd12b1f4604f3d8db62868e1fda057e6560d8a1d", func := "plimsoll/plimsolllaw16.SubjectEnds", spec := "subjectEnds", inPlace := ["internal/reflectlite.ValueOf", "(internal/reflectlite.Value).Type", "(internal/reflectlite.Value).IsNil", "internal/reflectlite.TypeOf", "(internal/reflectlite.Value).Elem", "(internal/reflectlite.Value).Set"], unfollowed := true, recurses := true, named := ["plimsoll/ceiling.errCeiling", "errors.errorType"], apart := false, laid := [("errors.errorType", laid_errors_errorType), ("plimsoll/ceiling.errCeiling", laid_plimsoll_ceiling_errCeiling)], narrowed := true }
def SubjectEndsUptoSaid : Prop := subjectEndsUptoRow.holds Tryd.pinned (OpenSpec.upto subjectEndsSpec)

/-- 'plimsolllaw16.SubjectStarts', WHERE WHAT IT READS IS OF BULK AT MOST 1048576: true; the input reads as it did. -/
def subjectStartsUptoRow : OpenClaim := { program := "yteepgbkblgcegaadoor", sum := "7cef0bc0c06334b2e14d7178fd12b1f4604f3d8db62868e1fda057e6560d8a1d", func := "plimsoll/plimsolllaw16.SubjectStarts", spec := "subjectStarts", inPlace := ["internal/reflectlite.ValueOf", "(internal/reflectlite.Value).Type", "(internal/reflectlite.Value).IsNil", "internal/reflectlite.TypeOf", "(internal/reflectlite.Value).Elem", "(internal/reflectlite.Value).Set"], unfollowed := true, recurses := true, named := ["plimsoll/ceiling.errCeiling", "errors.errorType"], apart := false, laid := [("errors.errorType", laid_errors_errorType), ("plimsoll/ceiling.errCeiling", laid_plimsoll_ceiling_errCeiling)], narrowed := true }
def SubjectStartsUptoSaid : Prop := subjectStartsUptoRow.holds Tryd.pinned (OpenSpec.upto subjectStartsSpec)

/-- 'plimsolllaw16.SubjectSeen', WHERE WHAT IT READS IS OF BULK AT MOST 1048576: true; the input reads as it did. -/
def subjectSeenUptoRow : OpenClaim := { program := "yteepgbkblgcegaadoor", sum := "7cef0bc0c06334b2e14d7178fd12b1f4604f3d8db62868e1fda057e6560d8a1d", func := "plimsoll/plimsolllaw16.SubjectSeen", spec := "subjectSeen", inPlace := ["internal/reflectlite.ValueOf", "(internal/reflectlite.Value).Type", "(internal/reflectlite.Value).IsNil", "internal/reflectlite.TypeOf", "(internal/reflectlite.Value).Elem", "(internal/reflectlite.Value).Set"], unfollowed := true, recurses := true, named := ["plimsoll/ceiling.errCeiling", "errors.errorType"], apart := false, laid := [("errors.errorType", laid_errors_errorType), ("plimsoll/ceiling.errCeiling", laid_plimsoll_ceiling_errCeiling)], narrowed := true }
def SubjectSeenUptoSaid : Prop := subjectSeenUptoRow.holds Tryd.pinned (OpenSpec.upto subjectSeenSpec)

/-- 'plimsolllaw16.SubjectTells', WHERE WHAT IT READS IS OF BULK AT MOST 1048576: true; the input reads as it did. -/
def subjectTellsUptoRow : OpenClaim := { program := "yteepgbkblgcegaadoor", sum := "7cef0bc0c06334b2e14d7178fd12b1f4604f3d8db62868e1fda057e6560d8a1d", func := "plimsoll/plimsolllaw16.SubjectTells", spec := "subjectTells", inPlace := ["internal/reflectlite.ValueOf", "(internal/reflectlite.Value).Type", "(internal/reflectlite.Value).IsNil", "internal/reflectlite.TypeOf", "(internal/reflectlite.Value).Elem", "(internal/reflectlite.Value).Set"], unfollowed := true, recurses := true, named := ["plimsoll/ceiling.errCeiling", "errors.errorType"], apart := false, laid := [("errors.errorType", laid_errors_errorType), ("plimsoll/ceiling.errCeiling", laid_plimsoll_ceiling_errCeiling)], narrowed := true }
def SubjectTellsUptoSaid : Prop := subjectTellsUptoRow.holds Tryd.pinned (OpenSpec.upto subjectTellsSpec)

end Rows
end Go.Proofs.YteepgbkblgcegaaDoor
