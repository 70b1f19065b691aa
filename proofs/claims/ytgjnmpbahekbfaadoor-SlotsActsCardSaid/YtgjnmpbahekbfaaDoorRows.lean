/-
  NARROWER THAN 'FOR EVERY INPUT', by the rows' own cells (each row's printed sentence says how): SlotsWorn: laid · SlotsLeast: laid · SlotsFull: laid · SlotsActs: laid · SlotsOnce: laid · SlotsNone: laid.
  DERIVED. THE GIVEN ROWS OF THIS SEAT. 6 by the template 'for every input the law returns true; each argument reads behind the call as it read before'; 0 by the template 'total and deterministic' (their statements: YtgjnmpbahekbfaaDoorTotals.lean).
  GIVEN WITH THE SEED: the statements are not yours to turn. If you find one false, say at which input.
  Laid BY PROGRAM, IN A SANDBOX (cutbox-rows.mjs): the forced cells as the released guide's own fill.sh prints them over the translation 2ceaa17c8c546022… (all of the seat's roots in one cut). By AI agents, Wed Nov 11 2026. No macro, syntax, notation, axiom, sorry.
-/
import Derived.Test.YtgjnmpbahekbfaaDoorChecked
import GoSem.Claim
import GoSem.ClaimJoined
import GoSem.ClaimMapViews
import Derived.JoinedTies
import Derived.KernelRfl
namespace Go.Proofs.YtgjnmpbahekbfaaDoor
/- THE CELL 'sum', in the pinned program and in every row, IS THE sha256 OF THE DUMP (.gsa) THAT YtgjnmpbahekbfaaDoorProg.lean LOADS. Nothing in Lean hashes anything: it is a label: what it is worth is what the hold of that sum in a sandbox is worth. -/
noncomputable def Tryd.pinned : Pinned := { name := "ytgjnmpbahekbfaadoor", sum := "2ceaa17c8c546022328cbe001a3d7cf3322368ef3468ef6fa5b6309f53803ea4", checked := Tryd.checked }
namespace Rows
def none {H : Type} : Left H := { results := [], args := [] }

/- WHAT THE LISTED PACKAGE-LEVEL VARIABLES READ AS WHEN THE CALL BEGINS. Each datum BY PROGRAM (the guide's laid-datum.mjs) off the statement by which the dump's own 'gosem.cut.vars' lays the variable. In a bare row this is a premise. The card (YtgjnmpbahekbfaaDoorCards.lean) ties it to the program's text. -/
def laid_plimsoll_slots_errSlots {H : Type} : DataW H := .iface "*errors.errorString" (.ptr (.agg [.lit (.string [110, 111, 110, 101, 32, 105, 115, 32, 102, 114, 101, 101])]))
def laid_plimsoll_slots_errStale {H : Type} : DataW H := .iface "*errors.errorString" (.ptr (.agg [.lit (.string [110, 111, 116, 32, 108, 105, 118, 101])]))

/-- 'plimsolllaw06.SlotsWorn': WHATEVER THE INPUT: true; the input reads as it did. -/
def slotsWornSpec : ChangeSpec := { name := "slotsWorn", fn := fun _ => fun
  | [d] => { results := [.lit (.bool true)], args := [d] }
  | _ => none }
def slotsWornRow : OpenClaim := { program := "ytgjnmpbahekbfaadoor", sum := "2ceaa17c8c546022328cbe001a3d7cf3322368ef3468ef6fa5b6309f53803ea4", func := "plimsoll/plimsolllaw06.SlotsWorn", spec := "slotsWorn", inPlace := ["sync/atomic.AddInt64", "internal/reflectlite.TypeOf", "sync/atomic.LoadInt64"], unfollowed := true, recurses := true, named := ["plimsoll/slots.errSlots", "plimsoll/slots.errStale"], apart := false, laid := [("plimsoll/slots.errSlots", laid_plimsoll_slots_errSlots), ("plimsoll/slots.errStale", laid_plimsoll_slots_errStale)] }
def SlotsWornSaid : Prop := slotsWornRow.holds Tryd.pinned (OpenSpec.ofChange slotsWornSpec)

/-- ITS FALSE NEIGHBOUR: 'it returns false'. Refute it at one input. -/
def slotsWornWrong : ChangeSpec := { name := "slotsWorn", fn := fun _ => fun
  | [d] => { results := [.lit (.bool false)], args := [d] }
  | _ => none }
def SlotsWornWrongFalsely : Prop := slotsWornRow.holds Tryd.pinned (OpenSpec.ofChange slotsWornWrong)

/-- 'plimsolllaw06.SlotsLeast': WHATEVER THE INPUT: true; the input reads as it did. -/
def slotsLeastSpec : ChangeSpec := { name := "slotsLeast", fn := fun _ => fun
  | [d1, d2] => { results := [.lit (.bool true)], args := [d1, d2] }
  | _ => none }
def slotsLeastRow : OpenClaim := { program := "ytgjnmpbahekbfaadoor", sum := "2ceaa17c8c546022328cbe001a3d7cf3322368ef3468ef6fa5b6309f53803ea4", func := "plimsoll/plimsolllaw06.SlotsLeast", spec := "slotsLeast", inPlace := ["sync/atomic.AddInt64", "internal/reflectlite.TypeOf"], unfollowed := true, recurses := true, named := ["plimsoll/slots.errSlots", "plimsoll/slots.errStale"], apart := false, laid := [("plimsoll/slots.errSlots", laid_plimsoll_slots_errSlots), ("plimsoll/slots.errStale", laid_plimsoll_slots_errStale)] }
def SlotsLeastSaid : Prop := slotsLeastRow.holds Tryd.pinned (OpenSpec.ofChange slotsLeastSpec)

/-- ITS FALSE NEIGHBOUR: 'it returns false'. Refute it at one input. -/
def slotsLeastWrong : ChangeSpec := { name := "slotsLeast", fn := fun _ => fun
  | [d1, d2] => { results := [.lit (.bool false)], args := [d1, d2] }
  | _ => none }
def SlotsLeastWrongFalsely : Prop := slotsLeastRow.holds Tryd.pinned (OpenSpec.ofChange slotsLeastWrong)

/-- 'plimsolllaw06.SlotsFull': WHATEVER THE INPUT: true; the input reads as it did. -/
def slotsFullSpec : ChangeSpec := { name := "slotsFull", fn := fun _ => fun
  | [d] => { results := [.lit (.bool true)], args := [d] }
  | _ => none }
def slotsFullRow : OpenClaim := { program := "ytgjnmpbahekbfaadoor", sum := "2ceaa17c8c546022328cbe001a3d7cf3322368ef3468ef6fa5b6309f53803ea4", func := "plimsoll/plimsolllaw06.SlotsFull", spec := "slotsFull", inPlace := ["sync/atomic.AddInt64", "internal/reflectlite.TypeOf", "sync/atomic.LoadInt64"], unfollowed := true, recurses := true, named := ["plimsoll/slots.errSlots", "plimsoll/slots.errStale"], apart := false, laid := [("plimsoll/slots.errSlots", laid_plimsoll_slots_errSlots), ("plimsoll/slots.errStale", laid_plimsoll_slots_errStale)] }
def SlotsFullSaid : Prop := slotsFullRow.holds Tryd.pinned (OpenSpec.ofChange slotsFullSpec)

/-- ITS FALSE NEIGHBOUR: 'it returns false'. Refute it at one input. -/
def slotsFullWrong : ChangeSpec := { name := "slotsFull", fn := fun _ => fun
  | [d] => { results := [.lit (.bool false)], args := [d] }
  | _ => none }
def SlotsFullWrongFalsely : Prop := slotsFullRow.holds Tryd.pinned (OpenSpec.ofChange slotsFullWrong)

/-- 'plimsolllaw06.SlotsActs': WHATEVER THE INPUT: true; the input reads as it did. -/
def slotsActsSpec : ChangeSpec := { name := "slotsActs", fn := fun _ => fun
  | [d1, d2] => { results := [.lit (.bool true)], args := [d1, d2] }
  | _ => none }
def slotsActsRow : OpenClaim := { program := "ytgjnmpbahekbfaadoor", sum := "2ceaa17c8c546022328cbe001a3d7cf3322368ef3468ef6fa5b6309f53803ea4", func := "plimsoll/plimsolllaw06.SlotsActs", spec := "slotsActs", inPlace := ["sync/atomic.AddInt64", "internal/reflectlite.TypeOf", "sync/atomic.LoadInt64"], unfollowed := true, recurses := true, named := ["plimsoll/slots.errSlots", "plimsoll/slots.errStale"], apart := false, laid := [("plimsoll/slots.errSlots", laid_plimsoll_slots_errSlots), ("plimsoll/slots.errStale", laid_plimsoll_slots_errStale)] }
def SlotsActsSaid : Prop := slotsActsRow.holds Tryd.pinned (OpenSpec.ofChange slotsActsSpec)

/-- ITS FALSE NEIGHBOUR: 'it returns false'. Refute it at one input. -/
def slotsActsWrong : ChangeSpec := { name := "slotsActs", fn := fun _ => fun
  | [d1, d2] => { results := [.lit (.bool false)], args := [d1, d2] }
  | _ => none }
def SlotsActsWrongFalsely : Prop := slotsActsRow.holds Tryd.pinned (OpenSpec.ofChange slotsActsWrong)

/-- 'plimsolllaw06.SlotsOnce': WHATEVER THE INPUT: true; the input reads as it did. -/
def slotsOnceSpec : ChangeSpec := { name := "slotsOnce", fn := fun _ => fun
  | [d1, d2] => { results := [.lit (.bool true)], args := [d1, d2] }
  | _ => none }
def slotsOnceRow : OpenClaim := { program := "ytgjnmpbahekbfaadoor", sum := "2ceaa17c8c546022328cbe001a3d7cf3322368ef3468ef6fa5b6309f53803ea4", func := "plimsoll/plimsolllaw06.SlotsOnce", spec := "slotsOnce", inPlace := ["sync/atomic.AddInt64", "internal/reflectlite.TypeOf", "sync/atomic.LoadInt64"], unfollowed := true, recurses := true, named := ["plimsoll/slots.errSlots", "plimsoll/slots.errStale"], apart := false, laid := [("plimsoll/slots.errSlots", laid_plimsoll_slots_errSlots), ("plimsoll/slots.errStale", laid_plimsoll_slots_errStale)] }
def SlotsOnceSaid : Prop := slotsOnceRow.holds Tryd.pinned (OpenSpec.ofChange slotsOnceSpec)

/-- ITS FALSE NEIGHBOUR: 'it returns false'. Refute it at one input. -/
def slotsOnceWrong : ChangeSpec := { name := "slotsOnce", fn := fun _ => fun
  | [d1, d2] => { results := [.lit (.bool false)], args := [d1, d2] }
  | _ => none }
def SlotsOnceWrongFalsely : Prop := slotsOnceRow.holds Tryd.pinned (OpenSpec.ofChange slotsOnceWrong)

/-- 'plimsolllaw06.SlotsNone': WHATEVER THE INPUT: true; the input reads as it did. -/
def slotsNoneSpec : ChangeSpec := { name := "slotsNone", fn := fun _ => fun
  | [d] => { results := [.lit (.bool true)], args := [d] }
  | _ => none }
def slotsNoneRow : OpenClaim := { program := "ytgjnmpbahekbfaadoor", sum := "2ceaa17c8c546022328cbe001a3d7cf3322368ef3468ef6fa5b6309f53803ea4", func := "plimsoll/plimsolllaw06.SlotsNone", spec := "slotsNone", inPlace := ["sync/atomic.AddInt64", "internal/reflectlite.TypeOf", "sync/atomic.LoadInt64"], unfollowed := true, recurses := true, named := ["plimsoll/slots.errSlots", "plimsoll/slots.errStale"], apart := false, laid := [("plimsoll/slots.errSlots", laid_plimsoll_slots_errSlots), ("plimsoll/slots.errStale", laid_plimsoll_slots_errStale)] }
def SlotsNoneSaid : Prop := slotsNoneRow.holds Tryd.pinned (OpenSpec.ofChange slotsNoneSpec)

/-- ITS FALSE NEIGHBOUR: 'it returns false'. Refute it at one input. -/
def slotsNoneWrong : ChangeSpec := { name := "slotsNone", fn := fun _ => fun
  | [d] => { results := [.lit (.bool false)], args := [d] }
  | _ => none }
def SlotsNoneWrongFalsely : Prop := slotsNoneRow.holds Tryd.pinned (OpenSpec.ofChange slotsNoneWrong)

/- THE SECOND FORM. 'bulk': how many values and letters a reading holds, each counted each time it is reached (what is shared counts as often as it is met; a slice's spare places count too). A statement '..UptoSaid' is the law's where the arguments, and the package variables that the reading takes, are together of bulk at most 1048576: NARROWER than '..Said'. Prove '..Said' where nothing that the law and all that it calls make is longer than what came in: it says more and counts as full. Else prove '..UptoSaid'. A law counts once. -/
mutual
def uptoBulk {H : Type} : DataW H → Nat
  | .lit (.string bytes) => bytes.length + 1
  | .lit _ => 1
  | .nil => 1
  | .ptr d => uptoBulk d + 1
  | .slice elems spare => uptoBulkAll elems + uptoBulkAll spare + 1
  | .agg parts => uptoBulkAll parts + 1
  | .iface _ d => uptoBulk d + 1
  | .map entries => uptoBulkEntries entries + 1
  | .held _ => 1
def uptoBulkAll {H : Type} : List (DataW H) → Nat
  | [] => 0
  | d :: r => uptoBulk d + uptoBulkAll r
def uptoBulkEntries {H : Type} : List (Lit × DataW H) → Nat
  | [] => 0
  | x :: r => uptoBulkEntry x + uptoBulkEntries r
def uptoBulkEntry {H : Type} : Lit × DataW H → Nat
  | (.string bytes, d) => bytes.length + uptoBulk d + 1
  | (_, d) => uptoBulk d + 1
 end
def uptoSmall : (H : Type) → List (DataW H) → Bool := fun _ ds => decide (uptoBulkAll ds ≤ 1048576)
def OpenSpec.upto (s : _root_.Go.ChangeSpec) : _root_.Go.OpenSpec := { _root_.Go.OpenSpec.ofChange s with cond := some uptoSmall }

/-- 'plimsolllaw06.SlotsWorn', WHERE WHAT IT READS IS OF BULK AT MOST 1048576: true; the input reads as it did. -/
def slotsWornUptoRow : OpenClaim := { program := "ytgjnmpbahekbfaadoor", sum := "2ceaa17c8c546022328cbe001a3d7cf3322368ef3468ef6fa5b6309f53803ea4", func := "plimsoll/plimsolllaw06.SlotsWorn", spec := "slotsWorn", inPlace := ["sync/atomic.AddInt64", "internal/reflectlite.TypeOf", "sync/atomic.LoadInt64"], unfollowed := true, recurses := true, named := ["plimsoll/slots.errSlots", "plimsoll/slots.errStale"], apart := false, laid := [("plimsoll/slots.errSlots", laid_plimsoll_slots_errSlots), ("plimsoll/slots.errStale", laid_plimsoll_slots_errStale)], narrowed := true }
def SlotsWornUptoSaid : Prop := slotsWornUptoRow.holds Tryd.pinned (OpenSpec.upto slotsWornSpec)

/-- 'plimsolllaw06.SlotsLeast', WHERE WHAT IT READS IS OF BULK AT MOST 1048576: true; the input reads as it did. -/
def slotsLeastUptoRow : OpenClaim := { program := "ytgjnmpbahekbfaadoor", sum := "2ceaa17c8c546022328cbe001a3d7cf3322368ef3468ef6fa5b6309f53803ea4", func := "plimsoll/plimsolllaw06.SlotsLeast", spec := "slotsLeast", inPlace := ["sync/atomic.AddInt64", "internal/reflectlite.TypeOf"], unfollowed := true, recurses := true, named := ["plimsoll/slots.errSlots", "plimsoll/slots.errStale"], apart := false, laid := [("plimsoll/slots.errSlots", laid_plimsoll_slots_errSlots), ("plimsoll/slots.errStale", laid_plimsoll_slots_errStale)], narrowed := true }
def SlotsLeastUptoSaid : Prop := slotsLeastUptoRow.holds Tryd.pinned (OpenSpec.upto slotsLeastSpec)

/-- 'plimsolllaw06.SlotsFull', WHERE WHAT IT READS IS OF BULK AT MOST 1048576: true; the input reads as it did. -/
def slotsFullUptoRow : OpenClaim := { program := "ytgjnmpbahekbfaadoor", sum := "2ceaa17c8c546022328cbe001a3d7cf3322368ef3468ef6fa5b6309f53803ea4", func := "plimsoll/plimsolllaw06.SlotsFull", spec := "slotsFull", inPlace := ["sync/atomic.AddInt64", "internal/reflectlite.TypeOf", "sync/atomic.LoadInt64"], unfollowed := true, recurses := true, named := ["plimsoll/slots.errSlots", "plimsoll/slots.errStale"], apart := false, laid := [("plimsoll/slots.errSlots", laid_plimsoll_slots_errSlots), ("plimsoll/slots.errStale", laid_plimsoll_slots_errStale)], narrowed := true }
def SlotsFullUptoSaid : Prop := slotsFullUptoRow.holds Tryd.pinned (OpenSpec.upto slotsFullSpec)

/-- 'plimsolllaw06.SlotsActs', WHERE WHAT IT READS IS OF BULK AT MOST 1048576: true; the input reads as it did. -/
def slotsActsUptoRow : OpenClaim := { program := "ytgjnmpbahekbfaadoor", sum := "2ceaa17c8c546022328cbe001a3d7cf3322368ef3468ef6fa5b6309f53803ea4", func := "plimsoll/plimsolllaw06.SlotsActs", spec := "slotsActs", inPlace := ["sync/atomic.AddInt64", "internal/reflectlite.TypeOf", "sync/atomic.LoadInt64"], unfollowed := true, recurses := true, named := ["plimsoll/slots.errSlots", "plimsoll/slots.errStale"], apart := false, laid := [("plimsoll/slots.errSlots", laid_plimsoll_slots_errSlots), ("plimsoll/slots.errStale", laid_plimsoll_slots_errStale)], narrowed := true }
def SlotsActsUptoSaid : Prop := slotsActsUptoRow.holds Tryd.pinned (OpenSpec.upto slotsActsSpec)

/-- 'plimsolllaw06.SlotsOnce', WHERE WHAT IT READS IS OF BULK AT MOST 1048576: true; the input reads as it did. -/
def slotsOnceUptoRow : OpenClaim := { program := "ytgjnmpbahekbfaadoor", sum := "2ceaa17c8c546022328cbe001a3d7cf3322368ef3468ef6fa5b6309f53803ea4", func := "plimsoll/plimsolllaw06.SlotsOnce", spec := "slotsOnce", inPlace := ["sync/atomic.AddInt64", "internal/reflectlite.TypeOf", "sync/atomic.LoadInt64"], unfollowed := true, recurses := true, named := ["plimsoll/slots.errSlots", "plimsoll/slots.errStale"], apart := false, laid := [("plimsoll/slots.errSlots", laid_plimsoll_slots_errSlots), ("plimsoll/slots.errStale", laid_plimsoll_slots_errStale)], narrowed := true }
def SlotsOnceUptoSaid : Prop := slotsOnceUptoRow.holds Tryd.pinned (OpenSpec.upto slotsOnceSpec)

/-- 'plimsolllaw06.SlotsNone', WHERE WHAT IT READS IS OF BULK AT MOST 1048576: true; the input reads as it did. -/
def slotsNoneUptoRow : OpenClaim := { program := "ytgjnmpbahekbfaadoor", sum := "2ceaa17c8c546022328cbe001a3d7cf3322368ef3468ef6fa5b6309f53803ea4", func := "plimsoll/plimsolllaw06.SlotsNone", spec := "slotsNone", inPlace := ["sync/atomic.AddInt64", "internal/reflectlite.TypeOf", "sync/atomic.LoadInt64"], unfollowed := true, recurses := true, named := ["plimsoll/slots.errSlots", "plimsoll/slots.errStale"], apart := false, laid := [("plimsoll/slots.errSlots", laid_plimsoll_slots_errSlots), ("plimsoll/slots.errStale", laid_plimsoll_slots_errStale)], narrowed := true }
def SlotsNoneUptoSaid : Prop := slotsNoneUptoRow.holds Tryd.pinned (OpenSpec.upto slotsNoneSpec)

end Rows
end Go.Proofs.YtgjnmpbahekbfaaDoor
