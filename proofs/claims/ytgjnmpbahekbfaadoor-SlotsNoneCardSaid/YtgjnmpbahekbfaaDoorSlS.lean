/-
  STATEMENT SlotsNone: its walk, from what 'shown' answers.
-/
import Derived.Test.YtgjnmpbahekbfaaDoorSlR
namespace Go.Proofs.YtgjnmpbahekbfaaDoor
open Go.RowKit

set_option maxRecDepth 100000 in
set_option maxHeartbeats 8000000 in
theorem none_core (x : Hd) (w : World) (hsh : ∀ W, Below w.heap.size w W → Calls Tryd.prog 9 #[] W fun e w' => e = .returned (.bool true) ∧ Below W.heap.size W w') :
    Calls Tryd.prog 8 #[.agg #[.int .i64 x.slot, .int .i64 x.gen]] w fun e w' => e = .returned (.bool true) ∧ Below w.heap.size w w' := by
  have HSH := Lib.hid hsh
  clear hsh
  go_enter Tryd.func8, Tryd.ntmps8
  go_wp2_with fail
  refine (HSH.out _ (below_alloc (Below.refl _ _) _)).mono ?_
  rintro e w1 ⟨rfl, hB⟩
  have X1 : Hid (Blk w1 w.heap.size 28 #[.int .i64 x.slot, .int .i64 x.gen]) := Lib.hid ((Blk.new' rfl).after hB)
  have B1 := Lib.hid (below_call (w := w) (below_alloc (Below.refl _ _) _) hB)
  clear hB
  go_wp2_with fail
  refine (Take_nil _).mono ?_
  rintro e w2 ⟨rfl, hB⟩
  have X2 := Lib.hid (X1.out.after hB)
  have B2 := Lib.hid (below_call (w := w) B1.out hB)
  have p0 := (X2.out.alloc (.cells #[.int .i64 0, .int .i64 0] 28)).at_ (i := 0) (v := .int .i64 x.slot) rfl
  have p1 := (X2.out.alloc (.cells #[.int .i64 0, .int .i64 0] 28)).at_ (i := 1) (v := .int .i64 x.gen) rfl
  have q0 := X2.out.at_ (i := 0) (v := .int .i64 x.slot) rfl
  have q1 := X2.out.at_ (i := 1) (v := .int .i64 x.gen) rfl
  have ql : w.heap.size < w2.heap.size := X2.out.lt
  clear hB
  go_wp2_with fail
  refine (give_nil _ _ ⟨_, _, rfl⟩).mono ?_
  rintro e w3 ⟨rfl, hB⟩
  have X3 := Lib.hid ((X2.out.alloc (.cells #[.int .i64 0, .int .i64 0] 28)).after hB)
  have B3 := Lib.hid (below_call (w := w) (below_alloc B2.out _) hB)
  have r0 := X3.out.at_ (i := 0) (v := .int .i64 x.slot) rfl
  have r1 := X3.out.at_ (i := 1) (v := .int .i64 x.gen) rfl
  clear hB p0 p1 q0 q1
  go_wp2_with fail
  refine (live_nil _ _ ⟨_, _, rfl⟩).mono ?_
  rintro e w4 ⟨rfl, hB⟩
  have B4 := Lib.hid (below_call (w := w) B3.out hB)
  clear hB r0 r1
  go_wp2_with fail
  refine (Used_nil _).mono ?_
  rintro e w5 ⟨rfl, rfl⟩
  go_wp2_with fail
  refine (all_nil _).mono ?_
  rintro e w5 ⟨rfl, rfl⟩
  go_wp2_with fail
  go_ret
  exact ⟨rfl, B4.out⟩
end Go.Proofs.YtgjnmpbahekbfaaDoor
