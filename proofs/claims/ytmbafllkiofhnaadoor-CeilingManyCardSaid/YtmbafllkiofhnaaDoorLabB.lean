/-
  THE WALKS OF PACKAGE label, part two: makers.
-/
import Derived.Test.YtmbafllkiofhnaaDoorLabA
namespace Go.Proofs.YtmbafllkiofhnaaDoor
open Go.RowKit

attribute [local go_sem] u_and u_or u_andNot u_add u_sub u_bit u_eq_zero u_beq

theorem still_of {P : Program} {f : FuncId} {args : Array Value} {w : World} {v : Value} (h : Calls P f args w fun e w' => e = .returned v ∧ w = w') : Calls P f args w fun e w' => e = .returned v ∧ w' = w :=
  h.mono fun _ _ hh => ⟨hh.1, hh.2.symm⟩
set_option maxRecDepth 100000 in
set_option maxHeartbeats 2000000 in
theorem of_joins (a b : Lab) (w : World) (ha : okL a = true) (hb : okL b = true) :
    Calls Tryd.prog 40 #[.agg #[.func (.func 51) #[] #[], .func (.func 52) #[] #[], .func (.func 53) #[] #[]], .agg #[.int .i64 a.lv, .int .u64 (u a.c), .int .i64 a.ig, .int .i64 b.lv, .int .u64 (u b.c), .int .i64 b.ig]] w
      fun e w' => e = .returned (.tuple #[.agg #[.int .i64 (max a.lv b.lv), .int .u64 (u (a.c ||| b.c)), .int .i64 (min a.ig b.ig)], .nilIface]) ∧ Below w.heap.size w w' := by
  go_enter Tryd.func40, Tryd.ntmps40
  go_wp2_with fail
  refine (checked_ok a b _ ha hb).mono ?_
  rintro e w1 ⟨rfl, hB1⟩
  obtain ⟨hc, hf⟩ := below_cell hB1
  have HB1 := Lib.hid hB1
  clear hB1
  go_wp2_with fail
  go_still_tail 28, (by kernel_rfl)
  still_call (still_of (greater_any _ _ _))
  repeat still_step
  still_call (still_of (or_any _ _ _))
  repeat still_step
  still_call (still_of (lesser_any _ _ _))
  repeat still_step
  refine wpStill_nil ?_
  change wpList _ _ _ _ _ w1.drew
  go_wp2
  have q0 : w1.cell? ⟨w.heap.size + 1 + 1, 0, none⟩ = some (.int .i64 0) := (hc _ _ (by simp)).trans (World.cell?_alloc_at _ _ _ _ (by simp))
  have q1 : w1.cell? ⟨w.heap.size + 1 + 1, 1, none⟩ = some (.int .u64 0) := (hc _ _ (by simp)).trans (World.cell?_alloc_at _ _ _ _ (by simp))
  have q2 : w1.cell? ⟨w.heap.size + 1 + 1, 2, none⟩ = some (.int .i64 0) := (hc _ _ (by simp)).trans (World.cell?_alloc_at _ _ _ _ (by simp))
  refine bodyPost_ret (v := .tuple #[.agg #[.int .i64 (max a.lv b.lv), .int .u64 (u (a.c ||| b.c)), .int .i64 (min a.ig b.ig)], .nilIface]) (by simp [results, Tryd.results40, go_sem, q0, q1, q2]) rfl ?_
  have hBw : Below w.heap.size w w1 := ((((Below.refl _ _).alloc (Nat.le_refl _) _).alloc (by simp) _).alloc (by simp; omega) _).trans (HB1.out.mono (by simp; omega))
  clear hc hf HB1
  exact ⟨rfl, by go_grown⟩

set_option maxRecDepth 100000 in
set_option maxHeartbeats 2000000 in
theorem of_bad (k0 k1 k2 : Nat) (a b : Lab) (w : World) (h : ¬ (okL a = true ∧ okL b = true)) :
    Calls Tryd.prog 40 #[.agg #[.func (.func k0) #[] #[], .func (.func k1) #[] #[], .func (.func k2) #[] #[]], .agg #[.int .i64 a.lv, .int .u64 (u a.c), .int .i64 a.ig, .int .i64 b.lv, .int .u64 (u b.c), .int .i64 b.ig]] w
      fun e w' => ∃ x : Lab, e = .returned (.tuple #[.agg #[.int .i64 0, .int .u64 0, .int .i64 0], .iface 72 (.agg #[.int .i64 x.lv, .int .u64 (u x.c), .int .i64 x.ig])]) ∧ Below w.heap.size w w' := by
  have HH := Lib.hid h
  clear h
  go_enter Tryd.func40, Tryd.ntmps40
  go_wp2_with fail
  refine (checked_bad a b _ HH.out).mono ?_
  rintro e w1 ⟨x, rfl, hB1⟩
  obtain ⟨hc, hf⟩ := below_cell hB1
  have HB1 := Lib.hid hB1
  clear hB1
  go_wp2
  have q0 : w1.cell? ⟨w.heap.size + 1 + 1, 0, none⟩ = some (.int .i64 0) := (hc _ _ (by simp)).trans (World.cell?_alloc_at _ _ _ _ (by simp))
  have q1 : w1.cell? ⟨w.heap.size + 1 + 1, 1, none⟩ = some (.int .u64 0) := (hc _ _ (by simp)).trans (World.cell?_alloc_at _ _ _ _ (by simp))
  have q2 : w1.cell? ⟨w.heap.size + 1 + 1, 2, none⟩ = some (.int .i64 0) := (hc _ _ (by simp)).trans (World.cell?_alloc_at _ _ _ _ (by simp))
  refine bodyPost_ret (v := .tuple #[.agg #[.int .i64 0, .int .u64 0, .int .i64 0], .iface 72 (.agg #[.int .i64 x.lv, .int .u64 (u x.c), .int .i64 x.ig])]) (by simp [results, Tryd.results40, go_sem, q0, q1, q2]) rfl ?_
  have hBw : Below w.heap.size w w1 := ((((Below.refl _ _).alloc (Nat.le_refl _) _).alloc (by simp) _).alloc (by simp; omega) _).trans (HB1.out.mono (by simp; omega))
  clear hc hf HB1
  exact ⟨x, rfl, by go_grown⟩
end Go.Proofs.YtmbafllkiofhnaaDoor
