/-
  THE WALKS OF PACKAGE plimsollref02: Right, Under, Compare.
-/
import Derived.Test.YtbggaijjgnjknaaDoorRefA
import Derived.Test.YtbggaijjgnjknaaDoorLgP
namespace Go.Proofs.YtbggaijjgnjknaaDoor
open Go.RowKit

attribute [local go_sem] u_and u_or u_andNot u_add u_sub u_bit u_eq_zero u_beq

theorem rRight_any (a : Lab) (w : World) :
    Calls Tryd.prog 33 #[.agg #[.int .i64 a.lv, .int .u64 (u a.c), .int .i64 a.ig]] w fun e w' => e = .returned (.bool (okL a)) ∧ Below w.heap.size w w' := by
  by_cases h1 : 0 ≤ a.lv
  · by_cases h2 : a.lv ≤ 15
    · by_cases h3 : 0 ≤ a.ig
      · by_cases h4 : a.ig ≤ 7
        · have HK := Lib.hid (okL_iff.2 ⟨h1, h2, h3, h4⟩)
          go_enter Tryd.func33, Tryd.ntmps33
          go_wp2
          go_ret
          rw [HK.out]
          exact ⟨rfl, (Below.refl _ _).alloc (Nat.le_refl _) _⟩
        · have HK := Lib.hid (okL_no (a := a) (by omega))
          go_enter Tryd.func33, Tryd.ntmps33
          go_wp2
          go_ret
          rw [HK.out]
          exact ⟨rfl, (Below.refl _ _).alloc (Nat.le_refl _) _⟩
      · have HK := Lib.hid (okL_no (a := a) (by omega))
        go_enter Tryd.func33, Tryd.ntmps33
        go_wp2
        go_ret
        rw [HK.out]
        exact ⟨rfl, (Below.refl _ _).alloc (Nat.le_refl _) _⟩
    · have HK := Lib.hid (okL_no (a := a) (by omega))
      go_enter Tryd.func33, Tryd.ntmps33
      go_wp2
      go_ret
      rw [HK.out]
      exact ⟨rfl, (Below.refl _ _).alloc (Nat.le_refl _) _⟩
  · have HK := Lib.hid (okL_no (a := a) (by omega))
    go_enter Tryd.func33, Tryd.ntmps33
    go_wp2
    go_ret
    rw [HK.out]
    exact ⟨rfl, (Below.refl _ _).alloc (Nat.le_refl _) _⟩
theorem rRightIs {a : Lab} {r : Bool} (h : okL a = r) (W : World) : Calls Tryd.prog 33 #[.agg #[.int .i64 a.lv, .int .u64 (u a.c), .int .i64 a.ig]] W fun e w' => e = .returned (.bool r) ∧ Below W.heap.size W w' := by rw [← h]; exact rRight_any a W
/-- the arguments' boxes and the result's block, whatever has been made since -/
theorem eqlIs {a b : Lab} {r : Bool} (h : eqL a b = r) : ∀ W, (binOp .eql 25 (.agg #[.int .i64 a.lv, .int .u64 (u a.c), .int .i64 a.ig]) (.agg #[.int .i64 b.lv, .int .u64 (u b.c), .int .i64 b.ig])).run Tryd.prog W = .ok (.bool r) W := fun W => by rw [← h]; exact eql_lab a b W
def RRightIs (a : Lab) (r : Bool) : Prop := ∀ W, Calls Tryd.prog 33 #[.agg #[.int .i64 a.lv, .int .u64 (u a.c), .int .i64 a.ig]] W fun e w' => e = .returned (.bool r) ∧ Below W.heap.size W w'
def RSubIs (x y : BitVec 64) (r : Bool) : Prop := ∀ W, Calls Tryd.prog 56 #[.int .u64 (u x), .int .u64 (u y)] W fun e w' => e = .returned (.bool r) ∧ W = w'
theorem rSubIs {x y : BitVec 64} {r : Bool} (h : sub x y = r) : RSubIs x y r := fun W => by rw [← h]; exact rSub_any x y W
set_option maxHeartbeats 4000000 in
theorem rUnder_1 (a b : Lab) (w : World) (h0 : RRightIs a false) :
    Calls Tryd.prog 42 #[.agg #[.int .i64 a.lv, .int .u64 (u a.c), .int .i64 a.ig], .agg #[.int .i64 b.lv, .int .u64 (u b.c), .int .i64 b.ig]] w fun e w' => e = .returned (.bool false) ∧ Below w.heap.size w w' := by
  have H0 := Lib.hid h0
  clear h0
  have HB := Lib.hid (Below.refl w.heap.size w)
  go_enter Tryd.func42, Tryd.ntmps42
  go_wp2_with fail
  refine (H0.out _).mono ?_
  rintro e w1 ⟨rfl, hB⟩
  (have HBn : Below w.heap.size w w1 := below_lift (by (first | exact HB.out | exact HB.out.drew | exact HB.out.alloc HB.out.size _ | exact (HB.out.alloc HB.out.size _).drew | exact (HB.out.alloc HB.out.size _).alloc (Nat.le_trans HB.out.size (by simp)) _ | exact ((HB.out.alloc HB.out.size _).alloc (Nat.le_trans HB.out.size (by simp)) _).alloc (Nat.le_trans HB.out.size (by simp; omega)) _)) hB; obtain ⟨hc, hf⟩ := below_cell hB; have zz := hB.size; (try simp at zz); have HB := Lib.hid HBn; clear HBn hB)
  have k0 : w.heap.size < w1.heap.size := by omega
  have m0 : w.heap.size < w1.heap.size + 1 := by omega
  have k1 : w.heap.size + 1 < w1.heap.size := by omega
  have m1 : w.heap.size + 1 < w1.heap.size + 1 := by omega
  go_wp2_with fail
  go_ret
  exact ⟨rfl, by (first | exact HB.out | exact HB.out.drew | exact HB.out.alloc HB.out.size _ | exact (HB.out.alloc HB.out.size _).drew | exact (HB.out.alloc HB.out.size _).alloc (Nat.le_trans HB.out.size (by simp)) _ | exact ((HB.out.alloc HB.out.size _).alloc (Nat.le_trans HB.out.size (by simp)) _).alloc (Nat.le_trans HB.out.size (by simp; omega)) _)⟩
set_option maxHeartbeats 4000000 in
theorem rUnder_2 (a b : Lab) (w : World) (h0 : RRightIs a true) (h1 : RRightIs b false) :
    Calls Tryd.prog 42 #[.agg #[.int .i64 a.lv, .int .u64 (u a.c), .int .i64 a.ig], .agg #[.int .i64 b.lv, .int .u64 (u b.c), .int .i64 b.ig]] w fun e w' => e = .returned (.bool false) ∧ Below w.heap.size w w' := by
  have H0 := Lib.hid h0
  clear h0
  have H1 := Lib.hid h1
  clear h1
  have HB := Lib.hid (Below.refl w.heap.size w)
  go_enter Tryd.func42, Tryd.ntmps42
  go_wp2_with fail
  refine (H0.out _).mono ?_
  rintro e w1 ⟨rfl, hB⟩
  (have HBn : Below w.heap.size w w1 := below_lift (by (first | exact HB.out | exact HB.out.drew | exact HB.out.alloc HB.out.size _ | exact (HB.out.alloc HB.out.size _).drew | exact (HB.out.alloc HB.out.size _).alloc (Nat.le_trans HB.out.size (by simp)) _ | exact ((HB.out.alloc HB.out.size _).alloc (Nat.le_trans HB.out.size (by simp)) _).alloc (Nat.le_trans HB.out.size (by simp; omega)) _)) hB; obtain ⟨hc, hf⟩ := below_cell hB; have zz := hB.size; (try simp at zz); have HB := Lib.hid HBn; clear HBn hB)
  have k0 : w.heap.size < w1.heap.size := by omega
  have m0 : w.heap.size < w1.heap.size + 1 := by omega
  have k1 : w.heap.size + 1 < w1.heap.size := by omega
  have m1 : w.heap.size + 1 < w1.heap.size + 1 := by omega
  go_wp2_with fail
  refine (H1.out _).mono ?_
  rintro e w2 ⟨rfl, hB⟩
  (have HBn : Below w.heap.size w w2 := below_lift (by (first | exact HB.out | exact HB.out.drew | exact HB.out.alloc HB.out.size _ | exact (HB.out.alloc HB.out.size _).drew | exact (HB.out.alloc HB.out.size _).alloc (Nat.le_trans HB.out.size (by simp)) _ | exact ((HB.out.alloc HB.out.size _).alloc (Nat.le_trans HB.out.size (by simp)) _).alloc (Nat.le_trans HB.out.size (by simp; omega)) _)) hB; obtain ⟨hc, hf⟩ := below_cell hB; have zz := hB.size; (try simp at zz); have HB := Lib.hid HBn; clear HBn hB)
  have k0 : w.heap.size < w2.heap.size := by omega
  have m0 : w.heap.size < w2.heap.size + 1 := by omega
  have k1 : w.heap.size + 1 < w2.heap.size := by omega
  have m1 : w.heap.size + 1 < w2.heap.size + 1 := by omega
  go_wp2_with fail
  go_ret
  exact ⟨rfl, by (first | exact HB.out | exact HB.out.drew | exact HB.out.alloc HB.out.size _ | exact (HB.out.alloc HB.out.size _).drew | exact (HB.out.alloc HB.out.size _).alloc (Nat.le_trans HB.out.size (by simp)) _ | exact ((HB.out.alloc HB.out.size _).alloc (Nat.le_trans HB.out.size (by simp)) _).alloc (Nat.le_trans HB.out.size (by simp; omega)) _)⟩
set_option maxHeartbeats 4000000 in
theorem rUnder_3 (a b : Lab) (w : World) (h0 : RRightIs a true) (h1 : RRightIs b true) (h2 : ¬ a.lv ≤ b.lv) :
    Calls Tryd.prog 42 #[.agg #[.int .i64 a.lv, .int .u64 (u a.c), .int .i64 a.ig], .agg #[.int .i64 b.lv, .int .u64 (u b.c), .int .i64 b.ig]] w fun e w' => e = .returned (.bool false) ∧ Below w.heap.size w w' := by
  have H0 := Lib.hid h0
  clear h0
  have H1 := Lib.hid h1
  clear h1
  have HB := Lib.hid (Below.refl w.heap.size w)
  go_enter Tryd.func42, Tryd.ntmps42
  go_wp2_with fail
  refine (H0.out _).mono ?_
  rintro e w1 ⟨rfl, hB⟩
  (have HBn : Below w.heap.size w w1 := below_lift (by (first | exact HB.out | exact HB.out.drew | exact HB.out.alloc HB.out.size _ | exact (HB.out.alloc HB.out.size _).drew | exact (HB.out.alloc HB.out.size _).alloc (Nat.le_trans HB.out.size (by simp)) _ | exact ((HB.out.alloc HB.out.size _).alloc (Nat.le_trans HB.out.size (by simp)) _).alloc (Nat.le_trans HB.out.size (by simp; omega)) _)) hB; obtain ⟨hc, hf⟩ := below_cell hB; have zz := hB.size; (try simp at zz); have HB := Lib.hid HBn; clear HBn hB)
  have k0 : w.heap.size < w1.heap.size := by omega
  have m0 : w.heap.size < w1.heap.size + 1 := by omega
  have k1 : w.heap.size + 1 < w1.heap.size := by omega
  have m1 : w.heap.size + 1 < w1.heap.size + 1 := by omega
  go_wp2_with fail
  refine (H1.out _).mono ?_
  rintro e w2 ⟨rfl, hB⟩
  (have HBn : Below w.heap.size w w2 := below_lift (by (first | exact HB.out | exact HB.out.drew | exact HB.out.alloc HB.out.size _ | exact (HB.out.alloc HB.out.size _).drew | exact (HB.out.alloc HB.out.size _).alloc (Nat.le_trans HB.out.size (by simp)) _ | exact ((HB.out.alloc HB.out.size _).alloc (Nat.le_trans HB.out.size (by simp)) _).alloc (Nat.le_trans HB.out.size (by simp; omega)) _)) hB; obtain ⟨hc, hf⟩ := below_cell hB; have zz := hB.size; (try simp at zz); have HB := Lib.hid HBn; clear HBn hB)
  have k0 : w.heap.size < w2.heap.size := by omega
  have m0 : w.heap.size < w2.heap.size + 1 := by omega
  have k1 : w.heap.size + 1 < w2.heap.size := by omega
  have m1 : w.heap.size + 1 < w2.heap.size + 1 := by omega
  go_wp2_with fail
  go_ret
  exact ⟨rfl, by (first | exact HB.out | exact HB.out.drew | exact HB.out.alloc HB.out.size _ | exact (HB.out.alloc HB.out.size _).drew | exact (HB.out.alloc HB.out.size _).alloc (Nat.le_trans HB.out.size (by simp)) _ | exact ((HB.out.alloc HB.out.size _).alloc (Nat.le_trans HB.out.size (by simp)) _).alloc (Nat.le_trans HB.out.size (by simp; omega)) _)⟩
set_option maxHeartbeats 4000000 in
theorem rUnder_4 (a b : Lab) (w : World) (h0 : RRightIs a true) (h1 : RRightIs b true) (h2 : a.lv ≤ b.lv) (h3 : RSubIs a.c b.c false) :
    Calls Tryd.prog 42 #[.agg #[.int .i64 a.lv, .int .u64 (u a.c), .int .i64 a.ig], .agg #[.int .i64 b.lv, .int .u64 (u b.c), .int .i64 b.ig]] w fun e w' => e = .returned (.bool false) ∧ Below w.heap.size w w' := by
  have H0 := Lib.hid h0
  clear h0
  have H1 := Lib.hid h1
  clear h1
  have H3 := Lib.hid h3
  clear h3
  have HB := Lib.hid (Below.refl w.heap.size w)
  go_enter Tryd.func42, Tryd.ntmps42
  go_wp2_with fail
  refine (H0.out _).mono ?_
  rintro e w1 ⟨rfl, hB⟩
  (have HBn : Below w.heap.size w w1 := below_lift (by (first | exact HB.out | exact HB.out.drew | exact HB.out.alloc HB.out.size _ | exact (HB.out.alloc HB.out.size _).drew | exact (HB.out.alloc HB.out.size _).alloc (Nat.le_trans HB.out.size (by simp)) _ | exact ((HB.out.alloc HB.out.size _).alloc (Nat.le_trans HB.out.size (by simp)) _).alloc (Nat.le_trans HB.out.size (by simp; omega)) _)) hB; obtain ⟨hc, hf⟩ := below_cell hB; have zz := hB.size; (try simp at zz); have HB := Lib.hid HBn; clear HBn hB)
  have k0 : w.heap.size < w1.heap.size := by omega
  have m0 : w.heap.size < w1.heap.size + 1 := by omega
  have k1 : w.heap.size + 1 < w1.heap.size := by omega
  have m1 : w.heap.size + 1 < w1.heap.size + 1 := by omega
  go_wp2_with fail
  refine (H1.out _).mono ?_
  rintro e w2 ⟨rfl, hB⟩
  (have HBn : Below w.heap.size w w2 := below_lift (by (first | exact HB.out | exact HB.out.drew | exact HB.out.alloc HB.out.size _ | exact (HB.out.alloc HB.out.size _).drew | exact (HB.out.alloc HB.out.size _).alloc (Nat.le_trans HB.out.size (by simp)) _ | exact ((HB.out.alloc HB.out.size _).alloc (Nat.le_trans HB.out.size (by simp)) _).alloc (Nat.le_trans HB.out.size (by simp; omega)) _)) hB; obtain ⟨hc, hf⟩ := below_cell hB; have zz := hB.size; (try simp at zz); have HB := Lib.hid HBn; clear HBn hB)
  have k0 : w.heap.size < w2.heap.size := by omega
  have m0 : w.heap.size < w2.heap.size + 1 := by omega
  have k1 : w.heap.size + 1 < w2.heap.size := by omega
  have m1 : w.heap.size + 1 < w2.heap.size + 1 := by omega
  go_wp2_with fail
  refine (H3.out _).mono ?_
  rintro e w9 ⟨rfl, rfl⟩
  go_wp2_with fail
  go_ret
  exact ⟨rfl, by (first | exact HB.out | exact HB.out.drew | exact HB.out.alloc HB.out.size _ | exact (HB.out.alloc HB.out.size _).drew | exact (HB.out.alloc HB.out.size _).alloc (Nat.le_trans HB.out.size (by simp)) _ | exact ((HB.out.alloc HB.out.size _).alloc (Nat.le_trans HB.out.size (by simp)) _).alloc (Nat.le_trans HB.out.size (by simp; omega)) _)⟩
set_option maxHeartbeats 4000000 in
theorem rUnder_5 (a b : Lab) (w : World) (h0 : RRightIs a true) (h1 : RRightIs b true) (h2 : a.lv ≤ b.lv) (h3 : RSubIs a.c b.c true) (h4 : decide (b.ig ≤ a.ig) = false) :
    Calls Tryd.prog 42 #[.agg #[.int .i64 a.lv, .int .u64 (u a.c), .int .i64 a.ig], .agg #[.int .i64 b.lv, .int .u64 (u b.c), .int .i64 b.ig]] w fun e w' => e = .returned (.bool false) ∧ Below w.heap.size w w' := by
  have H0 := Lib.hid h0
  clear h0
  have H1 := Lib.hid h1
  clear h1
  have H3 := Lib.hid h3
  clear h3
  have HB := Lib.hid (Below.refl w.heap.size w)
  go_enter Tryd.func42, Tryd.ntmps42
  go_wp2_with fail
  refine (H0.out _).mono ?_
  rintro e w1 ⟨rfl, hB⟩
  (have HBn : Below w.heap.size w w1 := below_lift (by (first | exact HB.out | exact HB.out.drew | exact HB.out.alloc HB.out.size _ | exact (HB.out.alloc HB.out.size _).drew | exact (HB.out.alloc HB.out.size _).alloc (Nat.le_trans HB.out.size (by simp)) _ | exact ((HB.out.alloc HB.out.size _).alloc (Nat.le_trans HB.out.size (by simp)) _).alloc (Nat.le_trans HB.out.size (by simp; omega)) _)) hB; obtain ⟨hc, hf⟩ := below_cell hB; have zz := hB.size; (try simp at zz); have HB := Lib.hid HBn; clear HBn hB)
  have k0 : w.heap.size < w1.heap.size := by omega
  have m0 : w.heap.size < w1.heap.size + 1 := by omega
  have k1 : w.heap.size + 1 < w1.heap.size := by omega
  have m1 : w.heap.size + 1 < w1.heap.size + 1 := by omega
  go_wp2_with fail
  refine (H1.out _).mono ?_
  rintro e w2 ⟨rfl, hB⟩
  (have HBn : Below w.heap.size w w2 := below_lift (by (first | exact HB.out | exact HB.out.drew | exact HB.out.alloc HB.out.size _ | exact (HB.out.alloc HB.out.size _).drew | exact (HB.out.alloc HB.out.size _).alloc (Nat.le_trans HB.out.size (by simp)) _ | exact ((HB.out.alloc HB.out.size _).alloc (Nat.le_trans HB.out.size (by simp)) _).alloc (Nat.le_trans HB.out.size (by simp; omega)) _)) hB; obtain ⟨hc, hf⟩ := below_cell hB; have zz := hB.size; (try simp at zz); have HB := Lib.hid HBn; clear HBn hB)
  have k0 : w.heap.size < w2.heap.size := by omega
  have m0 : w.heap.size < w2.heap.size + 1 := by omega
  have k1 : w.heap.size + 1 < w2.heap.size := by omega
  have m1 : w.heap.size + 1 < w2.heap.size + 1 := by omega
  go_wp2_with fail
  refine (H3.out _).mono ?_
  rintro e w9 ⟨rfl, rfl⟩
  go_wp2_with fail
  go_ret
  exact ⟨rfl, by (first | exact HB.out | exact HB.out.drew | exact HB.out.alloc HB.out.size _ | exact (HB.out.alloc HB.out.size _).drew | exact (HB.out.alloc HB.out.size _).alloc (Nat.le_trans HB.out.size (by simp)) _ | exact ((HB.out.alloc HB.out.size _).alloc (Nat.le_trans HB.out.size (by simp)) _).alloc (Nat.le_trans HB.out.size (by simp; omega)) _)⟩
set_option maxHeartbeats 4000000 in
theorem rUnder_6 (a b : Lab) (w : World) (h0 : RRightIs a true) (h1 : RRightIs b true) (h2 : a.lv ≤ b.lv) (h3 : RSubIs a.c b.c true) (h4 : b.ig ≤ a.ig) :
    Calls Tryd.prog 42 #[.agg #[.int .i64 a.lv, .int .u64 (u a.c), .int .i64 a.ig], .agg #[.int .i64 b.lv, .int .u64 (u b.c), .int .i64 b.ig]] w fun e w' => e = .returned (.bool true) ∧ Below w.heap.size w w' := by
  have H0 := Lib.hid h0
  clear h0
  have H1 := Lib.hid h1
  clear h1
  have H3 := Lib.hid h3
  clear h3
  have HB := Lib.hid (Below.refl w.heap.size w)
  go_enter Tryd.func42, Tryd.ntmps42
  go_wp2_with fail
  refine (H0.out _).mono ?_
  rintro e w1 ⟨rfl, hB⟩
  (have HBn : Below w.heap.size w w1 := below_lift (by (first | exact HB.out | exact HB.out.drew | exact HB.out.alloc HB.out.size _ | exact (HB.out.alloc HB.out.size _).drew | exact (HB.out.alloc HB.out.size _).alloc (Nat.le_trans HB.out.size (by simp)) _ | exact ((HB.out.alloc HB.out.size _).alloc (Nat.le_trans HB.out.size (by simp)) _).alloc (Nat.le_trans HB.out.size (by simp; omega)) _)) hB; obtain ⟨hc, hf⟩ := below_cell hB; have zz := hB.size; (try simp at zz); have HB := Lib.hid HBn; clear HBn hB)
  have k0 : w.heap.size < w1.heap.size := by omega
  have m0 : w.heap.size < w1.heap.size + 1 := by omega
  have k1 : w.heap.size + 1 < w1.heap.size := by omega
  have m1 : w.heap.size + 1 < w1.heap.size + 1 := by omega
  go_wp2_with fail
  refine (H1.out _).mono ?_
  rintro e w2 ⟨rfl, hB⟩
  (have HBn : Below w.heap.size w w2 := below_lift (by (first | exact HB.out | exact HB.out.drew | exact HB.out.alloc HB.out.size _ | exact (HB.out.alloc HB.out.size _).drew | exact (HB.out.alloc HB.out.size _).alloc (Nat.le_trans HB.out.size (by simp)) _ | exact ((HB.out.alloc HB.out.size _).alloc (Nat.le_trans HB.out.size (by simp)) _).alloc (Nat.le_trans HB.out.size (by simp; omega)) _)) hB; obtain ⟨hc, hf⟩ := below_cell hB; have zz := hB.size; (try simp at zz); have HB := Lib.hid HBn; clear HBn hB)
  have k0 : w.heap.size < w2.heap.size := by omega
  have m0 : w.heap.size < w2.heap.size + 1 := by omega
  have k1 : w.heap.size + 1 < w2.heap.size := by omega
  have m1 : w.heap.size + 1 < w2.heap.size + 1 := by omega
  go_wp2_with fail
  refine (H3.out _).mono ?_
  rintro e w9 ⟨rfl, rfl⟩
  go_wp2_with fail
  go_ret
  exact ⟨rfl, by (first | exact HB.out | exact HB.out.drew | exact HB.out.alloc HB.out.size _ | exact (HB.out.alloc HB.out.size _).drew | exact (HB.out.alloc HB.out.size _).alloc (Nat.le_trans HB.out.size (by simp)) _ | exact ((HB.out.alloc HB.out.size _).alloc (Nat.le_trans HB.out.size (by simp)) _).alloc (Nat.le_trans HB.out.size (by simp; omega)) _)⟩
theorem rUnder_any (a b : Lab) (w : World) : Calls Tryd.prog 42 #[.agg #[.int .i64 a.lv, .int .u64 (u a.c), .int .i64 a.ig], .agg #[.int .i64 b.lv, .int .u64 (u b.c), .int .i64 b.ig]] w fun e w' => e = .returned (.bool (underL a b)) ∧ Below w.heap.size w w' := by
  have no : ∀ {p : Prop}, (underL a b = true → p) → ¬ p → underL a b = false := fun h k => nbool fun e => k (h e)
  by_cases ha : okL a = true
  · by_cases hb : okL b = true
    · by_cases hl : a.lv ≤ b.lv
      · by_cases hs : sub a.c b.c = true
        · by_cases hg : b.ig ≤ a.ig
          · rw [underL_iff.2 ⟨ha, hb, le3_iff.2 ⟨hl, hg, hs⟩⟩]
            exact rUnder_6 a b w (rRightIs ha) (rRightIs hb) hl (rSubIs hs) hg
          · rw [no (fun e => (le3_iff.1 (underL_iff.1 e).2.2).2.1) hg]
            exact rUnder_5 a b w (rRightIs ha) (rRightIs hb) hl (rSubIs hs) (decide_eq_false hg)
        · rw [no (fun e => (le3_iff.1 (underL_iff.1 e).2.2).2.2) hs]
          exact rUnder_4 a b w (rRightIs ha) (rRightIs hb) hl (rSubIs (nbool hs))
      · rw [no (fun e => (le3_iff.1 (underL_iff.1 e).2.2).1) hl]
        exact rUnder_3 a b w (rRightIs ha) (rRightIs hb) hl
    · rw [no (fun e => (underL_iff.1 e).2.1) hb]
      exact rUnder_2 a b w (rRightIs ha) (rRightIs (nbool hb))
  · rw [no (fun e => (underL_iff.1 e).1) ha]
    exact rUnder_1 a b w (rRightIs (nbool ha))
set_option maxHeartbeats 4000000 in
theorem rComp_0 (a b : Lab) (w : World) (h0 : ∀ W, (binOp .eql 25 (.agg #[.int .i64 a.lv, .int .u64 (u a.c), .int .i64 a.ig]) (.agg #[.int .i64 b.lv, .int .u64 (u b.c), .int .i64 b.ig])).run Tryd.prog W = .ok (.bool true) W) :
    Calls Tryd.prog 41 #[.agg #[.int .i64 a.lv, .int .u64 (u a.c), .int .i64 a.ig], .agg #[.int .i64 b.lv, .int .u64 (u b.c), .int .i64 b.ig]] w fun e w' => e = .returned (.int .i64 (0)) ∧ Below w.heap.size w w' := by
  have HB := Lib.hid (Below.refl w.heap.size w)
  go_enter Tryd.func41, Tryd.ntmps41
  go_wp2_with fail
  go_ret
  exact ⟨rfl, by (first | exact HB.out | exact HB.out.drew | exact HB.out.alloc HB.out.size _ | exact (HB.out.alloc HB.out.size _).drew | exact (HB.out.alloc HB.out.size _).alloc (Nat.le_trans HB.out.size (by simp)) _ | exact ((HB.out.alloc HB.out.size _).alloc (Nat.le_trans HB.out.size (by simp)) _).alloc (Nat.le_trans HB.out.size (by simp; omega)) _)⟩
set_option maxHeartbeats 4000000 in
theorem rComp_1 (a b : Lab) (w : World) (h0 : ∀ W, (binOp .eql 25 (.agg #[.int .i64 a.lv, .int .u64 (u a.c), .int .i64 a.ig]) (.agg #[.int .i64 b.lv, .int .u64 (u b.c), .int .i64 b.ig])).run Tryd.prog W = .ok (.bool false) W) (h1 : a.lv < b.lv) :
    Calls Tryd.prog 41 #[.agg #[.int .i64 a.lv, .int .u64 (u a.c), .int .i64 a.ig], .agg #[.int .i64 b.lv, .int .u64 (u b.c), .int .i64 b.ig]] w fun e w' => e = .returned (.int .i64 (-1)) ∧ Below w.heap.size w w' := by
  have HB := Lib.hid (Below.refl w.heap.size w)
  go_enter Tryd.func41, Tryd.ntmps41
  go_wp2_with fail
  go_ret
  exact ⟨rfl, by (first | exact HB.out | exact HB.out.drew | exact HB.out.alloc HB.out.size _ | exact (HB.out.alloc HB.out.size _).drew | exact (HB.out.alloc HB.out.size _).alloc (Nat.le_trans HB.out.size (by simp)) _ | exact ((HB.out.alloc HB.out.size _).alloc (Nat.le_trans HB.out.size (by simp)) _).alloc (Nat.le_trans HB.out.size (by simp; omega)) _)⟩
set_option maxHeartbeats 4000000 in
theorem rComp_2 (a b : Lab) (w : World) (h0 : ∀ W, (binOp .eql 25 (.agg #[.int .i64 a.lv, .int .u64 (u a.c), .int .i64 a.ig]) (.agg #[.int .i64 b.lv, .int .u64 (u b.c), .int .i64 b.ig])).run Tryd.prog W = .ok (.bool false) W) (h1 : ¬ a.lv < b.lv) (h2 : (a.lv == b.lv) = false) :
    Calls Tryd.prog 41 #[.agg #[.int .i64 a.lv, .int .u64 (u a.c), .int .i64 a.ig], .agg #[.int .i64 b.lv, .int .u64 (u b.c), .int .i64 b.ig]] w fun e w' => e = .returned (.int .i64 (1)) ∧ Below w.heap.size w w' := by
  have HB := Lib.hid (Below.refl w.heap.size w)
  go_enter Tryd.func41, Tryd.ntmps41
  go_wp2_with fail
  go_ret
  exact ⟨rfl, by (first | exact HB.out | exact HB.out.drew | exact HB.out.alloc HB.out.size _ | exact (HB.out.alloc HB.out.size _).drew | exact (HB.out.alloc HB.out.size _).alloc (Nat.le_trans HB.out.size (by simp)) _ | exact ((HB.out.alloc HB.out.size _).alloc (Nat.le_trans HB.out.size (by simp)) _).alloc (Nat.le_trans HB.out.size (by simp; omega)) _)⟩
set_option maxHeartbeats 4000000 in
theorem rComp_3 (a b : Lab) (w : World) (h0 : ∀ W, (binOp .eql 25 (.agg #[.int .i64 a.lv, .int .u64 (u a.c), .int .i64 a.ig]) (.agg #[.int .i64 b.lv, .int .u64 (u b.c), .int .i64 b.ig])).run Tryd.prog W = .ok (.bool false) W) (h1 : ¬ a.lv < b.lv) (h2 : (a.lv == b.lv) = true) (h3 : u a.c < u b.c) :
    Calls Tryd.prog 41 #[.agg #[.int .i64 a.lv, .int .u64 (u a.c), .int .i64 a.ig], .agg #[.int .i64 b.lv, .int .u64 (u b.c), .int .i64 b.ig]] w fun e w' => e = .returned (.int .i64 (-1)) ∧ Below w.heap.size w w' := by
  have HB := Lib.hid (Below.refl w.heap.size w)
  go_enter Tryd.func41, Tryd.ntmps41
  go_wp2_with fail
  go_ret
  exact ⟨rfl, by (first | exact HB.out | exact HB.out.drew | exact HB.out.alloc HB.out.size _ | exact (HB.out.alloc HB.out.size _).drew | exact (HB.out.alloc HB.out.size _).alloc (Nat.le_trans HB.out.size (by simp)) _ | exact ((HB.out.alloc HB.out.size _).alloc (Nat.le_trans HB.out.size (by simp)) _).alloc (Nat.le_trans HB.out.size (by simp; omega)) _)⟩
set_option maxHeartbeats 4000000 in
theorem rComp_4 (a b : Lab) (w : World) (h0 : ∀ W, (binOp .eql 25 (.agg #[.int .i64 a.lv, .int .u64 (u a.c), .int .i64 a.ig]) (.agg #[.int .i64 b.lv, .int .u64 (u b.c), .int .i64 b.ig])).run Tryd.prog W = .ok (.bool false) W) (h1 : ¬ a.lv < b.lv) (h2 : (a.lv == b.lv) = true) (h3 : ¬ u a.c < u b.c) (h4 : (u a.c == u b.c) = false) :
    Calls Tryd.prog 41 #[.agg #[.int .i64 a.lv, .int .u64 (u a.c), .int .i64 a.ig], .agg #[.int .i64 b.lv, .int .u64 (u b.c), .int .i64 b.ig]] w fun e w' => e = .returned (.int .i64 (1)) ∧ Below w.heap.size w w' := by
  have HB := Lib.hid (Below.refl w.heap.size w)
  go_enter Tryd.func41, Tryd.ntmps41
  go_wp2_with fail
  go_ret
  exact ⟨rfl, by (first | exact HB.out | exact HB.out.drew | exact HB.out.alloc HB.out.size _ | exact (HB.out.alloc HB.out.size _).drew | exact (HB.out.alloc HB.out.size _).alloc (Nat.le_trans HB.out.size (by simp)) _ | exact ((HB.out.alloc HB.out.size _).alloc (Nat.le_trans HB.out.size (by simp)) _).alloc (Nat.le_trans HB.out.size (by simp; omega)) _)⟩
set_option maxHeartbeats 4000000 in
theorem rComp_5 (a b : Lab) (w : World) (h0 : ∀ W, (binOp .eql 25 (.agg #[.int .i64 a.lv, .int .u64 (u a.c), .int .i64 a.ig]) (.agg #[.int .i64 b.lv, .int .u64 (u b.c), .int .i64 b.ig])).run Tryd.prog W = .ok (.bool false) W) (h1 : ¬ a.lv < b.lv) (h2 : (a.lv == b.lv) = true) (h3 : ¬ u a.c < u b.c) (h4 : (u a.c == u b.c) = true) (h5 : a.ig < b.ig) :
    Calls Tryd.prog 41 #[.agg #[.int .i64 a.lv, .int .u64 (u a.c), .int .i64 a.ig], .agg #[.int .i64 b.lv, .int .u64 (u b.c), .int .i64 b.ig]] w fun e w' => e = .returned (.int .i64 (-1)) ∧ Below w.heap.size w w' := by
  have HB := Lib.hid (Below.refl w.heap.size w)
  go_enter Tryd.func41, Tryd.ntmps41
  go_wp2_with fail
  go_ret
  exact ⟨rfl, by (first | exact HB.out | exact HB.out.drew | exact HB.out.alloc HB.out.size _ | exact (HB.out.alloc HB.out.size _).drew | exact (HB.out.alloc HB.out.size _).alloc (Nat.le_trans HB.out.size (by simp)) _ | exact ((HB.out.alloc HB.out.size _).alloc (Nat.le_trans HB.out.size (by simp)) _).alloc (Nat.le_trans HB.out.size (by simp; omega)) _)⟩
set_option maxHeartbeats 4000000 in
theorem rComp_6 (a b : Lab) (w : World) (h0 : ∀ W, (binOp .eql 25 (.agg #[.int .i64 a.lv, .int .u64 (u a.c), .int .i64 a.ig]) (.agg #[.int .i64 b.lv, .int .u64 (u b.c), .int .i64 b.ig])).run Tryd.prog W = .ok (.bool false) W) (h1 : ¬ a.lv < b.lv) (h2 : (a.lv == b.lv) = true) (h3 : ¬ u a.c < u b.c) (h4 : (u a.c == u b.c) = true) (h5 : ¬ a.ig < b.ig) :
    Calls Tryd.prog 41 #[.agg #[.int .i64 a.lv, .int .u64 (u a.c), .int .i64 a.ig], .agg #[.int .i64 b.lv, .int .u64 (u b.c), .int .i64 b.ig]] w fun e w' => e = .returned (.int .i64 (1)) ∧ Below w.heap.size w w' := by
  have HB := Lib.hid (Below.refl w.heap.size w)
  go_enter Tryd.func41, Tryd.ntmps41
  go_wp2_with fail
  go_ret
  exact ⟨rfl, by (first | exact HB.out | exact HB.out.drew | exact HB.out.alloc HB.out.size _ | exact (HB.out.alloc HB.out.size _).drew | exact (HB.out.alloc HB.out.size _).alloc (Nat.le_trans HB.out.size (by simp)) _ | exact ((HB.out.alloc HB.out.size _).alloc (Nat.le_trans HB.out.size (by simp)) _).alloc (Nat.le_trans HB.out.size (by simp; omega)) _)⟩
theorem rCompare_any (a b : Lab) (w : World) : Calls Tryd.prog 41 #[.agg #[.int .i64 a.lv, .int .u64 (u a.c), .int .i64 a.ig], .agg #[.int .i64 b.lv, .int .u64 (u b.c), .int .i64 b.ig]] w fun e w' => e = .returned (.int .i64 (cmpL a b)) ∧ Below w.heap.size w w' := by
  by_cases hq : a = b
  · rw [cmpL_zero.2 ⟨by rw [hq], by rw [hq], by rw [hq]⟩]
    exact rComp_0 a b w (eqlIs (eqL_iff.2 hq))
  · have hE := eqlIs (nbool fun k => hq (eqL_iff.1 k))
    by_cases h1 : a.lv < b.lv
    · rw [cmpL_neg.2 (.inl h1)]; exact rComp_1 a b w hE h1
    · by_cases h2 : a.lv = b.lv
      · by_cases h3 : u a.c < u b.c
        · rw [cmpL_neg.2 (.inr ⟨h2, .inl h3⟩)]; exact rComp_3 a b w hE h1 (beq_iff_eq.2 h2) h3
        · by_cases h4 : u a.c = u b.c
          · by_cases h5 : a.ig < b.ig
            · rw [cmpL_neg.2 (.inr ⟨h2, .inr ⟨h4, h5⟩⟩)]; exact rComp_5 a b w hE h1 (beq_iff_eq.2 h2) h3 (beq_iff_eq.2 h4) h5
            · have h6 : a.ig ≠ b.ig := fun k => hq (Lab.ext' h2 (u_inj h4) k)
              rw [cmpL_pos.2 (.inr ⟨h2, .inr ⟨h4, by omega⟩⟩)]; exact rComp_6 a b w hE h1 (beq_iff_eq.2 h2) h3 (beq_iff_eq.2 h4) h5
          · rw [cmpL_pos.2 (.inr ⟨h2, .inl (by omega)⟩)]; exact rComp_4 a b w hE h1 (beq_iff_eq.2 h2) h3 (beq_false_of_ne h4)
      · rw [cmpL_pos.2 (.inl (by omega))]; exact rComp_2 a b w hE h1 (beq_false_of_ne h2)
end Go.Proofs.YtbggaijjgnjknaaDoor
