/-
  THE WALKS OF THE REFERENCES plimsollref02 (Right, Join, Under) and plimsollref12 (printed by wip/genceil.py).
-/
import Derived.Test.YtmbafllkiofhnaaDoorCeiD
import Derived.Test.YtmbafllkiofhnaaDoorRefA
namespace Go.Proofs.YtmbafllkiofhnaaDoor
open Go.RowKit

attribute [local go_sem] u_and u_or u_andNot u_add u_sub u_bit u_eq_zero u_beq

theorem or_add (x y : BitVec 64) : x + (y &&& ~~~x) = x ||| y := by
  rw [BitVec.add_eq_or_of_and_eq_zero _ _ (by ext k hk; simp; intro h _; simp [h])]
  ext k hk; simp; cases x[k] <;> simp
theorem rRight_any (a : Lab) (w : World) :
    Calls Tryd.prog 35 #[.agg #[.int .i64 a.lv, .int .u64 (u a.c), .int .i64 a.ig]] w fun e w' => e = .returned (.bool (okL a)) ∧ Below w.heap.size w w' := by
  by_cases h1 : 0 ≤ a.lv
  · by_cases h2 : a.lv ≤ 15
    · by_cases h3 : 0 ≤ a.ig
      · by_cases h4 : a.ig ≤ 7
        · have HK := Lib.hid (okL_iff.2 ⟨h1, h2, h3, h4⟩)
          go_enter Tryd.func35, Tryd.ntmps35
          go_wp2
          go_ret
          rw [HK.out]
          exact ⟨rfl, (Below.refl _ _).alloc (Nat.le_refl _) _⟩
        · have HK := Lib.hid (okL_no (a := a) (by omega))
          go_enter Tryd.func35, Tryd.ntmps35
          go_wp2
          go_ret
          rw [HK.out]
          exact ⟨rfl, (Below.refl _ _).alloc (Nat.le_refl _) _⟩
      · have HK := Lib.hid (okL_no (a := a) (by omega))
        go_enter Tryd.func35, Tryd.ntmps35
        go_wp2
        go_ret
        rw [HK.out]
        exact ⟨rfl, (Below.refl _ _).alloc (Nat.le_refl _) _⟩
    · have HK := Lib.hid (okL_no (a := a) (by omega))
      go_enter Tryd.func35, Tryd.ntmps35
      go_wp2
      go_ret
      rw [HK.out]
      exact ⟨rfl, (Below.refl _ _).alloc (Nat.le_refl _) _⟩
  · have HK := Lib.hid (okL_no (a := a) (by omega))
    go_enter Tryd.func35, Tryd.ntmps35
    go_wp2
    go_ret
    rw [HK.out]
    exact ⟨rfl, (Below.refl _ _).alloc (Nat.le_refl _) _⟩
def RRightIs (a : Lab) (r : Bool) : Prop := ∀ W, Calls Tryd.prog 35 #[.agg #[.int .i64 a.lv, .int .u64 (u a.c), .int .i64 a.ig]] W fun e w' => e = .returned (.bool r) ∧ Below W.heap.size W w'
theorem rRightIs {a : Lab} {r : Bool} (h : okL a = r) : RRightIs a r := fun W => by rw [← h]; exact rRight_any a W
set_option maxRecDepth 100000 in
set_option maxHeartbeats 4000000 in
theorem rJoin_1 (a b : Lab) (w : World) (h0 : RRightIs a false) :
    Calls Tryd.prog 34 #[.agg #[.int .i64 a.lv, .int .u64 (u a.c), .int .i64 a.ig], .agg #[.int .i64 b.lv, .int .u64 (u b.c), .int .i64 b.ig]] w (fun e w' => e = .returned (.tuple #[.agg #[.int .i64 0, .int .u64 0, .int .i64 0], .int .i64 20]) ∧ Below w.heap.size w w') := by
  have H0 := Lib.hid h0
  clear h0
  have HB := Lib.hid (Below.refl w.heap.size w)
  go_enter Tryd.func34, Tryd.ntmps34
  go_wp2_with fail
  refine (H0.out _).mono ?_
  rintro e w1 ⟨rfl, hB⟩
  replace HB := Lib.hid (below_call (w := w) (by repeat (first | exact HB.out | refine below_alloc ?_ _ | refine Below.drew ?_ | refine below_set ?_ (by omega) _)) hB)
  have z1 : w.heap.size ≤ w1.heap.size := HB.out.size
  have B2 : Hid (Blk w1 (w.heap.size + 1 + 1) 24 #[.int .i64 0, .int .u64 0, .int .i64 0]) := Lib.hid (Blk.after (by repeat (first | exact Blk.new' (by simp; done) | exact Blk.new' rfl | refine Blk.drew ?_ | refine Blk.alloc ?_ _)) hB)
  clear hB
  have p2_0 := B2.out.at_ (i := 0) (v := .int .i64 0) rfl
  have p2_1 := B2.out.at_ (i := 1) (v := .int .u64 0) rfl
  have p2_2 := B2.out.at_ (i := 2) (v := .int .i64 0) rfl
  have f2_0 := B2.out.frozen 0
  have f2_1 := B2.out.frozen 1
  have f2_2 := B2.out.frozen 2
  have k2_0 : w.heap.size + 1 + 1 < w1.heap.size := by have := B2.out.lt; omega
  go_wp2_with fail
  have R2 : Blk (((w1.setCell ⟨w.heap.size + 1 + 1, 0, none⟩ (.int .i64 0)).setCell ⟨w.heap.size + 1 + 1, 1, none⟩ (.int .u64 0)).setCell ⟨w.heap.size + 1 + 1, 2, none⟩ (.int .i64 0)) (w.heap.size + 1 + 1) 24 #[.int .i64 0, .int .u64 0, .int .i64 0] := (Blk.set' (u := .int .i64 0) (i := 2) (cs' := #[.int .i64 0, .int .u64 0, .int .i64 0]) (Blk.set' (u := .int .u64 0) (i := 1) (cs' := #[.int .i64 0, .int .u64 0, .int .i64 0]) (Blk.set' (u := .int .i64 0) (i := 0) (cs' := #[.int .i64 0, .int .u64 0, .int .i64 0]) B2.out rfl) rfl) rfl)
  have k2_0 := R2.at_ (i := 0) (v := .int .i64 0) rfl
  have k2_1 := R2.at_ (i := 1) (v := .int .u64 0) rfl
  have k2_2 := R2.at_ (i := 2) (v := .int .i64 0) rfl
  have HZ : Below w.heap.size w (((w1.setCell ⟨w.heap.size + 1 + 1, 0, none⟩ (.int .i64 0)).setCell ⟨w.heap.size + 1 + 1, 1, none⟩ (.int .u64 0)).setCell ⟨w.heap.size + 1 + 1, 2, none⟩ (.int .i64 0)) := (below_set (below_set (below_set HB.out (by omega) _) (by omega) _) (by omega) _)
  refine bodyPost_ret (v := .tuple #[.agg #[.int .i64 0, .int .u64 0, .int .i64 0], .int .i64 20]) (by simp [results, Tryd.results34, go_sem, k2_0, k2_1, k2_2]) rfl ⟨rfl, HZ⟩
set_option maxRecDepth 100000 in
set_option maxHeartbeats 4000000 in
theorem rJoin_2 (a b : Lab) (w : World) (h0 : RRightIs a true) (h1 : RRightIs b false) :
    Calls Tryd.prog 34 #[.agg #[.int .i64 a.lv, .int .u64 (u a.c), .int .i64 a.ig], .agg #[.int .i64 b.lv, .int .u64 (u b.c), .int .i64 b.ig]] w (fun e w' => e = .returned (.tuple #[.agg #[.int .i64 0, .int .u64 0, .int .i64 0], .int .i64 20]) ∧ Below w.heap.size w w') := by
  have H0 := Lib.hid h0
  clear h0
  have H1 := Lib.hid h1
  clear h1
  have HB := Lib.hid (Below.refl w.heap.size w)
  go_enter Tryd.func34, Tryd.ntmps34
  go_wp2_with fail
  refine (H0.out _).mono ?_
  rintro e w1 ⟨rfl, hB⟩
  replace HB := Lib.hid (below_call (w := w) (by repeat (first | exact HB.out | refine below_alloc ?_ _ | refine Below.drew ?_ | refine below_set ?_ (by omega) _)) hB)
  have z1 : w.heap.size ≤ w1.heap.size := HB.out.size
  have B1 : Hid (Blk w1 (w.heap.size + 1) 24 #[.int .i64 b.lv, .int .u64 (u b.c), .int .i64 b.ig]) := Lib.hid (Blk.after (by repeat (first | exact Blk.new' (by simp; done) | exact Blk.new' rfl | refine Blk.drew ?_ | refine Blk.alloc ?_ _)) hB)
  have B2 : Hid (Blk w1 (w.heap.size + 1 + 1) 24 #[.int .i64 0, .int .u64 0, .int .i64 0]) := Lib.hid (Blk.after (by repeat (first | exact Blk.new' (by simp; done) | exact Blk.new' rfl | refine Blk.drew ?_ | refine Blk.alloc ?_ _)) hB)
  clear hB
  have p1_0 := B1.out.at_ (i := 0) (v := .int .i64 b.lv) rfl
  have p1_1 := B1.out.at_ (i := 1) (v := .int .u64 (u b.c)) rfl
  have p1_2 := B1.out.at_ (i := 2) (v := .int .i64 b.ig) rfl
  have k1_0 : w.heap.size + 1 < w1.heap.size := by have := B1.out.lt; omega
  go_wp2_with fail
  refine (H1.out _).mono ?_
  rintro e w2 ⟨rfl, hB⟩
  replace HB := Lib.hid (below_call (w := w) (by repeat (first | exact HB.out | refine below_alloc ?_ _ | refine Below.drew ?_ | refine below_set ?_ (by omega) _)) hB)
  have z2 : w.heap.size ≤ w2.heap.size := HB.out.size
  replace B2 : Hid (Blk w2 (w.heap.size + 1 + 1) 24 #[.int .i64 0, .int .u64 0, .int .i64 0]) := Lib.hid (Blk.after (by repeat (first | exact B2.out | exact Blk.new' (by simp; done) | exact Blk.new' rfl | refine Blk.drew ?_ | refine Blk.alloc ?_ _)) hB)
  clear p1_0 p1_1 p1_2 k1_0
  clear hB
  have p2_0 := B2.out.at_ (i := 0) (v := .int .i64 0) rfl
  have p2_1 := B2.out.at_ (i := 1) (v := .int .u64 0) rfl
  have p2_2 := B2.out.at_ (i := 2) (v := .int .i64 0) rfl
  have f2_0 := B2.out.frozen 0
  have f2_1 := B2.out.frozen 1
  have f2_2 := B2.out.frozen 2
  have k2_0 : w.heap.size + 1 + 1 < w2.heap.size := by have := B2.out.lt; omega
  go_wp2_with fail
  have R2 : Blk (((w2.setCell ⟨w.heap.size + 1 + 1, 0, none⟩ (.int .i64 0)).setCell ⟨w.heap.size + 1 + 1, 1, none⟩ (.int .u64 0)).setCell ⟨w.heap.size + 1 + 1, 2, none⟩ (.int .i64 0)) (w.heap.size + 1 + 1) 24 #[.int .i64 0, .int .u64 0, .int .i64 0] := (Blk.set' (u := .int .i64 0) (i := 2) (cs' := #[.int .i64 0, .int .u64 0, .int .i64 0]) (Blk.set' (u := .int .u64 0) (i := 1) (cs' := #[.int .i64 0, .int .u64 0, .int .i64 0]) (Blk.set' (u := .int .i64 0) (i := 0) (cs' := #[.int .i64 0, .int .u64 0, .int .i64 0]) B2.out rfl) rfl) rfl)
  have k2_0 := R2.at_ (i := 0) (v := .int .i64 0) rfl
  have k2_1 := R2.at_ (i := 1) (v := .int .u64 0) rfl
  have k2_2 := R2.at_ (i := 2) (v := .int .i64 0) rfl
  have HZ : Below w.heap.size w (((w2.setCell ⟨w.heap.size + 1 + 1, 0, none⟩ (.int .i64 0)).setCell ⟨w.heap.size + 1 + 1, 1, none⟩ (.int .u64 0)).setCell ⟨w.heap.size + 1 + 1, 2, none⟩ (.int .i64 0)) := (below_set (below_set (below_set HB.out (by omega) _) (by omega) _) (by omega) _)
  refine bodyPost_ret (v := .tuple #[.agg #[.int .i64 0, .int .u64 0, .int .i64 0], .int .i64 20]) (by simp [results, Tryd.results34, go_sem, k2_0, k2_1, k2_2]) rfl ⟨rfl, HZ⟩
set_option maxRecDepth 100000 in
set_option maxHeartbeats 4000000 in
theorem rJoin_3 (a b : Lab) (m n : Int) (w : World) (h0 : RRightIs a true) (h1 : RRightIs b true) (h2 : (if a.lv < b.lv then b.lv else a.lv) = m) (h3 : (if b.ig < a.ig then b.ig else a.ig) = n) :
    Calls Tryd.prog 34 #[.agg #[.int .i64 a.lv, .int .u64 (u a.c), .int .i64 a.ig], .agg #[.int .i64 b.lv, .int .u64 (u b.c), .int .i64 b.ig]] w (fun e w' => e = .returned (.tuple #[.agg #[.int .i64 m, .int .u64 (u (a.c + (b.c &&& ~~~a.c))), .int .i64 n], .int .i64 0]) ∧ Below w.heap.size w w') := by
  have H0 := Lib.hid h0
  clear h0
  have H1 := Lib.hid h1
  clear h1
  have HB := Lib.hid (Below.refl w.heap.size w)
  go_enter Tryd.func34, Tryd.ntmps34
  go_wp2_with fail
  refine (H0.out _).mono ?_
  rintro e w1 ⟨rfl, hB⟩
  replace HB := Lib.hid (below_call (w := w) (by repeat (first | exact HB.out | refine below_alloc ?_ _ | refine Below.drew ?_ | refine below_set ?_ (by omega) _)) hB)
  have z1 : w.heap.size ≤ w1.heap.size := HB.out.size
  have B0 : Hid (Blk w1 (w.heap.size) 24 #[.int .i64 a.lv, .int .u64 (u a.c), .int .i64 a.ig]) := Lib.hid (Blk.after (by repeat (first | exact Blk.new' (by simp; done) | exact Blk.new' rfl | refine Blk.drew ?_ | refine Blk.alloc ?_ _)) hB)
  have B1 : Hid (Blk w1 (w.heap.size + 1) 24 #[.int .i64 b.lv, .int .u64 (u b.c), .int .i64 b.ig]) := Lib.hid (Blk.after (by repeat (first | exact Blk.new' (by simp; done) | exact Blk.new' rfl | refine Blk.drew ?_ | refine Blk.alloc ?_ _)) hB)
  have B2 : Hid (Blk w1 (w.heap.size + 1 + 1) 24 #[.int .i64 0, .int .u64 0, .int .i64 0]) := Lib.hid (Blk.after (by repeat (first | exact Blk.new' (by simp; done) | exact Blk.new' rfl | refine Blk.drew ?_ | refine Blk.alloc ?_ _)) hB)
  clear hB
  have p1_0 := B1.out.at_ (i := 0) (v := .int .i64 b.lv) rfl
  have p1_1 := B1.out.at_ (i := 1) (v := .int .u64 (u b.c)) rfl
  have p1_2 := B1.out.at_ (i := 2) (v := .int .i64 b.ig) rfl
  have k1_0 : w.heap.size + 1 < w1.heap.size := by have := B1.out.lt; omega
  go_wp2_with fail
  refine (H1.out _).mono ?_
  rintro e w2 ⟨rfl, hB⟩
  replace HB := Lib.hid (below_call (w := w) (by repeat (first | exact HB.out | refine below_alloc ?_ _ | refine Below.drew ?_ | refine below_set ?_ (by omega) _)) hB)
  have z2 : w.heap.size ≤ w2.heap.size := HB.out.size
  replace B0 : Hid (Blk w2 (w.heap.size) 24 #[.int .i64 a.lv, .int .u64 (u a.c), .int .i64 a.ig]) := Lib.hid (Blk.after (by repeat (first | exact B0.out | exact Blk.new' (by simp; done) | exact Blk.new' rfl | refine Blk.drew ?_ | refine Blk.alloc ?_ _)) hB)
  replace B1 : Hid (Blk w2 (w.heap.size + 1) 24 #[.int .i64 b.lv, .int .u64 (u b.c), .int .i64 b.ig]) := Lib.hid (Blk.after (by repeat (first | exact B1.out | exact Blk.new' (by simp; done) | exact Blk.new' rfl | refine Blk.drew ?_ | refine Blk.alloc ?_ _)) hB)
  replace B2 : Hid (Blk w2 (w.heap.size + 1 + 1) 24 #[.int .i64 0, .int .u64 0, .int .i64 0]) := Lib.hid (Blk.after (by repeat (first | exact B2.out | exact Blk.new' (by simp; done) | exact Blk.new' rfl | refine Blk.drew ?_ | refine Blk.alloc ?_ _)) hB)
  clear p1_0 p1_1 p1_2 k1_0
  clear hB
  go_wp2_with fail
  refine wp_region_gen2 (S := (fun W' => Blk W' (w.heap.size) 24 #[.int .i64 a.lv, .int .u64 (u a.c), .int .i64 a.ig] ∧ Blk W' (w.heap.size + 1) 24 #[.int .i64 b.lv, .int .u64 (u b.c), .int .i64 b.ig] ∧ Below w.heap.size w W')) (N := (fun W' => Blk W' (w.heap.size + 1 + 1) 24 #[.int .i64 0, .int .u64 0, .int .i64 0])) (by kernel_rfl) ⟨(by repeat (first | exact B0.out | exact Blk.new' (by simp; done) | exact Blk.new' rfl | refine Blk.drew ?_ | refine Blk.alloc ?_ _)), (by repeat (first | exact B1.out | exact Blk.new' (by simp; done) | exact Blk.new' rfl | refine Blk.drew ?_ | refine Blk.alloc ?_ _)), (by repeat (first | exact HB.out | refine below_alloc ?_ _ | refine Below.drew ?_ | refine below_set ?_ (by omega) _))⟩ (by repeat (first | exact B2.out | exact Blk.new' (by simp; done) | exact Blk.new' rfl | refine Blk.drew ?_ | refine Blk.alloc ?_ _)) (fun w3 hS hN => ?_)
  have n0 := hN
  have N0 := Lib.hid n0
  have d0_N0 : w.heap.size ≠ w.heap.size + 1 + 1 := by omega
  have d1_N0 : w.heap.size + 1 ≠ w.heap.size + 1 + 1 := by omega
  have dd_N0 : w.heap.size ≤ w.heap.size + 1 + 1 := by omega
  clear n0 hN
  refine wpAnyH_take (i := 0) (v := ?_) (op_at rfl) (by kernel_rfl) (by kernel_rfl) (by kernel_rfl) (fun _ _ _ h => h) (Or.inl ⟨by rfl, ?_⟩) hS ?_; rotate_left; focus ((intro w' hSw; clear hSw; go_simp) <;> with_reducible rfl)
  try simp only [Act.put, List.setIfInBounds_toArray, List.set_cons_zero, List.set_cons_succ]
  refine wpAnyH_take (i := 1) (v := ?_) (op_at rfl) (by kernel_rfl) (by kernel_rfl) (by kernel_rfl) (fun _ _ _ h => h) (Or.inl ⟨by rfl, ?_⟩) hS ?_; rotate_left; focus ((intro w' hSw; obtain ⟨q, -⟩ := hSw; have c0 := q.at_ (i := 0) (v := .int .i64 a.lv) rfl; clear q; go_simp) <;> with_reducible rfl)
  try simp only [Act.put, List.setIfInBounds_toArray, List.set_cons_zero, List.set_cons_succ]
  refine wpAnyH_take (i := 2) (v := ?_) (op_at rfl) (by kernel_rfl) (by kernel_rfl) (by kernel_rfl) (fun _ _ _ h => h) (Or.inl ⟨by rfl, ?_⟩) hS ?_; rotate_left; focus ((intro w' hSw; clear hSw; go_simp) <;> with_reducible rfl)
  try simp only [Act.put, List.setIfInBounds_toArray, List.set_cons_zero, List.set_cons_succ]
  refine wpAnyH_take (i := 3) (v := ?_) (op_at rfl) (by kernel_rfl) (by kernel_rfl) (by kernel_rfl) (fun _ _ _ h => h) (Or.inl ⟨by rfl, ?_⟩) hS ?_; rotate_left; focus ((intro w' hSw; obtain ⟨-, q, -⟩ := hSw; have c0 := q.at_ (i := 0) (v := .int .i64 b.lv) rfl; clear q; go_simp) <;> with_reducible rfl)
  try simp only [Act.put, List.setIfInBounds_toArray, List.set_cons_zero, List.set_cons_succ]
  refine wpAnyH_take (i := 4) (v := ?_) (op_at rfl) (by kernel_rfl) (by kernel_rfl) (by kernel_rfl) (fun _ _ _ h => h) (Or.inl ⟨by rfl, ?_⟩) hS ?_; rotate_left; focus ((intro w' hSw; clear hSw; go_simp) <;> with_reducible rfl)
  try simp only [Act.put, List.setIfInBounds_toArray, List.set_cons_zero, List.set_cons_succ]
  refine wpAnyH_take (i := 5) (v := ?_) (op_at rfl) (by kernel_rfl) (by kernel_rfl) (by kernel_rfl) (fun _ _ _ h => h) (Or.inl ⟨by rfl, ?_⟩) hS ?_; rotate_left; focus ((intro w' hSw; clear hSw; go_simp) <;> with_reducible rfl)
  try simp only [Act.put, List.setIfInBounds_toArray, List.set_cons_zero, List.set_cons_succ]
  refine wpAnyH_take (i := 6) (v := ?_) (op_at rfl) (by kernel_rfl) (by kernel_rfl) (by kernel_rfl) (fun _ _ _ h => h) (Or.inl ⟨by rfl, ?_⟩) hS ?_; rotate_left; focus ((intro w' hSw; obtain ⟨q, -⟩ := hSw; have c1 := q.at_ (i := 1) (v := .int .u64 (u a.c)) rfl; clear q; go_simp) <;> with_reducible rfl)
  try simp only [Act.put, List.setIfInBounds_toArray, List.set_cons_zero, List.set_cons_succ]
  refine wpAnyH_take (i := 7) (v := ?_) (op_at rfl) (by kernel_rfl) (by kernel_rfl) (by kernel_rfl) (fun _ _ _ h => h) (Or.inl ⟨by rfl, ?_⟩) hS ?_; rotate_left; focus ((intro w' hSw; clear hSw; go_simp) <;> with_reducible rfl)
  try simp only [Act.put, List.setIfInBounds_toArray, List.set_cons_zero, List.set_cons_succ]
  refine wpAnyH_take (i := 8) (v := ?_) (op_at rfl) (by kernel_rfl) (by kernel_rfl) (by kernel_rfl) (fun _ _ _ h => h) (Or.inl ⟨by rfl, ?_⟩) hS ?_; rotate_left; focus ((intro w' hSw; obtain ⟨-, q, -⟩ := hSw; have c1 := q.at_ (i := 1) (v := .int .u64 (u b.c)) rfl; clear q; go_simp) <;> with_reducible rfl)
  try simp only [Act.put, List.setIfInBounds_toArray, List.set_cons_zero, List.set_cons_succ]
  refine wpAnyH_take (i := 9) (v := ?_) (op_at rfl) (by kernel_rfl) (by kernel_rfl) (by kernel_rfl) (fun _ _ _ h => h) (Or.inl ⟨by rfl, ?_⟩) hS ?_; rotate_left; focus ((intro w' hSw; clear hSw; go_simp) <;> with_reducible rfl)
  try simp only [Act.put, List.setIfInBounds_toArray, List.set_cons_zero, List.set_cons_succ]
  refine wpAnyH_take (i := 10) (v := ?_) (op_at rfl) (by kernel_rfl) (by kernel_rfl) (by kernel_rfl) (fun _ _ _ h => h) (Or.inl ⟨by rfl, ?_⟩) hS ?_; rotate_left; focus ((intro w' hSw; obtain ⟨q, -⟩ := hSw; have c1 := q.at_ (i := 1) (v := .int .u64 (u a.c)) rfl; clear q; go_simp) <;> with_reducible rfl)
  try simp only [Act.put, List.setIfInBounds_toArray, List.set_cons_zero, List.set_cons_succ]
  refine wpAnyH_take (i := 13) (v := ?_) (op_at rfl) (by kernel_rfl) (by kernel_rfl) (by kernel_rfl) (fun _ _ _ h => h) (Or.inl ⟨by rfl, ?_⟩) hS ?_; rotate_left; focus ((intro w' hSw; clear hSw; go_simp) <;> with_reducible rfl)
  try simp only [Act.put, List.setIfInBounds_toArray, List.set_cons_zero, List.set_cons_succ]
  refine wpAnyH_take (i := 14) (v := ?_) (op_at rfl) (by kernel_rfl) (by kernel_rfl) (by kernel_rfl) (fun _ _ _ h => h) (Or.inl ⟨by rfl, ?_⟩) hS ?_; rotate_left; focus ((intro w' hSw; obtain ⟨q, -⟩ := hSw; have c2 := q.at_ (i := 2) (v := .int .i64 a.ig) rfl; clear q; go_simp) <;> with_reducible rfl)
  try simp only [Act.put, List.setIfInBounds_toArray, List.set_cons_zero, List.set_cons_succ]
  refine wpAnyH_take (i := 15) (v := ?_) (op_at rfl) (by kernel_rfl) (by kernel_rfl) (by kernel_rfl) (fun _ _ _ h => h) (Or.inl ⟨by rfl, ?_⟩) hS ?_; rotate_left; focus ((intro w' hSw; clear hSw; go_simp) <;> with_reducible rfl)
  try simp only [Act.put, List.setIfInBounds_toArray, List.set_cons_zero, List.set_cons_succ]
  refine wpAnyH_take (i := 16) (v := ?_) (op_at rfl) (by kernel_rfl) (by kernel_rfl) (by kernel_rfl) (fun _ _ _ h => h) (Or.inl ⟨by rfl, ?_⟩) hS ?_; rotate_left; focus ((intro w' hSw; obtain ⟨-, q, -⟩ := hSw; have c2 := q.at_ (i := 2) (v := .int .i64 b.ig) rfl; clear q; go_simp) <;> with_reducible rfl)
  try simp only [Act.put, List.setIfInBounds_toArray, List.set_cons_zero, List.set_cons_succ]
  refine wpAnyH_take (i := 17) (v := ?_) (op_at rfl) (by kernel_rfl) (by kernel_rfl) (by kernel_rfl) (fun _ _ _ h => h) (Or.inl ⟨by rfl, ?_⟩) hS ?_; rotate_left; focus ((intro w' hSw; clear hSw; go_simp) <;> with_reducible rfl)
  try simp only [Act.put, List.setIfInBounds_toArray, List.set_cons_zero, List.set_cons_succ]
  refine wpAnyH_ready (rs := [11]) (by kernel_rfl) (by simp) ?_
  refine (AllReadyH.cons (op_at rfl) (fun K hK => ?_) AllReadyH.nil)
  go_simp
  obtain ⟨b0, b1, hb⟩ := hS
  refine (rLess_any _ _ _).mono ?_
  rintro e w' ⟨rfl, rfl⟩
  refine hK.out _ _ ⟨b0, b1, hb⟩ (fun hS => ?_)
  clear hK K b0 b1 hb
  try simp only [Act.put, List.setIfInBounds_toArray, List.set_cons_zero, List.set_cons_succ]
  refine wpAnyH_take (i := 12) (v := ?_) (op_at rfl) (by kernel_rfl) (by kernel_rfl) (by kernel_rfl) (fun _ _ _ h => h) (Or.inl ⟨by rfl, ?_⟩) hS ?_; rotate_left; focus ((intro w' hSw; clear hSw; go_simp) <;> with_reducible rfl)
  try simp only [Act.put, List.setIfInBounds_toArray, List.set_cons_zero, List.set_cons_succ]
  refine wpAnyH_take (i := 18) (v := ?_) (op_at rfl) (by kernel_rfl) (by kernel_rfl) (by kernel_rfl) (fun _ _ _ h => h) (Or.inl ⟨by rfl, ?_⟩) hS ?_; rotate_left; focus ((intro w' hSw; clear hSw; go_simp) <;> with_reducible rfl)
  try simp only [Act.put, List.setIfInBounds_toArray, List.set_cons_zero, List.set_cons_succ]
  refine wpAnyH_ready (rs := [19]) (by kernel_rfl) (by simp) ?_
  refine (AllReadyH.cons (op_at rfl) (fun K hK => ?_) AllReadyH.nil)
  have p_0 := N0.out.at_ (i := 0) (v := .int .i64 0) rfl
  have f_0 := N0.out.frozen 0
  have p_1 := N0.out.at_ (i := 1) (v := .int .u64 0) rfl
  have f_1 := N0.out.frozen 1
  have p_2 := N0.out.at_ (i := 2) (v := .int .i64 0) rfl
  have f_2 := N0.out.frozen 2
  go_simp
  clear p_0 f_0 p_1 f_1 p_2 f_2
  obtain ⟨b0, b1, hb⟩ := hS
  refine hK.out _ _ ⟨(Blk.far (Blk.far (Blk.far b0 d0_N0 _) d0_N0 _) d0_N0 _), (Blk.far (Blk.far (Blk.far b1 d1_N0 _) d1_N0 _) d1_N0 _), (below_set (below_set (below_set hb dd_N0 _) dd_N0 _) dd_N0 _)⟩ (fun hS => ?_)
  replace N0 := Lib.hid (Blk.set' (u := .int .i64 n) (i := 2) (cs' := #[.int .i64 m, .int .u64 (u (a.c + (b.c &&& ~~~a.c))), .int .i64 n]) (Blk.set' (u := .int .u64 (u (a.c + (b.c &&& ~~~a.c)))) (i := 1) (cs' := #[.int .i64 m, .int .u64 (u (a.c + (b.c &&& ~~~a.c))), .int .i64 0]) (Blk.set' (u := .int .i64 m) (i := 0) (cs' := #[.int .i64 m, .int .u64 0, .int .i64 0]) N0.out rfl) rfl) rfl)
  clear hK K b0 b1 hb
  try simp only [Act.put, List.setIfInBounds_toArray, List.set_cons_zero, List.set_cons_succ]
  refine wpAnyH_take (i := 20) (v := ?_) (op_at rfl) (by kernel_rfl) (by kernel_rfl) (by kernel_rfl) (fun _ _ _ h => h) (Or.inl ⟨by rfl, ?_⟩) hS ?_; rotate_left; focus ((intro w' hSw; clear hSw; go_simp) <;> with_reducible rfl)
  try simp only [Act.put, List.setIfInBounds_toArray, List.set_cons_zero, List.set_cons_succ]
  refine wpAnyH_done (by kernel_rfl) ?_ _
  obtain ⟨b0, b1, hb⟩ := hS
  replace B0 := Lib.hid b0
  clear b0
  replace B1 := Lib.hid b1
  clear b1
  replace B2 := N0
  clear N0
  replace HB := Lib.hid hb
  clear hb
  go_wp2_with fail
  have R2 : Blk (((w3.setCell ⟨w.heap.size + 1 + 1, 0, none⟩ (.int .i64 m)).setCell ⟨w.heap.size + 1 + 1, 1, none⟩ (.int .u64 (u (a.c + (b.c &&& ~~~a.c))))).setCell ⟨w.heap.size + 1 + 1, 2, none⟩ (.int .i64 n)) (w.heap.size + 1 + 1) 24 #[.int .i64 m, .int .u64 (u (a.c + (b.c &&& ~~~a.c))), .int .i64 n] := B2.out
  have k2_0 := R2.at_ (i := 0) (v := .int .i64 m) rfl
  have k2_1 := R2.at_ (i := 1) (v := .int .u64 (u (a.c + (b.c &&& ~~~a.c)))) rfl
  have k2_2 := R2.at_ (i := 2) (v := .int .i64 n) rfl
  have HZ : Below w.heap.size w (((w3.setCell ⟨w.heap.size + 1 + 1, 0, none⟩ (.int .i64 m)).setCell ⟨w.heap.size + 1 + 1, 1, none⟩ (.int .u64 (u (a.c + (b.c &&& ~~~a.c))))).setCell ⟨w.heap.size + 1 + 1, 2, none⟩ (.int .i64 n)) := HB.out
  refine bodyPost_ret (v := .tuple #[.agg #[.int .i64 m, .int .u64 (u (a.c + (b.c &&& ~~~a.c))), .int .i64 n], .int .i64 0]) (by simp [results, Tryd.results34, go_sem, k2_0, k2_1, k2_2]) rfl ⟨rfl, HZ⟩
theorem rJoin_ok {a b : Lab} (ha : okL a = true) (hb : okL b = true) (W : World) : Calls Tryd.prog 34 #[.agg #[.int .i64 a.lv, .int .u64 (u a.c), .int .i64 a.ig], .agg #[.int .i64 b.lv, .int .u64 (u b.c), .int .i64 b.ig]] W fun e w' => e = .returned (.tuple #[.agg #[.int .i64 (joinL a b).lv, .int .u64 (u (joinL a b).c), .int .i64 (joinL a b).ig], .int .i64 0]) ∧ Below W.heap.size W w' := by
  have h := rJoin_3 a b (max a.lv b.lv) (min a.ig b.ig) W (rRightIs ha) (rRightIs hb) (by split <;> omega) (by split <;> omega)
  rw [or_add] at h
  exact h
theorem rJoin_no {a b : Lab} (h : ¬ (okL a = true ∧ okL b = true)) (W : World) : Calls Tryd.prog 34 #[.agg #[.int .i64 a.lv, .int .u64 (u a.c), .int .i64 a.ig], .agg #[.int .i64 b.lv, .int .u64 (u b.c), .int .i64 b.ig]] W fun e w' => e = .returned (.tuple #[.agg #[.int .i64 zeroL.lv, .int .u64 (u zeroL.c), .int .i64 zeroL.ig], .int .i64 20]) ∧ Below W.heap.size W w' := by
  by_cases ha : okL a = true
  · exact rJoin_2 a b W (rRightIs ha) (rRightIs (nbool fun k => h ⟨ha, k⟩))
  · exact rJoin_1 a b W (rRightIs (nbool ha))
def RJoinIs (a b x : Lab) (n : Int) : Prop := ∀ W, Calls Tryd.prog 34 #[.agg #[.int .i64 a.lv, .int .u64 (u a.c), .int .i64 a.ig], .agg #[.int .i64 b.lv, .int .u64 (u b.c), .int .i64 b.ig]] W fun e w' => e = .returned (.tuple #[.agg #[.int .i64 x.lv, .int .u64 (u x.c), .int .i64 x.ig], .int .i64 n]) ∧ Below W.heap.size W w'
def RUnderIs (a b : Lab) (r : Bool) : Prop := ∀ W, Calls Tryd.prog 36 #[.agg #[.int .i64 a.lv, .int .u64 (u a.c), .int .i64 a.ig], .agg #[.int .i64 b.lv, .int .u64 (u b.c), .int .i64 b.ig]] W fun e w' => e = .returned (.bool r) ∧ Below W.heap.size W w'
set_option maxRecDepth 100000 in
set_option maxHeartbeats 4000000 in
theorem rUnder_1 (a b : Lab) (w : World) (h0 : RRightIs a false) :
    Calls Tryd.prog 36 #[.agg #[.int .i64 a.lv, .int .u64 (u a.c), .int .i64 a.ig], .agg #[.int .i64 b.lv, .int .u64 (u b.c), .int .i64 b.ig]] w (fun e w' => e = .returned (.bool false) ∧ Below w.heap.size w w') := by
  have H0 := Lib.hid h0
  clear h0
  have HB := Lib.hid (Below.refl w.heap.size w)
  go_enter Tryd.func36, Tryd.ntmps36
  go_wp2_with fail
  refine (H0.out _).mono ?_
  rintro e w1 ⟨rfl, hB⟩
  replace HB := Lib.hid (below_call (w := w) (by repeat (first | exact HB.out | refine below_alloc ?_ _ | refine Below.drew ?_ | refine below_set ?_ (by omega) _)) hB)
  have z1 : w.heap.size ≤ w1.heap.size := HB.out.size
  clear hB
  go_wp2_with fail
  go_ret
  exact ⟨rfl, (by repeat (first | exact HB.out | refine below_alloc ?_ _ | refine Below.drew ?_ | refine below_set ?_ (by omega) _))⟩
set_option maxRecDepth 100000 in
set_option maxHeartbeats 4000000 in
theorem rUnder_2 (a b : Lab) (w : World) (h0 : RRightIs a true) (h1 : RRightIs b false) :
    Calls Tryd.prog 36 #[.agg #[.int .i64 a.lv, .int .u64 (u a.c), .int .i64 a.ig], .agg #[.int .i64 b.lv, .int .u64 (u b.c), .int .i64 b.ig]] w (fun e w' => e = .returned (.bool false) ∧ Below w.heap.size w w') := by
  have H0 := Lib.hid h0
  clear h0
  have H1 := Lib.hid h1
  clear h1
  have HB := Lib.hid (Below.refl w.heap.size w)
  go_enter Tryd.func36, Tryd.ntmps36
  go_wp2_with fail
  refine (H0.out _).mono ?_
  rintro e w1 ⟨rfl, hB⟩
  replace HB := Lib.hid (below_call (w := w) (by repeat (first | exact HB.out | refine below_alloc ?_ _ | refine Below.drew ?_ | refine below_set ?_ (by omega) _)) hB)
  have z1 : w.heap.size ≤ w1.heap.size := HB.out.size
  have B1 : Hid (Blk w1 (w.heap.size + 1) 24 #[.int .i64 b.lv, .int .u64 (u b.c), .int .i64 b.ig]) := Lib.hid (Blk.after (by repeat (first | exact Blk.new' (by simp; done) | exact Blk.new' rfl | refine Blk.drew ?_ | refine Blk.alloc ?_ _)) hB)
  clear hB
  have p1_0 := B1.out.at_ (i := 0) (v := .int .i64 b.lv) rfl
  have p1_1 := B1.out.at_ (i := 1) (v := .int .u64 (u b.c)) rfl
  have p1_2 := B1.out.at_ (i := 2) (v := .int .i64 b.ig) rfl
  have k1_0 : w.heap.size + 1 < w1.heap.size := by have := B1.out.lt; omega
  go_wp2_with fail
  refine (H1.out _).mono ?_
  rintro e w2 ⟨rfl, hB⟩
  replace HB := Lib.hid (below_call (w := w) (by repeat (first | exact HB.out | refine below_alloc ?_ _ | refine Below.drew ?_ | refine below_set ?_ (by omega) _)) hB)
  have z2 : w.heap.size ≤ w2.heap.size := HB.out.size
  clear p1_0 p1_1 p1_2 k1_0
  clear hB
  go_wp2_with fail
  go_ret
  exact ⟨rfl, (by repeat (first | exact HB.out | refine below_alloc ?_ _ | refine Below.drew ?_ | refine below_set ?_ (by omega) _))⟩
set_option maxRecDepth 100000 in
set_option maxHeartbeats 4000000 in
theorem rUnder_3 (a b : Lab) (w : World) (h0 : RRightIs a true) (h1 : RRightIs b true) (h2 : ¬ a.lv ≤ b.lv) :
    Calls Tryd.prog 36 #[.agg #[.int .i64 a.lv, .int .u64 (u a.c), .int .i64 a.ig], .agg #[.int .i64 b.lv, .int .u64 (u b.c), .int .i64 b.ig]] w (fun e w' => e = .returned (.bool false) ∧ Below w.heap.size w w') := by
  have H0 := Lib.hid h0
  clear h0
  have H1 := Lib.hid h1
  clear h1
  have HB := Lib.hid (Below.refl w.heap.size w)
  go_enter Tryd.func36, Tryd.ntmps36
  go_wp2_with fail
  refine (H0.out _).mono ?_
  rintro e w1 ⟨rfl, hB⟩
  replace HB := Lib.hid (below_call (w := w) (by repeat (first | exact HB.out | refine below_alloc ?_ _ | refine Below.drew ?_ | refine below_set ?_ (by omega) _)) hB)
  have z1 : w.heap.size ≤ w1.heap.size := HB.out.size
  have B0 : Hid (Blk w1 (w.heap.size) 24 #[.int .i64 a.lv, .int .u64 (u a.c), .int .i64 a.ig]) := Lib.hid (Blk.after (by repeat (first | exact Blk.new' (by simp; done) | exact Blk.new' rfl | refine Blk.drew ?_ | refine Blk.alloc ?_ _)) hB)
  have B1 : Hid (Blk w1 (w.heap.size + 1) 24 #[.int .i64 b.lv, .int .u64 (u b.c), .int .i64 b.ig]) := Lib.hid (Blk.after (by repeat (first | exact Blk.new' (by simp; done) | exact Blk.new' rfl | refine Blk.drew ?_ | refine Blk.alloc ?_ _)) hB)
  clear hB
  have p1_0 := B1.out.at_ (i := 0) (v := .int .i64 b.lv) rfl
  have p1_1 := B1.out.at_ (i := 1) (v := .int .u64 (u b.c)) rfl
  have p1_2 := B1.out.at_ (i := 2) (v := .int .i64 b.ig) rfl
  have k1_0 : w.heap.size + 1 < w1.heap.size := by have := B1.out.lt; omega
  go_wp2_with fail
  refine (H1.out _).mono ?_
  rintro e w2 ⟨rfl, hB⟩
  replace HB := Lib.hid (below_call (w := w) (by repeat (first | exact HB.out | refine below_alloc ?_ _ | refine Below.drew ?_ | refine below_set ?_ (by omega) _)) hB)
  have z2 : w.heap.size ≤ w2.heap.size := HB.out.size
  replace B0 : Hid (Blk w2 (w.heap.size) 24 #[.int .i64 a.lv, .int .u64 (u a.c), .int .i64 a.ig]) := Lib.hid (Blk.after (by repeat (first | exact B0.out | exact Blk.new' (by simp; done) | exact Blk.new' rfl | refine Blk.drew ?_ | refine Blk.alloc ?_ _)) hB)
  replace B1 : Hid (Blk w2 (w.heap.size + 1) 24 #[.int .i64 b.lv, .int .u64 (u b.c), .int .i64 b.ig]) := Lib.hid (Blk.after (by repeat (first | exact B1.out | exact Blk.new' (by simp; done) | exact Blk.new' rfl | refine Blk.drew ?_ | refine Blk.alloc ?_ _)) hB)
  clear p1_0 p1_1 p1_2 k1_0
  clear hB
  have p0_0 := B0.out.at_ (i := 0) (v := .int .i64 a.lv) rfl
  have k0_0 : w.heap.size < w2.heap.size := by have := B0.out.lt; omega
  have p1_0 := B1.out.at_ (i := 0) (v := .int .i64 b.lv) rfl
  have k1_0 : w.heap.size + 1 < w2.heap.size := by have := B1.out.lt; omega
  go_wp2_with fail
  go_ret
  exact ⟨rfl, (by repeat (first | exact HB.out | refine below_alloc ?_ _ | refine Below.drew ?_ | refine below_set ?_ (by omega) _))⟩
set_option maxRecDepth 100000 in
set_option maxHeartbeats 4000000 in
theorem rUnder_4 (a b : Lab) (w : World) (h0 : RRightIs a true) (h1 : RRightIs b true) (h2 : a.lv ≤ b.lv) (h3 : ∀ W, Calls Tryd.prog 48 #[.int .u64 (u a.c), .int .u64 (u b.c)] W fun e w' => e = .returned (.bool false) ∧ W = w') :
    Calls Tryd.prog 36 #[.agg #[.int .i64 a.lv, .int .u64 (u a.c), .int .i64 a.ig], .agg #[.int .i64 b.lv, .int .u64 (u b.c), .int .i64 b.ig]] w (fun e w' => e = .returned (.bool false) ∧ Below w.heap.size w w') := by
  have H0 := Lib.hid h0
  clear h0
  have H1 := Lib.hid h1
  clear h1
  have H3 := Lib.hid h3
  clear h3
  have HB := Lib.hid (Below.refl w.heap.size w)
  go_enter Tryd.func36, Tryd.ntmps36
  go_wp2_with fail
  refine (H0.out _).mono ?_
  rintro e w1 ⟨rfl, hB⟩
  replace HB := Lib.hid (below_call (w := w) (by repeat (first | exact HB.out | refine below_alloc ?_ _ | refine Below.drew ?_ | refine below_set ?_ (by omega) _)) hB)
  have z1 : w.heap.size ≤ w1.heap.size := HB.out.size
  have B0 : Hid (Blk w1 (w.heap.size) 24 #[.int .i64 a.lv, .int .u64 (u a.c), .int .i64 a.ig]) := Lib.hid (Blk.after (by repeat (first | exact Blk.new' (by simp; done) | exact Blk.new' rfl | refine Blk.drew ?_ | refine Blk.alloc ?_ _)) hB)
  have B1 : Hid (Blk w1 (w.heap.size + 1) 24 #[.int .i64 b.lv, .int .u64 (u b.c), .int .i64 b.ig]) := Lib.hid (Blk.after (by repeat (first | exact Blk.new' (by simp; done) | exact Blk.new' rfl | refine Blk.drew ?_ | refine Blk.alloc ?_ _)) hB)
  clear hB
  have p1_0 := B1.out.at_ (i := 0) (v := .int .i64 b.lv) rfl
  have p1_1 := B1.out.at_ (i := 1) (v := .int .u64 (u b.c)) rfl
  have p1_2 := B1.out.at_ (i := 2) (v := .int .i64 b.ig) rfl
  have k1_0 : w.heap.size + 1 < w1.heap.size := by have := B1.out.lt; omega
  go_wp2_with fail
  refine (H1.out _).mono ?_
  rintro e w2 ⟨rfl, hB⟩
  replace HB := Lib.hid (below_call (w := w) (by repeat (first | exact HB.out | refine below_alloc ?_ _ | refine Below.drew ?_ | refine below_set ?_ (by omega) _)) hB)
  have z2 : w.heap.size ≤ w2.heap.size := HB.out.size
  replace B0 : Hid (Blk w2 (w.heap.size) 24 #[.int .i64 a.lv, .int .u64 (u a.c), .int .i64 a.ig]) := Lib.hid (Blk.after (by repeat (first | exact B0.out | exact Blk.new' (by simp; done) | exact Blk.new' rfl | refine Blk.drew ?_ | refine Blk.alloc ?_ _)) hB)
  replace B1 : Hid (Blk w2 (w.heap.size + 1) 24 #[.int .i64 b.lv, .int .u64 (u b.c), .int .i64 b.ig]) := Lib.hid (Blk.after (by repeat (first | exact B1.out | exact Blk.new' (by simp; done) | exact Blk.new' rfl | refine Blk.drew ?_ | refine Blk.alloc ?_ _)) hB)
  clear p1_0 p1_1 p1_2 k1_0
  clear hB
  have p0_0 := B0.out.at_ (i := 0) (v := .int .i64 a.lv) rfl
  have p0_1 := B0.out.at_ (i := 1) (v := .int .u64 (u a.c)) rfl
  have k0_0 : w.heap.size < w2.heap.size := by have := B0.out.lt; omega
  have p1_0 := B1.out.at_ (i := 0) (v := .int .i64 b.lv) rfl
  have p1_1 := B1.out.at_ (i := 1) (v := .int .u64 (u b.c)) rfl
  have k1_0 : w.heap.size + 1 < w2.heap.size := by have := B1.out.lt; omega
  go_wp2_with fail
  refine (H3.out _).mono ?_
  rintro e w' ⟨rfl, rfl⟩
  go_wp2_with fail
  go_ret
  exact ⟨rfl, (by repeat (first | exact HB.out | refine below_alloc ?_ _ | refine Below.drew ?_ | refine below_set ?_ (by omega) _))⟩
set_option maxRecDepth 100000 in
set_option maxHeartbeats 4000000 in
theorem rUnder_5 (a b : Lab) (w : World) (h0 : RRightIs a true) (h1 : RRightIs b true) (h2 : a.lv ≤ b.lv) (h3 : ∀ W, Calls Tryd.prog 48 #[.int .u64 (u a.c), .int .u64 (u b.c)] W fun e w' => e = .returned (.bool true) ∧ W = w') (h4 : decide (b.ig ≤ a.ig) = false) :
    Calls Tryd.prog 36 #[.agg #[.int .i64 a.lv, .int .u64 (u a.c), .int .i64 a.ig], .agg #[.int .i64 b.lv, .int .u64 (u b.c), .int .i64 b.ig]] w (fun e w' => e = .returned (.bool false) ∧ Below w.heap.size w w') := by
  have H0 := Lib.hid h0
  clear h0
  have H1 := Lib.hid h1
  clear h1
  have H3 := Lib.hid h3
  clear h3
  have HB := Lib.hid (Below.refl w.heap.size w)
  go_enter Tryd.func36, Tryd.ntmps36
  go_wp2_with fail
  refine (H0.out _).mono ?_
  rintro e w1 ⟨rfl, hB⟩
  replace HB := Lib.hid (below_call (w := w) (by repeat (first | exact HB.out | refine below_alloc ?_ _ | refine Below.drew ?_ | refine below_set ?_ (by omega) _)) hB)
  have z1 : w.heap.size ≤ w1.heap.size := HB.out.size
  have B0 : Hid (Blk w1 (w.heap.size) 24 #[.int .i64 a.lv, .int .u64 (u a.c), .int .i64 a.ig]) := Lib.hid (Blk.after (by repeat (first | exact Blk.new' (by simp; done) | exact Blk.new' rfl | refine Blk.drew ?_ | refine Blk.alloc ?_ _)) hB)
  have B1 : Hid (Blk w1 (w.heap.size + 1) 24 #[.int .i64 b.lv, .int .u64 (u b.c), .int .i64 b.ig]) := Lib.hid (Blk.after (by repeat (first | exact Blk.new' (by simp; done) | exact Blk.new' rfl | refine Blk.drew ?_ | refine Blk.alloc ?_ _)) hB)
  clear hB
  have p1_0 := B1.out.at_ (i := 0) (v := .int .i64 b.lv) rfl
  have p1_1 := B1.out.at_ (i := 1) (v := .int .u64 (u b.c)) rfl
  have p1_2 := B1.out.at_ (i := 2) (v := .int .i64 b.ig) rfl
  have k1_0 : w.heap.size + 1 < w1.heap.size := by have := B1.out.lt; omega
  go_wp2_with fail
  refine (H1.out _).mono ?_
  rintro e w2 ⟨rfl, hB⟩
  replace HB := Lib.hid (below_call (w := w) (by repeat (first | exact HB.out | refine below_alloc ?_ _ | refine Below.drew ?_ | refine below_set ?_ (by omega) _)) hB)
  have z2 : w.heap.size ≤ w2.heap.size := HB.out.size
  replace B0 : Hid (Blk w2 (w.heap.size) 24 #[.int .i64 a.lv, .int .u64 (u a.c), .int .i64 a.ig]) := Lib.hid (Blk.after (by repeat (first | exact B0.out | exact Blk.new' (by simp; done) | exact Blk.new' rfl | refine Blk.drew ?_ | refine Blk.alloc ?_ _)) hB)
  replace B1 : Hid (Blk w2 (w.heap.size + 1) 24 #[.int .i64 b.lv, .int .u64 (u b.c), .int .i64 b.ig]) := Lib.hid (Blk.after (by repeat (first | exact B1.out | exact Blk.new' (by simp; done) | exact Blk.new' rfl | refine Blk.drew ?_ | refine Blk.alloc ?_ _)) hB)
  clear p1_0 p1_1 p1_2 k1_0
  clear hB
  have p0_0 := B0.out.at_ (i := 0) (v := .int .i64 a.lv) rfl
  have p0_1 := B0.out.at_ (i := 1) (v := .int .u64 (u a.c)) rfl
  have k0_0 : w.heap.size < w2.heap.size := by have := B0.out.lt; omega
  have p1_0 := B1.out.at_ (i := 0) (v := .int .i64 b.lv) rfl
  have p1_1 := B1.out.at_ (i := 1) (v := .int .u64 (u b.c)) rfl
  have k1_0 : w.heap.size + 1 < w2.heap.size := by have := B1.out.lt; omega
  go_wp2_with fail
  refine (H3.out _).mono ?_
  rintro e w' ⟨rfl, rfl⟩
  have p0_2 := B0.out.at_ (i := 2) (v := .int .i64 a.ig) rfl
  have k0_0 : w.heap.size < w2.heap.size := by have := B0.out.lt; omega
  have p1_2 := B1.out.at_ (i := 2) (v := .int .i64 b.ig) rfl
  have k1_0 : w.heap.size + 1 < w2.heap.size := by have := B1.out.lt; omega
  go_wp2_with fail
  go_ret
  exact ⟨rfl, (by repeat (first | exact HB.out | refine below_alloc ?_ _ | refine Below.drew ?_ | refine below_set ?_ (by omega) _))⟩
set_option maxRecDepth 100000 in
set_option maxHeartbeats 4000000 in
theorem rUnder_6 (a b : Lab) (w : World) (h0 : RRightIs a true) (h1 : RRightIs b true) (h2 : a.lv ≤ b.lv) (h3 : ∀ W, Calls Tryd.prog 48 #[.int .u64 (u a.c), .int .u64 (u b.c)] W fun e w' => e = .returned (.bool true) ∧ W = w') (h4 : b.ig ≤ a.ig) :
    Calls Tryd.prog 36 #[.agg #[.int .i64 a.lv, .int .u64 (u a.c), .int .i64 a.ig], .agg #[.int .i64 b.lv, .int .u64 (u b.c), .int .i64 b.ig]] w (fun e w' => e = .returned (.bool true) ∧ Below w.heap.size w w') := by
  have H0 := Lib.hid h0
  clear h0
  have H1 := Lib.hid h1
  clear h1
  have H3 := Lib.hid h3
  clear h3
  have HB := Lib.hid (Below.refl w.heap.size w)
  go_enter Tryd.func36, Tryd.ntmps36
  go_wp2_with fail
  refine (H0.out _).mono ?_
  rintro e w1 ⟨rfl, hB⟩
  replace HB := Lib.hid (below_call (w := w) (by repeat (first | exact HB.out | refine below_alloc ?_ _ | refine Below.drew ?_ | refine below_set ?_ (by omega) _)) hB)
  have z1 : w.heap.size ≤ w1.heap.size := HB.out.size
  have B0 : Hid (Blk w1 (w.heap.size) 24 #[.int .i64 a.lv, .int .u64 (u a.c), .int .i64 a.ig]) := Lib.hid (Blk.after (by repeat (first | exact Blk.new' (by simp; done) | exact Blk.new' rfl | refine Blk.drew ?_ | refine Blk.alloc ?_ _)) hB)
  have B1 : Hid (Blk w1 (w.heap.size + 1) 24 #[.int .i64 b.lv, .int .u64 (u b.c), .int .i64 b.ig]) := Lib.hid (Blk.after (by repeat (first | exact Blk.new' (by simp; done) | exact Blk.new' rfl | refine Blk.drew ?_ | refine Blk.alloc ?_ _)) hB)
  clear hB
  have p1_0 := B1.out.at_ (i := 0) (v := .int .i64 b.lv) rfl
  have p1_1 := B1.out.at_ (i := 1) (v := .int .u64 (u b.c)) rfl
  have p1_2 := B1.out.at_ (i := 2) (v := .int .i64 b.ig) rfl
  have k1_0 : w.heap.size + 1 < w1.heap.size := by have := B1.out.lt; omega
  go_wp2_with fail
  refine (H1.out _).mono ?_
  rintro e w2 ⟨rfl, hB⟩
  replace HB := Lib.hid (below_call (w := w) (by repeat (first | exact HB.out | refine below_alloc ?_ _ | refine Below.drew ?_ | refine below_set ?_ (by omega) _)) hB)
  have z2 : w.heap.size ≤ w2.heap.size := HB.out.size
  replace B0 : Hid (Blk w2 (w.heap.size) 24 #[.int .i64 a.lv, .int .u64 (u a.c), .int .i64 a.ig]) := Lib.hid (Blk.after (by repeat (first | exact B0.out | exact Blk.new' (by simp; done) | exact Blk.new' rfl | refine Blk.drew ?_ | refine Blk.alloc ?_ _)) hB)
  replace B1 : Hid (Blk w2 (w.heap.size + 1) 24 #[.int .i64 b.lv, .int .u64 (u b.c), .int .i64 b.ig]) := Lib.hid (Blk.after (by repeat (first | exact B1.out | exact Blk.new' (by simp; done) | exact Blk.new' rfl | refine Blk.drew ?_ | refine Blk.alloc ?_ _)) hB)
  clear p1_0 p1_1 p1_2 k1_0
  clear hB
  have p0_0 := B0.out.at_ (i := 0) (v := .int .i64 a.lv) rfl
  have p0_1 := B0.out.at_ (i := 1) (v := .int .u64 (u a.c)) rfl
  have k0_0 : w.heap.size < w2.heap.size := by have := B0.out.lt; omega
  have p1_0 := B1.out.at_ (i := 0) (v := .int .i64 b.lv) rfl
  have p1_1 := B1.out.at_ (i := 1) (v := .int .u64 (u b.c)) rfl
  have k1_0 : w.heap.size + 1 < w2.heap.size := by have := B1.out.lt; omega
  go_wp2_with fail
  refine (H3.out _).mono ?_
  rintro e w' ⟨rfl, rfl⟩
  have p0_2 := B0.out.at_ (i := 2) (v := .int .i64 a.ig) rfl
  have k0_0 : w.heap.size < w2.heap.size := by have := B0.out.lt; omega
  have p1_2 := B1.out.at_ (i := 2) (v := .int .i64 b.ig) rfl
  have k1_0 : w.heap.size + 1 < w2.heap.size := by have := B1.out.lt; omega
  go_wp2_with fail
  go_ret
  exact ⟨rfl, (by repeat (first | exact HB.out | refine below_alloc ?_ _ | refine Below.drew ?_ | refine below_set ?_ (by omega) _))⟩
theorem rUnder_any (a b : Lab) (w : World) : Calls Tryd.prog 36 #[.agg #[.int .i64 a.lv, .int .u64 (u a.c), .int .i64 a.ig], .agg #[.int .i64 b.lv, .int .u64 (u b.c), .int .i64 b.ig]] w fun e w' => e = .returned (.bool (underL a b)) ∧ Below w.heap.size w w' := by
  have no : ∀ {p : Prop}, (underL a b = true → p) → ¬ p → underL a b = false := fun h k => nbool fun e => k (h e)
  have sb : ∀ {r : Bool}, sub a.c b.c = r → ∀ W, Calls Tryd.prog 48 #[.int .u64 (u a.c), .int .u64 (u b.c)] W fun e w' => e = .returned (.bool r) ∧ W = w' := fun h W => by rw [← h]; exact rSub_any a.c b.c W
  by_cases ha : okL a = true
  · by_cases hb : okL b = true
    · by_cases hl : a.lv ≤ b.lv
      · by_cases hs : sub a.c b.c = true
        · by_cases hg : b.ig ≤ a.ig
          · rw [underL_iff.2 ⟨ha, hb, le3_iff.2 ⟨hl, hg, hs⟩⟩]
            exact rUnder_6 a b w (rRightIs ha) (rRightIs hb) hl (sb hs) hg
          · rw [no (fun e => (le3_iff.1 (underL_iff.1 e).2.2).2.1) hg]
            exact rUnder_5 a b w (rRightIs ha) (rRightIs hb) hl (sb hs) (decide_eq_false hg)
        · rw [no (fun e => (le3_iff.1 (underL_iff.1 e).2.2).2.2) hs]
          exact rUnder_4 a b w (rRightIs ha) (rRightIs hb) hl (sb (nbool hs))
      · rw [no (fun e => (le3_iff.1 (underL_iff.1 e).2.2).1) hl]
        exact rUnder_3 a b w (rRightIs ha) (rRightIs hb) hl
    · rw [no (fun e => (underL_iff.1 e).2.1) hb]
      exact rUnder_2 a b w (rRightIs ha) (rRightIs (nbool hb))
  · rw [no (fun e => (underL_iff.1 e).1) ha]
    exact rUnder_1 a b w (rRightIs (nbool ha))
theorem rUnderIs {a b : Lab} {r : Bool} (h : underL a b = r) : RUnderIs a b r := fun W => by rw [← h]; exact rUnder_any a b W
set_option maxRecDepth 100000 in
set_option maxHeartbeats 4000000 in
theorem rFloat_1 (cur a high : Lab) (w : World) (h0 : RJoinIs cur a zeroL 20) :
    Calls Tryd.prog 17 #[.agg #[.int .i64 cur.lv, .int .u64 (u cur.c), .int .i64 cur.ig], .agg #[.int .i64 a.lv, .int .u64 (u a.c), .int .i64 a.ig], .agg #[.int .i64 high.lv, .int .u64 (u high.c), .int .i64 high.ig]] w (fun e w' => e = .returned (.tuple #[.agg #[.int .i64 0, .int .u64 0, .int .i64 0], .int .i64 20]) ∧ Below w.heap.size w w') := by
  have H0 := Lib.hid h0
  clear h0
  have HB := Lib.hid (Below.refl w.heap.size w)
  go_enter Tryd.func17, Tryd.ntmps17
  go_wp2_with fail
  refine (H0.out _).mono ?_
  rintro e w1 ⟨rfl, hB⟩
  replace HB := Lib.hid (below_call (w := w) (by repeat (first | exact HB.out | refine below_alloc ?_ _ | refine Below.drew ?_ | refine below_set ?_ (by omega) _)) hB)
  have z1 : w.heap.size ≤ w1.heap.size := HB.out.size
  have B3 : Hid (Blk w1 (w.heap.size + 1 + 1 + 1) 24 #[.int .i64 0, .int .u64 0, .int .i64 0]) := Lib.hid (Blk.after (by repeat (first | exact Blk.new' (by simp; done) | exact Blk.new' rfl | refine Blk.drew ?_ | refine Blk.alloc ?_ _)) hB)
  clear hB
  have p3_0 := B3.out.at_ (i := 0) (v := .int .i64 0) rfl
  have p3_1 := B3.out.at_ (i := 1) (v := .int .u64 0) rfl
  have p3_2 := B3.out.at_ (i := 2) (v := .int .i64 0) rfl
  have f3_0 := B3.out.frozen 0
  have f3_1 := B3.out.frozen 1
  have f3_2 := B3.out.frozen 2
  have k3_0 : w.heap.size + 1 + 1 + 1 < w1.heap.size := by have := B3.out.lt; omega
  have k3_1 : w.heap.size + 1 + 1 + 1 < w1.heap.size + 1 := by have := B3.out.lt; omega
  go_wp2_with fail
  have R3 : Blk ((((w1.setCell ⟨w.heap.size + 1 + 1 + 1, 0, none⟩ (.int .i64 0)).setCell ⟨w.heap.size + 1 + 1 + 1, 1, none⟩ (.int .u64 0)).setCell ⟨w.heap.size + 1 + 1 + 1, 2, none⟩ (.int .i64 0)).alloc (.cells #[.int .i64 zeroL.lv, .int .u64 (u zeroL.c), .int .i64 zeroL.ig] 24)) (w.heap.size + 1 + 1 + 1) 24 #[.int .i64 0, .int .u64 0, .int .i64 0] := (Blk.alloc (Blk.set' (u := .int .i64 0) (i := 2) (cs' := #[.int .i64 0, .int .u64 0, .int .i64 0]) (Blk.set' (u := .int .u64 0) (i := 1) (cs' := #[.int .i64 0, .int .u64 0, .int .i64 0]) (Blk.set' (u := .int .i64 0) (i := 0) (cs' := #[.int .i64 0, .int .u64 0, .int .i64 0]) B3.out rfl) rfl) rfl) _)
  have k3_0 := R3.at_ (i := 0) (v := .int .i64 0) rfl
  have k3_1 := R3.at_ (i := 1) (v := .int .u64 0) rfl
  have k3_2 := R3.at_ (i := 2) (v := .int .i64 0) rfl
  have HZ : Below w.heap.size w ((((w1.setCell ⟨w.heap.size + 1 + 1 + 1, 0, none⟩ (.int .i64 0)).setCell ⟨w.heap.size + 1 + 1 + 1, 1, none⟩ (.int .u64 0)).setCell ⟨w.heap.size + 1 + 1 + 1, 2, none⟩ (.int .i64 0)).alloc (.cells #[.int .i64 zeroL.lv, .int .u64 (u zeroL.c), .int .i64 zeroL.ig] 24)) := (below_alloc (below_set (below_set (below_set HB.out (by omega) _) (by omega) _) (by omega) _) _)
  refine bodyPost_ret (v := .tuple #[.agg #[.int .i64 0, .int .u64 0, .int .i64 0], .int .i64 20]) (by simp [results, Tryd.results17, go_sem, k3_0, k3_1, k3_2]) rfl ⟨rfl, HZ⟩
set_option maxRecDepth 100000 in
set_option maxHeartbeats 4000000 in
theorem rFloat_2 (cur a high x : Lab) (w : World) (h0 : RJoinIs cur a x 0) (h1 : RRightIs high false) :
    Calls Tryd.prog 17 #[.agg #[.int .i64 cur.lv, .int .u64 (u cur.c), .int .i64 cur.ig], .agg #[.int .i64 a.lv, .int .u64 (u a.c), .int .i64 a.ig], .agg #[.int .i64 high.lv, .int .u64 (u high.c), .int .i64 high.ig]] w (fun e w' => e = .returned (.tuple #[.agg #[.int .i64 0, .int .u64 0, .int .i64 0], .int .i64 20]) ∧ Below w.heap.size w w') := by
  have H0 := Lib.hid h0
  clear h0
  have H1 := Lib.hid h1
  clear h1
  have HB := Lib.hid (Below.refl w.heap.size w)
  go_enter Tryd.func17, Tryd.ntmps17
  go_wp2_with fail
  refine (H0.out _).mono ?_
  rintro e w1 ⟨rfl, hB⟩
  replace HB := Lib.hid (below_call (w := w) (by repeat (first | exact HB.out | refine below_alloc ?_ _ | refine Below.drew ?_ | refine below_set ?_ (by omega) _)) hB)
  have z1 : w.heap.size ≤ w1.heap.size := HB.out.size
  have B2 : Hid (Blk w1 (w.heap.size + 1 + 1) 24 #[.int .i64 high.lv, .int .u64 (u high.c), .int .i64 high.ig]) := Lib.hid (Blk.after (by repeat (first | exact Blk.new' (by simp; done) | exact Blk.new' rfl | refine Blk.drew ?_ | refine Blk.alloc ?_ _)) hB)
  have B3 : Hid (Blk w1 (w.heap.size + 1 + 1 + 1) 24 #[.int .i64 0, .int .u64 0, .int .i64 0]) := Lib.hid (Blk.after (by repeat (first | exact Blk.new' (by simp; done) | exact Blk.new' rfl | refine Blk.drew ?_ | refine Blk.alloc ?_ _)) hB)
  clear hB
  have p2_0 := B2.out.at_ (i := 0) (v := .int .i64 high.lv) rfl
  have p2_1 := B2.out.at_ (i := 1) (v := .int .u64 (u high.c)) rfl
  have p2_2 := B2.out.at_ (i := 2) (v := .int .i64 high.ig) rfl
  have k2_0 : w.heap.size + 1 + 1 < w1.heap.size := by have := B2.out.lt; omega
  have k2_1 : w.heap.size + 1 + 1 < w1.heap.size + 1 := by have := B2.out.lt; omega
  go_wp2_with fail
  refine (H1.out _).mono ?_
  rintro e w2 ⟨rfl, hB⟩
  replace HB := Lib.hid (below_call (w := w) (by repeat (first | exact HB.out | refine below_alloc ?_ _ | refine Below.drew ?_ | refine below_set ?_ (by omega) _)) hB)
  have z2 : w.heap.size ≤ w2.heap.size := HB.out.size
  replace B3 : Hid (Blk w2 (w.heap.size + 1 + 1 + 1) 24 #[.int .i64 0, .int .u64 0, .int .i64 0]) := Lib.hid (Blk.after (by repeat (first | exact B3.out | exact Blk.new' (by simp; done) | exact Blk.new' rfl | refine Blk.drew ?_ | refine Blk.alloc ?_ _)) hB)
  clear p2_0 p2_1 p2_2 k2_0 k2_1
  clear hB
  have p3_0 := B3.out.at_ (i := 0) (v := .int .i64 0) rfl
  have p3_1 := B3.out.at_ (i := 1) (v := .int .u64 0) rfl
  have p3_2 := B3.out.at_ (i := 2) (v := .int .i64 0) rfl
  have f3_0 := B3.out.frozen 0
  have f3_1 := B3.out.frozen 1
  have f3_2 := B3.out.frozen 2
  have k3_0 : w.heap.size + 1 + 1 + 1 < w2.heap.size := by have := B3.out.lt; omega
  go_wp2_with fail
  have R3 : Blk (((w2.setCell ⟨w.heap.size + 1 + 1 + 1, 0, none⟩ (.int .i64 0)).setCell ⟨w.heap.size + 1 + 1 + 1, 1, none⟩ (.int .u64 0)).setCell ⟨w.heap.size + 1 + 1 + 1, 2, none⟩ (.int .i64 0)) (w.heap.size + 1 + 1 + 1) 24 #[.int .i64 0, .int .u64 0, .int .i64 0] := (Blk.set' (u := .int .i64 0) (i := 2) (cs' := #[.int .i64 0, .int .u64 0, .int .i64 0]) (Blk.set' (u := .int .u64 0) (i := 1) (cs' := #[.int .i64 0, .int .u64 0, .int .i64 0]) (Blk.set' (u := .int .i64 0) (i := 0) (cs' := #[.int .i64 0, .int .u64 0, .int .i64 0]) B3.out rfl) rfl) rfl)
  have k3_0 := R3.at_ (i := 0) (v := .int .i64 0) rfl
  have k3_1 := R3.at_ (i := 1) (v := .int .u64 0) rfl
  have k3_2 := R3.at_ (i := 2) (v := .int .i64 0) rfl
  have HZ : Below w.heap.size w (((w2.setCell ⟨w.heap.size + 1 + 1 + 1, 0, none⟩ (.int .i64 0)).setCell ⟨w.heap.size + 1 + 1 + 1, 1, none⟩ (.int .u64 0)).setCell ⟨w.heap.size + 1 + 1 + 1, 2, none⟩ (.int .i64 0)) := (below_set (below_set (below_set HB.out (by omega) _) (by omega) _) (by omega) _)
  refine bodyPost_ret (v := .tuple #[.agg #[.int .i64 0, .int .u64 0, .int .i64 0], .int .i64 20]) (by simp [results, Tryd.results17, go_sem, k3_0, k3_1, k3_2]) rfl ⟨rfl, HZ⟩
set_option maxRecDepth 100000 in
set_option maxHeartbeats 4000000 in
theorem rFloat_3 (cur a high x : Lab) (w : World) (h0 : RJoinIs cur a x 0) (h1 : RRightIs high true) (h2 : RUnderIs x high false) :
    Calls Tryd.prog 17 #[.agg #[.int .i64 cur.lv, .int .u64 (u cur.c), .int .i64 cur.ig], .agg #[.int .i64 a.lv, .int .u64 (u a.c), .int .i64 a.ig], .agg #[.int .i64 high.lv, .int .u64 (u high.c), .int .i64 high.ig]] w (fun e w' => e = .returned (.tuple #[.agg #[.int .i64 0, .int .u64 0, .int .i64 0], .int .i64 120]) ∧ Below w.heap.size w w') := by
  have H0 := Lib.hid h0
  clear h0
  have H1 := Lib.hid h1
  clear h1
  have H2 := Lib.hid h2
  clear h2
  have HB := Lib.hid (Below.refl w.heap.size w)
  go_enter Tryd.func17, Tryd.ntmps17
  go_wp2_with fail
  refine (H0.out _).mono ?_
  rintro e w1 ⟨rfl, hB⟩
  replace HB := Lib.hid (below_call (w := w) (by repeat (first | exact HB.out | refine below_alloc ?_ _ | refine Below.drew ?_ | refine below_set ?_ (by omega) _)) hB)
  have z1 : w.heap.size ≤ w1.heap.size := HB.out.size
  have B2 : Hid (Blk w1 (w.heap.size + 1 + 1) 24 #[.int .i64 high.lv, .int .u64 (u high.c), .int .i64 high.ig]) := Lib.hid (Blk.after (by repeat (first | exact Blk.new' (by simp; done) | exact Blk.new' rfl | refine Blk.drew ?_ | refine Blk.alloc ?_ _)) hB)
  have B3 : Hid (Blk w1 (w.heap.size + 1 + 1 + 1) 24 #[.int .i64 0, .int .u64 0, .int .i64 0]) := Lib.hid (Blk.after (by repeat (first | exact Blk.new' (by simp; done) | exact Blk.new' rfl | refine Blk.drew ?_ | refine Blk.alloc ?_ _)) hB)
  clear hB
  have p2_0 := B2.out.at_ (i := 0) (v := .int .i64 high.lv) rfl
  have p2_1 := B2.out.at_ (i := 1) (v := .int .u64 (u high.c)) rfl
  have p2_2 := B2.out.at_ (i := 2) (v := .int .i64 high.ig) rfl
  have k2_0 : w.heap.size + 1 + 1 < w1.heap.size := by have := B2.out.lt; omega
  have k2_1 : w.heap.size + 1 + 1 < w1.heap.size + 1 := by have := B2.out.lt; omega
  go_wp2_with fail
  refine (H1.out _).mono ?_
  rintro e w2 ⟨rfl, hB⟩
  replace HB := Lib.hid (below_call (w := w) (by repeat (first | exact HB.out | refine below_alloc ?_ _ | refine Below.drew ?_ | refine below_set ?_ (by omega) _)) hB)
  have z2 : w.heap.size ≤ w2.heap.size := HB.out.size
  replace B2 : Hid (Blk w2 (w.heap.size + 1 + 1) 24 #[.int .i64 high.lv, .int .u64 (u high.c), .int .i64 high.ig]) := Lib.hid (Blk.after (by repeat (first | exact B2.out | exact Blk.new' (by simp; done) | exact Blk.new' rfl | refine Blk.drew ?_ | refine Blk.alloc ?_ _)) hB)
  replace B3 : Hid (Blk w2 (w.heap.size + 1 + 1 + 1) 24 #[.int .i64 0, .int .u64 0, .int .i64 0]) := Lib.hid (Blk.after (by repeat (first | exact B3.out | exact Blk.new' (by simp; done) | exact Blk.new' rfl | refine Blk.drew ?_ | refine Blk.alloc ?_ _)) hB)
  have B4 : Hid (Blk w2 (w1.heap.size) 24 #[.int .i64 x.lv, .int .u64 (u x.c), .int .i64 x.ig]) := Lib.hid (Blk.after (by repeat (first | exact Blk.new' (by simp; done) | exact Blk.new' rfl | refine Blk.drew ?_ | refine Blk.alloc ?_ _)) hB)
  clear p2_0 p2_1 p2_2 k2_0 k2_1
  clear hB
  have p2_0 := B2.out.at_ (i := 0) (v := .int .i64 high.lv) rfl
  have p2_1 := B2.out.at_ (i := 1) (v := .int .u64 (u high.c)) rfl
  have p2_2 := B2.out.at_ (i := 2) (v := .int .i64 high.ig) rfl
  have k2_0 : w.heap.size + 1 + 1 < w2.heap.size := by have := B2.out.lt; omega
  have p4_0 := B4.out.at_ (i := 0) (v := .int .i64 x.lv) rfl
  have p4_1 := B4.out.at_ (i := 1) (v := .int .u64 (u x.c)) rfl
  have p4_2 := B4.out.at_ (i := 2) (v := .int .i64 x.ig) rfl
  have k4_0 : w1.heap.size < w2.heap.size := by have := B4.out.lt; omega
  go_wp2_with fail
  refine (H2.out _).mono ?_
  rintro e w3 ⟨rfl, hB⟩
  replace HB := Lib.hid (below_call (w := w) (by repeat (first | exact HB.out | refine below_alloc ?_ _ | refine Below.drew ?_ | refine below_set ?_ (by omega) _)) hB)
  have z3 : w.heap.size ≤ w3.heap.size := HB.out.size
  replace B3 : Hid (Blk w3 (w.heap.size + 1 + 1 + 1) 24 #[.int .i64 0, .int .u64 0, .int .i64 0]) := Lib.hid (Blk.after (by repeat (first | exact B3.out | exact Blk.new' (by simp; done) | exact Blk.new' rfl | refine Blk.drew ?_ | refine Blk.alloc ?_ _)) hB)
  clear p2_0 p2_1 p2_2 k2_0 p4_0 p4_1 p4_2 k4_0
  clear hB
  have p3_0 := B3.out.at_ (i := 0) (v := .int .i64 0) rfl
  have p3_1 := B3.out.at_ (i := 1) (v := .int .u64 0) rfl
  have p3_2 := B3.out.at_ (i := 2) (v := .int .i64 0) rfl
  have f3_0 := B3.out.frozen 0
  have f3_1 := B3.out.frozen 1
  have f3_2 := B3.out.frozen 2
  have k3_0 : w.heap.size + 1 + 1 + 1 < w3.heap.size := by have := B3.out.lt; omega
  go_wp2_with fail
  have R3 : Blk (((w3.setCell ⟨w.heap.size + 1 + 1 + 1, 0, none⟩ (.int .i64 0)).setCell ⟨w.heap.size + 1 + 1 + 1, 1, none⟩ (.int .u64 0)).setCell ⟨w.heap.size + 1 + 1 + 1, 2, none⟩ (.int .i64 0)) (w.heap.size + 1 + 1 + 1) 24 #[.int .i64 0, .int .u64 0, .int .i64 0] := (Blk.set' (u := .int .i64 0) (i := 2) (cs' := #[.int .i64 0, .int .u64 0, .int .i64 0]) (Blk.set' (u := .int .u64 0) (i := 1) (cs' := #[.int .i64 0, .int .u64 0, .int .i64 0]) (Blk.set' (u := .int .i64 0) (i := 0) (cs' := #[.int .i64 0, .int .u64 0, .int .i64 0]) B3.out rfl) rfl) rfl)
  have k3_0 := R3.at_ (i := 0) (v := .int .i64 0) rfl
  have k3_1 := R3.at_ (i := 1) (v := .int .u64 0) rfl
  have k3_2 := R3.at_ (i := 2) (v := .int .i64 0) rfl
  have HZ : Below w.heap.size w (((w3.setCell ⟨w.heap.size + 1 + 1 + 1, 0, none⟩ (.int .i64 0)).setCell ⟨w.heap.size + 1 + 1 + 1, 1, none⟩ (.int .u64 0)).setCell ⟨w.heap.size + 1 + 1 + 1, 2, none⟩ (.int .i64 0)) := (below_set (below_set (below_set HB.out (by omega) _) (by omega) _) (by omega) _)
  refine bodyPost_ret (v := .tuple #[.agg #[.int .i64 0, .int .u64 0, .int .i64 0], .int .i64 120]) (by simp [results, Tryd.results17, go_sem, k3_0, k3_1, k3_2]) rfl ⟨rfl, HZ⟩
set_option maxRecDepth 100000 in
set_option maxHeartbeats 4000000 in
theorem rFloat_4 (cur a high x : Lab) (w : World) (h0 : RJoinIs cur a x 0) (h1 : RRightIs high true) (h2 : RUnderIs x high true) :
    Calls Tryd.prog 17 #[.agg #[.int .i64 cur.lv, .int .u64 (u cur.c), .int .i64 cur.ig], .agg #[.int .i64 a.lv, .int .u64 (u a.c), .int .i64 a.ig], .agg #[.int .i64 high.lv, .int .u64 (u high.c), .int .i64 high.ig]] w (fun e w' => e = .returned (.tuple #[.agg #[.int .i64 x.lv, .int .u64 (u x.c), .int .i64 x.ig], .int .i64 0]) ∧ Below w.heap.size w w') := by
  have H0 := Lib.hid h0
  clear h0
  have H1 := Lib.hid h1
  clear h1
  have H2 := Lib.hid h2
  clear h2
  have HB := Lib.hid (Below.refl w.heap.size w)
  go_enter Tryd.func17, Tryd.ntmps17
  go_wp2_with fail
  refine (H0.out _).mono ?_
  rintro e w1 ⟨rfl, hB⟩
  replace HB := Lib.hid (below_call (w := w) (by repeat (first | exact HB.out | refine below_alloc ?_ _ | refine Below.drew ?_ | refine below_set ?_ (by omega) _)) hB)
  have z1 : w.heap.size ≤ w1.heap.size := HB.out.size
  have B2 : Hid (Blk w1 (w.heap.size + 1 + 1) 24 #[.int .i64 high.lv, .int .u64 (u high.c), .int .i64 high.ig]) := Lib.hid (Blk.after (by repeat (first | exact Blk.new' (by simp; done) | exact Blk.new' rfl | refine Blk.drew ?_ | refine Blk.alloc ?_ _)) hB)
  have B3 : Hid (Blk w1 (w.heap.size + 1 + 1 + 1) 24 #[.int .i64 0, .int .u64 0, .int .i64 0]) := Lib.hid (Blk.after (by repeat (first | exact Blk.new' (by simp; done) | exact Blk.new' rfl | refine Blk.drew ?_ | refine Blk.alloc ?_ _)) hB)
  clear hB
  have p2_0 := B2.out.at_ (i := 0) (v := .int .i64 high.lv) rfl
  have p2_1 := B2.out.at_ (i := 1) (v := .int .u64 (u high.c)) rfl
  have p2_2 := B2.out.at_ (i := 2) (v := .int .i64 high.ig) rfl
  have k2_0 : w.heap.size + 1 + 1 < w1.heap.size := by have := B2.out.lt; omega
  have k2_1 : w.heap.size + 1 + 1 < w1.heap.size + 1 := by have := B2.out.lt; omega
  go_wp2_with fail
  refine (H1.out _).mono ?_
  rintro e w2 ⟨rfl, hB⟩
  replace HB := Lib.hid (below_call (w := w) (by repeat (first | exact HB.out | refine below_alloc ?_ _ | refine Below.drew ?_ | refine below_set ?_ (by omega) _)) hB)
  have z2 : w.heap.size ≤ w2.heap.size := HB.out.size
  replace B2 : Hid (Blk w2 (w.heap.size + 1 + 1) 24 #[.int .i64 high.lv, .int .u64 (u high.c), .int .i64 high.ig]) := Lib.hid (Blk.after (by repeat (first | exact B2.out | exact Blk.new' (by simp; done) | exact Blk.new' rfl | refine Blk.drew ?_ | refine Blk.alloc ?_ _)) hB)
  replace B3 : Hid (Blk w2 (w.heap.size + 1 + 1 + 1) 24 #[.int .i64 0, .int .u64 0, .int .i64 0]) := Lib.hid (Blk.after (by repeat (first | exact B3.out | exact Blk.new' (by simp; done) | exact Blk.new' rfl | refine Blk.drew ?_ | refine Blk.alloc ?_ _)) hB)
  have B4 : Hid (Blk w2 (w1.heap.size) 24 #[.int .i64 x.lv, .int .u64 (u x.c), .int .i64 x.ig]) := Lib.hid (Blk.after (by repeat (first | exact Blk.new' (by simp; done) | exact Blk.new' rfl | refine Blk.drew ?_ | refine Blk.alloc ?_ _)) hB)
  clear p2_0 p2_1 p2_2 k2_0 k2_1
  clear hB
  have p2_0 := B2.out.at_ (i := 0) (v := .int .i64 high.lv) rfl
  have p2_1 := B2.out.at_ (i := 1) (v := .int .u64 (u high.c)) rfl
  have p2_2 := B2.out.at_ (i := 2) (v := .int .i64 high.ig) rfl
  have k2_0 : w.heap.size + 1 + 1 < w2.heap.size := by have := B2.out.lt; omega
  have p4_0 := B4.out.at_ (i := 0) (v := .int .i64 x.lv) rfl
  have p4_1 := B4.out.at_ (i := 1) (v := .int .u64 (u x.c)) rfl
  have p4_2 := B4.out.at_ (i := 2) (v := .int .i64 x.ig) rfl
  have k4_0 : w1.heap.size < w2.heap.size := by have := B4.out.lt; omega
  go_wp2_with fail
  refine (H2.out _).mono ?_
  rintro e w3 ⟨rfl, hB⟩
  replace HB := Lib.hid (below_call (w := w) (by repeat (first | exact HB.out | refine below_alloc ?_ _ | refine Below.drew ?_ | refine below_set ?_ (by omega) _)) hB)
  have z3 : w.heap.size ≤ w3.heap.size := HB.out.size
  replace B3 : Hid (Blk w3 (w.heap.size + 1 + 1 + 1) 24 #[.int .i64 0, .int .u64 0, .int .i64 0]) := Lib.hid (Blk.after (by repeat (first | exact B3.out | exact Blk.new' (by simp; done) | exact Blk.new' rfl | refine Blk.drew ?_ | refine Blk.alloc ?_ _)) hB)
  replace B4 : Hid (Blk w3 (w1.heap.size) 24 #[.int .i64 x.lv, .int .u64 (u x.c), .int .i64 x.ig]) := Lib.hid (Blk.after (by repeat (first | exact B4.out | exact Blk.new' (by simp; done) | exact Blk.new' rfl | refine Blk.drew ?_ | refine Blk.alloc ?_ _)) hB)
  clear p2_0 p2_1 p2_2 k2_0 p4_0 p4_1 p4_2 k4_0
  clear hB
  have p3_0 := B3.out.at_ (i := 0) (v := .int .i64 0) rfl
  have p3_1 := B3.out.at_ (i := 1) (v := .int .u64 0) rfl
  have p3_2 := B3.out.at_ (i := 2) (v := .int .i64 0) rfl
  have f3_0 := B3.out.frozen 0
  have f3_1 := B3.out.frozen 1
  have f3_2 := B3.out.frozen 2
  have k3_0 : w.heap.size + 1 + 1 + 1 < w3.heap.size := by have := B3.out.lt; omega
  have p4_0 := B4.out.at_ (i := 0) (v := .int .i64 x.lv) rfl
  have p4_1 := B4.out.at_ (i := 1) (v := .int .u64 (u x.c)) rfl
  have p4_2 := B4.out.at_ (i := 2) (v := .int .i64 x.ig) rfl
  have k4_0 : w1.heap.size < w3.heap.size := by have := B4.out.lt; omega
  go_wp2_with fail
  have R3 : Blk (((w3.setCell ⟨w.heap.size + 1 + 1 + 1, 0, none⟩ (.int .i64 x.lv)).setCell ⟨w.heap.size + 1 + 1 + 1, 1, none⟩ (.int .u64 (u x.c))).setCell ⟨w.heap.size + 1 + 1 + 1, 2, none⟩ (.int .i64 x.ig)) (w.heap.size + 1 + 1 + 1) 24 #[.int .i64 x.lv, .int .u64 (u x.c), .int .i64 x.ig] := (Blk.set' (u := .int .i64 x.ig) (i := 2) (cs' := #[.int .i64 x.lv, .int .u64 (u x.c), .int .i64 x.ig]) (Blk.set' (u := .int .u64 (u x.c)) (i := 1) (cs' := #[.int .i64 x.lv, .int .u64 (u x.c), .int .i64 0]) (Blk.set' (u := .int .i64 x.lv) (i := 0) (cs' := #[.int .i64 x.lv, .int .u64 0, .int .i64 0]) B3.out rfl) rfl) rfl)
  have k3_0 := R3.at_ (i := 0) (v := .int .i64 x.lv) rfl
  have k3_1 := R3.at_ (i := 1) (v := .int .u64 (u x.c)) rfl
  have k3_2 := R3.at_ (i := 2) (v := .int .i64 x.ig) rfl
  have HZ : Below w.heap.size w (((w3.setCell ⟨w.heap.size + 1 + 1 + 1, 0, none⟩ (.int .i64 x.lv)).setCell ⟨w.heap.size + 1 + 1 + 1, 1, none⟩ (.int .u64 (u x.c))).setCell ⟨w.heap.size + 1 + 1 + 1, 2, none⟩ (.int .i64 x.ig)) := (below_set (below_set (below_set HB.out (by omega) _) (by omega) _) (by omega) _)
  refine bodyPost_ret (v := .tuple #[.agg #[.int .i64 x.lv, .int .u64 (u x.c), .int .i64 x.ig], .int .i64 0]) (by simp [results, Tryd.results17, go_sem, k3_0, k3_1, k3_2]) rfl ⟨rfl, HZ⟩
theorem rFloat_any (cur a high : Lab) (w : World) :
    Calls Tryd.prog 17 #[.agg #[.int .i64 cur.lv, .int .u64 (u cur.c), .int .i64 cur.ig], .agg #[.int .i64 a.lv, .int .u64 (u a.c), .int .i64 a.ig], .agg #[.int .i64 high.lv, .int .u64 (u high.c), .int .i64 high.ig]] w fun e w' => e = .returned (.tuple #[.agg #[.int .i64 (floatL cur a high).lv, .int .u64 (u (floatL cur a high).c), .int .i64 (floatL cur a high).ig], .int .i64 (floatE cur a high)]) ∧ Below w.heap.size w w' := by
  unfold floatL floatE
  by_cases hc : okL cur = true ∧ okL a = true
  · obtain ⟨hc, ha⟩ := hc
    have hj := fun W => rJoin_ok hc ha W
    by_cases hg : okL high = true
    · rw [hc, ha, hg]
      simp only [Bool.and_self, if_true]
      by_cases hl : le3 (joinL cur a) high = true
      · rw [if_pos hl, if_pos hl]
        exact rFloat_4 cur a high _ w hj (rRightIs hg) (rUnderIs (underL_iff.2 ⟨okL_join hc ha, hg, hl⟩))
      · rw [if_neg hl, if_neg hl]
        exact rFloat_3 cur a high _ w hj (rRightIs hg) (rUnderIs (nbool fun k => hl (underL_iff.1 k).2.2))
    · rw [nbool hg, Bool.and_false]
      exact rFloat_2 cur a high _ w hj (rRightIs (nbool hg))
  · have he : (okL cur && okL a) = false := nbool fun k => hc (by simpa using k)
    rw [he]
    exact rFloat_1 cur a high w (fun W => rJoin_no hc W)
set_option maxRecDepth 100000 in
set_option maxHeartbeats 4000000 in
theorem rReads_1 (cur a : Lab) (r : Bool) (w : World) (h0 : RUnderIs a cur r) :
    Calls Tryd.prog 21 #[.agg #[.int .i64 cur.lv, .int .u64 (u cur.c), .int .i64 cur.ig], .agg #[.int .i64 a.lv, .int .u64 (u a.c), .int .i64 a.ig]] w (fun e w' => e = .returned (.bool r) ∧ Below w.heap.size w w') := by
  have H0 := Lib.hid h0
  clear h0
  have HB := Lib.hid (Below.refl w.heap.size w)
  go_enter Tryd.func21, Tryd.ntmps21
  go_wp2_with fail
  refine (H0.out _).mono ?_
  rintro e w1 ⟨rfl, hB⟩
  replace HB := Lib.hid (below_call (w := w) (by repeat (first | exact HB.out | refine below_alloc ?_ _ | refine Below.drew ?_ | refine below_set ?_ (by omega) _)) hB)
  have z1 : w.heap.size ≤ w1.heap.size := HB.out.size
  clear hB
  go_wp2_with fail
  go_ret
  exact ⟨rfl, (by repeat (first | exact HB.out | refine below_alloc ?_ _ | refine Below.drew ?_ | refine below_set ?_ (by omega) _))⟩
set_option maxRecDepth 100000 in
set_option maxHeartbeats 4000000 in
theorem rWrites_1 (cur a : Lab) (w : World) (h0 : RRightIs a false) :
    Calls Tryd.prog 22 #[.agg #[.int .i64 cur.lv, .int .u64 (u cur.c), .int .i64 cur.ig], .agg #[.int .i64 a.lv, .int .u64 (u a.c), .int .i64 a.ig]] w (fun e w' => e = .returned (.bool false) ∧ Below w.heap.size w w') := by
  have H0 := Lib.hid h0
  clear h0
  have HB := Lib.hid (Below.refl w.heap.size w)
  go_enter Tryd.func22, Tryd.ntmps22
  go_wp2_with fail
  refine (H0.out _).mono ?_
  rintro e w1 ⟨rfl, hB⟩
  replace HB := Lib.hid (below_call (w := w) (by repeat (first | exact HB.out | refine below_alloc ?_ _ | refine Below.drew ?_ | refine below_set ?_ (by omega) _)) hB)
  have z1 : w.heap.size ≤ w1.heap.size := HB.out.size
  clear hB
  go_wp2_with fail
  go_ret
  exact ⟨rfl, (by repeat (first | exact HB.out | refine below_alloc ?_ _ | refine Below.drew ?_ | refine below_set ?_ (by omega) _))⟩
set_option maxRecDepth 100000 in
set_option maxHeartbeats 4000000 in
theorem rWrites_2 (cur a : Lab) (r : Bool) (w : World) (h0 : RRightIs a true) (h1 : ∀ W, (binOp .eql 24 (.agg #[.int .i64 a.lv, .int .u64 (u a.c), .int .i64 a.ig]) (.agg #[.int .i64 cur.lv, .int .u64 (u cur.c), .int .i64 cur.ig])).run Tryd.prog W = .ok (.bool r) W) :
    Calls Tryd.prog 22 #[.agg #[.int .i64 cur.lv, .int .u64 (u cur.c), .int .i64 cur.ig], .agg #[.int .i64 a.lv, .int .u64 (u a.c), .int .i64 a.ig]] w (fun e w' => e = .returned (.bool r) ∧ Below w.heap.size w w') := by
  have H0 := Lib.hid h0
  clear h0
  have HB := Lib.hid (Below.refl w.heap.size w)
  go_enter Tryd.func22, Tryd.ntmps22
  go_wp2_with fail
  refine (H0.out _).mono ?_
  rintro e w1 ⟨rfl, hB⟩
  replace HB := Lib.hid (below_call (w := w) (by repeat (first | exact HB.out | refine below_alloc ?_ _ | refine Below.drew ?_ | refine below_set ?_ (by omega) _)) hB)
  have z1 : w.heap.size ≤ w1.heap.size := HB.out.size
  have B0 : Hid (Blk w1 (w.heap.size) 24 #[.int .i64 cur.lv, .int .u64 (u cur.c), .int .i64 cur.ig]) := Lib.hid (Blk.after (by repeat (first | exact Blk.new' (by simp; done) | exact Blk.new' rfl | refine Blk.drew ?_ | refine Blk.alloc ?_ _)) hB)
  have B1 : Hid (Blk w1 (w.heap.size + 1) 24 #[.int .i64 a.lv, .int .u64 (u a.c), .int .i64 a.ig]) := Lib.hid (Blk.after (by repeat (first | exact Blk.new' (by simp; done) | exact Blk.new' rfl | refine Blk.drew ?_ | refine Blk.alloc ?_ _)) hB)
  clear hB
  have p0_0 := B0.out.at_ (i := 0) (v := .int .i64 cur.lv) rfl
  have p0_1 := B0.out.at_ (i := 1) (v := .int .u64 (u cur.c)) rfl
  have p0_2 := B0.out.at_ (i := 2) (v := .int .i64 cur.ig) rfl
  have k0_0 : w.heap.size < w1.heap.size := by have := B0.out.lt; omega
  have p1_0 := B1.out.at_ (i := 0) (v := .int .i64 a.lv) rfl
  have p1_1 := B1.out.at_ (i := 1) (v := .int .u64 (u a.c)) rfl
  have p1_2 := B1.out.at_ (i := 2) (v := .int .i64 a.ig) rfl
  have k1_0 : w.heap.size + 1 < w1.heap.size := by have := B1.out.lt; omega
  go_wp2_with fail
  go_ret
  exact ⟨rfl, (by repeat (first | exact HB.out | refine below_alloc ?_ _ | refine Below.drew ?_ | refine below_set ?_ (by omega) _))⟩
set_option maxRecDepth 100000 in
set_option maxHeartbeats 4000000 in
theorem rSend_1 (cur a : Lab) (w : World) (h0 : RRightIs cur false) :
    Calls Tryd.prog 18 #[.agg #[.int .i64 cur.lv, .int .u64 (u cur.c), .int .i64 cur.ig], .agg #[.int .i64 a.lv, .int .u64 (u a.c), .int .i64 a.ig]] w (fun e w' => e = .returned (.tuple #[.bool false, .int .i64 20]) ∧ Below w.heap.size w w') := by
  have H0 := Lib.hid h0
  clear h0
  have HB := Lib.hid (Below.refl w.heap.size w)
  go_enter Tryd.func18, Tryd.ntmps18
  go_wp2_with fail
  refine (H0.out _).mono ?_
  rintro e w1 ⟨rfl, hB⟩
  replace HB := Lib.hid (below_call (w := w) (by repeat (first | exact HB.out | refine below_alloc ?_ _ | refine Below.drew ?_ | refine below_set ?_ (by omega) _)) hB)
  have z1 : w.heap.size ≤ w1.heap.size := HB.out.size
  clear hB
  go_wp2_with fail
  go_ret2
  exact ⟨rfl, (by repeat (first | exact HB.out | refine below_alloc ?_ _ | refine Below.drew ?_ | refine below_set ?_ (by omega) _))⟩
set_option maxRecDepth 100000 in
set_option maxHeartbeats 4000000 in
theorem rSend_2 (cur a : Lab) (w : World) (h0 : RRightIs cur true) (h1 : RRightIs a false) :
    Calls Tryd.prog 18 #[.agg #[.int .i64 cur.lv, .int .u64 (u cur.c), .int .i64 cur.ig], .agg #[.int .i64 a.lv, .int .u64 (u a.c), .int .i64 a.ig]] w (fun e w' => e = .returned (.tuple #[.bool false, .int .i64 20]) ∧ Below w.heap.size w w') := by
  have H0 := Lib.hid h0
  clear h0
  have H1 := Lib.hid h1
  clear h1
  have HB := Lib.hid (Below.refl w.heap.size w)
  go_enter Tryd.func18, Tryd.ntmps18
  go_wp2_with fail
  refine (H0.out _).mono ?_
  rintro e w1 ⟨rfl, hB⟩
  replace HB := Lib.hid (below_call (w := w) (by repeat (first | exact HB.out | refine below_alloc ?_ _ | refine Below.drew ?_ | refine below_set ?_ (by omega) _)) hB)
  have z1 : w.heap.size ≤ w1.heap.size := HB.out.size
  have B1 : Hid (Blk w1 (w.heap.size + 1) 24 #[.int .i64 a.lv, .int .u64 (u a.c), .int .i64 a.ig]) := Lib.hid (Blk.after (by repeat (first | exact Blk.new' (by simp; done) | exact Blk.new' rfl | refine Blk.drew ?_ | refine Blk.alloc ?_ _)) hB)
  clear hB
  have p1_0 := B1.out.at_ (i := 0) (v := .int .i64 a.lv) rfl
  have p1_1 := B1.out.at_ (i := 1) (v := .int .u64 (u a.c)) rfl
  have p1_2 := B1.out.at_ (i := 2) (v := .int .i64 a.ig) rfl
  have k1_0 : w.heap.size + 1 < w1.heap.size := by have := B1.out.lt; omega
  go_wp2_with fail
  refine (H1.out _).mono ?_
  rintro e w2 ⟨rfl, hB⟩
  replace HB := Lib.hid (below_call (w := w) (by repeat (first | exact HB.out | refine below_alloc ?_ _ | refine Below.drew ?_ | refine below_set ?_ (by omega) _)) hB)
  have z2 : w.heap.size ≤ w2.heap.size := HB.out.size
  clear p1_0 p1_1 p1_2 k1_0
  clear hB
  go_wp2_with fail
  go_ret2
  exact ⟨rfl, (by repeat (first | exact HB.out | refine below_alloc ?_ _ | refine Below.drew ?_ | refine below_set ?_ (by omega) _))⟩
set_option maxRecDepth 100000 in
set_option maxHeartbeats 4000000 in
theorem rSend_3 (cur a : Lab) (w : World) (h0 : RRightIs cur true) (h1 : RRightIs a true) (h2 : RUnderIs cur a false) :
    Calls Tryd.prog 18 #[.agg #[.int .i64 cur.lv, .int .u64 (u cur.c), .int .i64 cur.ig], .agg #[.int .i64 a.lv, .int .u64 (u a.c), .int .i64 a.ig]] w (fun e w' => e = .returned (.tuple #[.bool false, .int .i64 121]) ∧ Below w.heap.size w w') := by
  have H0 := Lib.hid h0
  clear h0
  have H1 := Lib.hid h1
  clear h1
  have H2 := Lib.hid h2
  clear h2
  have HB := Lib.hid (Below.refl w.heap.size w)
  go_enter Tryd.func18, Tryd.ntmps18
  go_wp2_with fail
  refine (H0.out _).mono ?_
  rintro e w1 ⟨rfl, hB⟩
  replace HB := Lib.hid (below_call (w := w) (by repeat (first | exact HB.out | refine below_alloc ?_ _ | refine Below.drew ?_ | refine below_set ?_ (by omega) _)) hB)
  have z1 : w.heap.size ≤ w1.heap.size := HB.out.size
  have B0 : Hid (Blk w1 (w.heap.size) 24 #[.int .i64 cur.lv, .int .u64 (u cur.c), .int .i64 cur.ig]) := Lib.hid (Blk.after (by repeat (first | exact Blk.new' (by simp; done) | exact Blk.new' rfl | refine Blk.drew ?_ | refine Blk.alloc ?_ _)) hB)
  have B1 : Hid (Blk w1 (w.heap.size + 1) 24 #[.int .i64 a.lv, .int .u64 (u a.c), .int .i64 a.ig]) := Lib.hid (Blk.after (by repeat (first | exact Blk.new' (by simp; done) | exact Blk.new' rfl | refine Blk.drew ?_ | refine Blk.alloc ?_ _)) hB)
  clear hB
  have p1_0 := B1.out.at_ (i := 0) (v := .int .i64 a.lv) rfl
  have p1_1 := B1.out.at_ (i := 1) (v := .int .u64 (u a.c)) rfl
  have p1_2 := B1.out.at_ (i := 2) (v := .int .i64 a.ig) rfl
  have k1_0 : w.heap.size + 1 < w1.heap.size := by have := B1.out.lt; omega
  go_wp2_with fail
  refine (H1.out _).mono ?_
  rintro e w2 ⟨rfl, hB⟩
  replace HB := Lib.hid (below_call (w := w) (by repeat (first | exact HB.out | refine below_alloc ?_ _ | refine Below.drew ?_ | refine below_set ?_ (by omega) _)) hB)
  have z2 : w.heap.size ≤ w2.heap.size := HB.out.size
  replace B0 : Hid (Blk w2 (w.heap.size) 24 #[.int .i64 cur.lv, .int .u64 (u cur.c), .int .i64 cur.ig]) := Lib.hid (Blk.after (by repeat (first | exact B0.out | exact Blk.new' (by simp; done) | exact Blk.new' rfl | refine Blk.drew ?_ | refine Blk.alloc ?_ _)) hB)
  replace B1 : Hid (Blk w2 (w.heap.size + 1) 24 #[.int .i64 a.lv, .int .u64 (u a.c), .int .i64 a.ig]) := Lib.hid (Blk.after (by repeat (first | exact B1.out | exact Blk.new' (by simp; done) | exact Blk.new' rfl | refine Blk.drew ?_ | refine Blk.alloc ?_ _)) hB)
  clear p1_0 p1_1 p1_2 k1_0
  clear hB
  have p0_0 := B0.out.at_ (i := 0) (v := .int .i64 cur.lv) rfl
  have p0_1 := B0.out.at_ (i := 1) (v := .int .u64 (u cur.c)) rfl
  have p0_2 := B0.out.at_ (i := 2) (v := .int .i64 cur.ig) rfl
  have k0_0 : w.heap.size < w2.heap.size := by have := B0.out.lt; omega
  have p1_0 := B1.out.at_ (i := 0) (v := .int .i64 a.lv) rfl
  have p1_1 := B1.out.at_ (i := 1) (v := .int .u64 (u a.c)) rfl
  have p1_2 := B1.out.at_ (i := 2) (v := .int .i64 a.ig) rfl
  have k1_0 : w.heap.size + 1 < w2.heap.size := by have := B1.out.lt; omega
  go_wp2_with fail
  refine (H2.out _).mono ?_
  rintro e w3 ⟨rfl, hB⟩
  replace HB := Lib.hid (below_call (w := w) (by repeat (first | exact HB.out | refine below_alloc ?_ _ | refine Below.drew ?_ | refine below_set ?_ (by omega) _)) hB)
  have z3 : w.heap.size ≤ w3.heap.size := HB.out.size
  clear p0_0 p0_1 p0_2 k0_0 p1_0 p1_1 p1_2 k1_0
  clear hB
  go_wp2_with fail
  go_ret2
  exact ⟨rfl, (by repeat (first | exact HB.out | refine below_alloc ?_ _ | refine Below.drew ?_ | refine below_set ?_ (by omega) _))⟩
set_option maxRecDepth 100000 in
set_option maxHeartbeats 4000000 in
theorem rSend_4 (cur a : Lab) (r : Bool) (w : World) (h0 : RRightIs cur true) (h1 : RRightIs a true) (h2 : RUnderIs cur a true) (h3 : ∀ W, (binOp .neq 24 (.agg #[.int .i64 cur.lv, .int .u64 (u cur.c), .int .i64 cur.ig]) (.agg #[.int .i64 a.lv, .int .u64 (u a.c), .int .i64 a.ig])).run Tryd.prog W = .ok (.bool r) W) :
    Calls Tryd.prog 18 #[.agg #[.int .i64 cur.lv, .int .u64 (u cur.c), .int .i64 cur.ig], .agg #[.int .i64 a.lv, .int .u64 (u a.c), .int .i64 a.ig]] w (fun e w' => e = .returned (.tuple #[.bool r, .int .i64 0]) ∧ Below w.heap.size w w') := by
  have H0 := Lib.hid h0
  clear h0
  have H1 := Lib.hid h1
  clear h1
  have H2 := Lib.hid h2
  clear h2
  have HB := Lib.hid (Below.refl w.heap.size w)
  go_enter Tryd.func18, Tryd.ntmps18
  go_wp2_with fail
  refine (H0.out _).mono ?_
  rintro e w1 ⟨rfl, hB⟩
  replace HB := Lib.hid (below_call (w := w) (by repeat (first | exact HB.out | refine below_alloc ?_ _ | refine Below.drew ?_ | refine below_set ?_ (by omega) _)) hB)
  have z1 : w.heap.size ≤ w1.heap.size := HB.out.size
  have B0 : Hid (Blk w1 (w.heap.size) 24 #[.int .i64 cur.lv, .int .u64 (u cur.c), .int .i64 cur.ig]) := Lib.hid (Blk.after (by repeat (first | exact Blk.new' (by simp; done) | exact Blk.new' rfl | refine Blk.drew ?_ | refine Blk.alloc ?_ _)) hB)
  have B1 : Hid (Blk w1 (w.heap.size + 1) 24 #[.int .i64 a.lv, .int .u64 (u a.c), .int .i64 a.ig]) := Lib.hid (Blk.after (by repeat (first | exact Blk.new' (by simp; done) | exact Blk.new' rfl | refine Blk.drew ?_ | refine Blk.alloc ?_ _)) hB)
  clear hB
  have p1_0 := B1.out.at_ (i := 0) (v := .int .i64 a.lv) rfl
  have p1_1 := B1.out.at_ (i := 1) (v := .int .u64 (u a.c)) rfl
  have p1_2 := B1.out.at_ (i := 2) (v := .int .i64 a.ig) rfl
  have k1_0 : w.heap.size + 1 < w1.heap.size := by have := B1.out.lt; omega
  go_wp2_with fail
  refine (H1.out _).mono ?_
  rintro e w2 ⟨rfl, hB⟩
  replace HB := Lib.hid (below_call (w := w) (by repeat (first | exact HB.out | refine below_alloc ?_ _ | refine Below.drew ?_ | refine below_set ?_ (by omega) _)) hB)
  have z2 : w.heap.size ≤ w2.heap.size := HB.out.size
  replace B0 : Hid (Blk w2 (w.heap.size) 24 #[.int .i64 cur.lv, .int .u64 (u cur.c), .int .i64 cur.ig]) := Lib.hid (Blk.after (by repeat (first | exact B0.out | exact Blk.new' (by simp; done) | exact Blk.new' rfl | refine Blk.drew ?_ | refine Blk.alloc ?_ _)) hB)
  replace B1 : Hid (Blk w2 (w.heap.size + 1) 24 #[.int .i64 a.lv, .int .u64 (u a.c), .int .i64 a.ig]) := Lib.hid (Blk.after (by repeat (first | exact B1.out | exact Blk.new' (by simp; done) | exact Blk.new' rfl | refine Blk.drew ?_ | refine Blk.alloc ?_ _)) hB)
  clear p1_0 p1_1 p1_2 k1_0
  clear hB
  have p0_0 := B0.out.at_ (i := 0) (v := .int .i64 cur.lv) rfl
  have p0_1 := B0.out.at_ (i := 1) (v := .int .u64 (u cur.c)) rfl
  have p0_2 := B0.out.at_ (i := 2) (v := .int .i64 cur.ig) rfl
  have k0_0 : w.heap.size < w2.heap.size := by have := B0.out.lt; omega
  have p1_0 := B1.out.at_ (i := 0) (v := .int .i64 a.lv) rfl
  have p1_1 := B1.out.at_ (i := 1) (v := .int .u64 (u a.c)) rfl
  have p1_2 := B1.out.at_ (i := 2) (v := .int .i64 a.ig) rfl
  have k1_0 : w.heap.size + 1 < w2.heap.size := by have := B1.out.lt; omega
  go_wp2_with fail
  refine (H2.out _).mono ?_
  rintro e w3 ⟨rfl, hB⟩
  replace HB := Lib.hid (below_call (w := w) (by repeat (first | exact HB.out | refine below_alloc ?_ _ | refine Below.drew ?_ | refine below_set ?_ (by omega) _)) hB)
  have z3 : w.heap.size ≤ w3.heap.size := HB.out.size
  replace B0 : Hid (Blk w3 (w.heap.size) 24 #[.int .i64 cur.lv, .int .u64 (u cur.c), .int .i64 cur.ig]) := Lib.hid (Blk.after (by repeat (first | exact B0.out | exact Blk.new' (by simp; done) | exact Blk.new' rfl | refine Blk.drew ?_ | refine Blk.alloc ?_ _)) hB)
  replace B1 : Hid (Blk w3 (w.heap.size + 1) 24 #[.int .i64 a.lv, .int .u64 (u a.c), .int .i64 a.ig]) := Lib.hid (Blk.after (by repeat (first | exact B1.out | exact Blk.new' (by simp; done) | exact Blk.new' rfl | refine Blk.drew ?_ | refine Blk.alloc ?_ _)) hB)
  clear p0_0 p0_1 p0_2 k0_0 p1_0 p1_1 p1_2 k1_0
  clear hB
  have p0_0 := B0.out.at_ (i := 0) (v := .int .i64 cur.lv) rfl
  have p0_1 := B0.out.at_ (i := 1) (v := .int .u64 (u cur.c)) rfl
  have p0_2 := B0.out.at_ (i := 2) (v := .int .i64 cur.ig) rfl
  have k0_0 : w.heap.size < w3.heap.size := by have := B0.out.lt; omega
  have p1_0 := B1.out.at_ (i := 0) (v := .int .i64 a.lv) rfl
  have p1_1 := B1.out.at_ (i := 1) (v := .int .u64 (u a.c)) rfl
  have p1_2 := B1.out.at_ (i := 2) (v := .int .i64 a.ig) rfl
  have k1_0 : w.heap.size + 1 < w3.heap.size := by have := B1.out.lt; omega
  go_wp2_with fail
  go_ret2
  exact ⟨rfl, (by repeat (first | exact HB.out | refine below_alloc ?_ _ | refine Below.drew ?_ | refine below_set ?_ (by omega) _))⟩
set_option maxRecDepth 100000 in
set_option maxHeartbeats 4000000 in
theorem rGain_1 (cur a : Lab) (w : World) (h0 : RRightIs cur false) :
    Calls Tryd.prog 20 #[.agg #[.int .i64 cur.lv, .int .u64 (u cur.c), .int .i64 cur.ig], .agg #[.int .i64 a.lv, .int .u64 (u a.c), .int .i64 a.ig]] w (fun e w' => e = .returned (.tuple #[.agg #[.int .i64 0, .int .u64 0, .int .i64 0], .int .i64 20]) ∧ Below w.heap.size w w') := by
  have H0 := Lib.hid h0
  clear h0
  have HB := Lib.hid (Below.refl w.heap.size w)
  go_enter Tryd.func20, Tryd.ntmps20
  go_wp2_with fail
  refine (H0.out _).mono ?_
  rintro e w1 ⟨rfl, hB⟩
  replace HB := Lib.hid (below_call (w := w) (by repeat (first | exact HB.out | refine below_alloc ?_ _ | refine Below.drew ?_ | refine below_set ?_ (by omega) _)) hB)
  have z1 : w.heap.size ≤ w1.heap.size := HB.out.size
  have B2 : Hid (Blk w1 (w.heap.size + 1 + 1) 24 #[.int .i64 0, .int .u64 0, .int .i64 0]) := Lib.hid (Blk.after (by repeat (first | exact Blk.new' (by simp; done) | exact Blk.new' rfl | refine Blk.drew ?_ | refine Blk.alloc ?_ _)) hB)
  clear hB
  have p2_0 := B2.out.at_ (i := 0) (v := .int .i64 0) rfl
  have p2_1 := B2.out.at_ (i := 1) (v := .int .u64 0) rfl
  have p2_2 := B2.out.at_ (i := 2) (v := .int .i64 0) rfl
  have f2_0 := B2.out.frozen 0
  have f2_1 := B2.out.frozen 1
  have f2_2 := B2.out.frozen 2
  have k2_0 : w.heap.size + 1 + 1 < w1.heap.size := by have := B2.out.lt; omega
  go_wp2_with fail
  have R2 : Blk (((w1.setCell ⟨w.heap.size + 1 + 1, 0, none⟩ (.int .i64 0)).setCell ⟨w.heap.size + 1 + 1, 1, none⟩ (.int .u64 0)).setCell ⟨w.heap.size + 1 + 1, 2, none⟩ (.int .i64 0)) (w.heap.size + 1 + 1) 24 #[.int .i64 0, .int .u64 0, .int .i64 0] := (Blk.set' (u := .int .i64 0) (i := 2) (cs' := #[.int .i64 0, .int .u64 0, .int .i64 0]) (Blk.set' (u := .int .u64 0) (i := 1) (cs' := #[.int .i64 0, .int .u64 0, .int .i64 0]) (Blk.set' (u := .int .i64 0) (i := 0) (cs' := #[.int .i64 0, .int .u64 0, .int .i64 0]) B2.out rfl) rfl) rfl)
  have k2_0 := R2.at_ (i := 0) (v := .int .i64 0) rfl
  have k2_1 := R2.at_ (i := 1) (v := .int .u64 0) rfl
  have k2_2 := R2.at_ (i := 2) (v := .int .i64 0) rfl
  have HZ : Below w.heap.size w (((w1.setCell ⟨w.heap.size + 1 + 1, 0, none⟩ (.int .i64 0)).setCell ⟨w.heap.size + 1 + 1, 1, none⟩ (.int .u64 0)).setCell ⟨w.heap.size + 1 + 1, 2, none⟩ (.int .i64 0)) := (below_set (below_set (below_set HB.out (by omega) _) (by omega) _) (by omega) _)
  refine bodyPost_ret (v := .tuple #[.agg #[.int .i64 0, .int .u64 0, .int .i64 0], .int .i64 20]) (by simp [results, Tryd.results20, go_sem, k2_0, k2_1, k2_2]) rfl ⟨rfl, HZ⟩
set_option maxRecDepth 100000 in
set_option maxHeartbeats 4000000 in
theorem rGain_2 (cur a : Lab) (w : World) (h0 : RRightIs cur true) (h1 : RRightIs a false) :
    Calls Tryd.prog 20 #[.agg #[.int .i64 cur.lv, .int .u64 (u cur.c), .int .i64 cur.ig], .agg #[.int .i64 a.lv, .int .u64 (u a.c), .int .i64 a.ig]] w (fun e w' => e = .returned (.tuple #[.agg #[.int .i64 0, .int .u64 0, .int .i64 0], .int .i64 20]) ∧ Below w.heap.size w w') := by
  have H0 := Lib.hid h0
  clear h0
  have H1 := Lib.hid h1
  clear h1
  have HB := Lib.hid (Below.refl w.heap.size w)
  go_enter Tryd.func20, Tryd.ntmps20
  go_wp2_with fail
  refine (H0.out _).mono ?_
  rintro e w1 ⟨rfl, hB⟩
  replace HB := Lib.hid (below_call (w := w) (by repeat (first | exact HB.out | refine below_alloc ?_ _ | refine Below.drew ?_ | refine below_set ?_ (by omega) _)) hB)
  have z1 : w.heap.size ≤ w1.heap.size := HB.out.size
  have B1 : Hid (Blk w1 (w.heap.size + 1) 24 #[.int .i64 a.lv, .int .u64 (u a.c), .int .i64 a.ig]) := Lib.hid (Blk.after (by repeat (first | exact Blk.new' (by simp; done) | exact Blk.new' rfl | refine Blk.drew ?_ | refine Blk.alloc ?_ _)) hB)
  have B2 : Hid (Blk w1 (w.heap.size + 1 + 1) 24 #[.int .i64 0, .int .u64 0, .int .i64 0]) := Lib.hid (Blk.after (by repeat (first | exact Blk.new' (by simp; done) | exact Blk.new' rfl | refine Blk.drew ?_ | refine Blk.alloc ?_ _)) hB)
  clear hB
  have p1_0 := B1.out.at_ (i := 0) (v := .int .i64 a.lv) rfl
  have p1_1 := B1.out.at_ (i := 1) (v := .int .u64 (u a.c)) rfl
  have p1_2 := B1.out.at_ (i := 2) (v := .int .i64 a.ig) rfl
  have k1_0 : w.heap.size + 1 < w1.heap.size := by have := B1.out.lt; omega
  go_wp2_with fail
  refine (H1.out _).mono ?_
  rintro e w2 ⟨rfl, hB⟩
  replace HB := Lib.hid (below_call (w := w) (by repeat (first | exact HB.out | refine below_alloc ?_ _ | refine Below.drew ?_ | refine below_set ?_ (by omega) _)) hB)
  have z2 : w.heap.size ≤ w2.heap.size := HB.out.size
  replace B2 : Hid (Blk w2 (w.heap.size + 1 + 1) 24 #[.int .i64 0, .int .u64 0, .int .i64 0]) := Lib.hid (Blk.after (by repeat (first | exact B2.out | exact Blk.new' (by simp; done) | exact Blk.new' rfl | refine Blk.drew ?_ | refine Blk.alloc ?_ _)) hB)
  clear p1_0 p1_1 p1_2 k1_0
  clear hB
  have p2_0 := B2.out.at_ (i := 0) (v := .int .i64 0) rfl
  have p2_1 := B2.out.at_ (i := 1) (v := .int .u64 0) rfl
  have p2_2 := B2.out.at_ (i := 2) (v := .int .i64 0) rfl
  have f2_0 := B2.out.frozen 0
  have f2_1 := B2.out.frozen 1
  have f2_2 := B2.out.frozen 2
  have k2_0 : w.heap.size + 1 + 1 < w2.heap.size := by have := B2.out.lt; omega
  go_wp2_with fail
  have R2 : Blk (((w2.setCell ⟨w.heap.size + 1 + 1, 0, none⟩ (.int .i64 0)).setCell ⟨w.heap.size + 1 + 1, 1, none⟩ (.int .u64 0)).setCell ⟨w.heap.size + 1 + 1, 2, none⟩ (.int .i64 0)) (w.heap.size + 1 + 1) 24 #[.int .i64 0, .int .u64 0, .int .i64 0] := (Blk.set' (u := .int .i64 0) (i := 2) (cs' := #[.int .i64 0, .int .u64 0, .int .i64 0]) (Blk.set' (u := .int .u64 0) (i := 1) (cs' := #[.int .i64 0, .int .u64 0, .int .i64 0]) (Blk.set' (u := .int .i64 0) (i := 0) (cs' := #[.int .i64 0, .int .u64 0, .int .i64 0]) B2.out rfl) rfl) rfl)
  have k2_0 := R2.at_ (i := 0) (v := .int .i64 0) rfl
  have k2_1 := R2.at_ (i := 1) (v := .int .u64 0) rfl
  have k2_2 := R2.at_ (i := 2) (v := .int .i64 0) rfl
  have HZ : Below w.heap.size w (((w2.setCell ⟨w.heap.size + 1 + 1, 0, none⟩ (.int .i64 0)).setCell ⟨w.heap.size + 1 + 1, 1, none⟩ (.int .u64 0)).setCell ⟨w.heap.size + 1 + 1, 2, none⟩ (.int .i64 0)) := (below_set (below_set (below_set HB.out (by omega) _) (by omega) _) (by omega) _)
  refine bodyPost_ret (v := .tuple #[.agg #[.int .i64 0, .int .u64 0, .int .i64 0], .int .i64 20]) (by simp [results, Tryd.results20, go_sem, k2_0, k2_1, k2_2]) rfl ⟨rfl, HZ⟩
set_option maxRecDepth 100000 in
set_option maxHeartbeats 4000000 in
theorem rGain_tt (cur a : Lab) (w : World) (h0 : RRightIs cur true) (h1 : RRightIs a true) (h2 : cur.lv < a.lv) (h3 : a.ig < cur.ig) :
    Calls Tryd.prog 20 #[.agg #[.int .i64 cur.lv, .int .u64 (u cur.c), .int .i64 cur.ig], .agg #[.int .i64 a.lv, .int .u64 (u a.c), .int .i64 a.ig]] w (fun e w' => e = .returned (.tuple #[.agg #[.int .i64 a.lv, .int .u64 (u (a.c &&& ~~~cur.c)), .int .i64 a.ig], .int .i64 0]) ∧ Below w.heap.size w w') := by
  have H0 := Lib.hid h0
  clear h0
  have H1 := Lib.hid h1
  clear h1
  have HB := Lib.hid (Below.refl w.heap.size w)
  go_enter Tryd.func20, Tryd.ntmps20
  go_wp2_with fail
  refine (H0.out _).mono ?_
  rintro e w1 ⟨rfl, hB⟩
  replace HB := Lib.hid (below_call (w := w) (by repeat (first | exact HB.out | refine below_alloc ?_ _ | refine Below.drew ?_ | refine below_set ?_ (by omega) _)) hB)
  have z1 : w.heap.size ≤ w1.heap.size := HB.out.size
  have B0 : Hid (Blk w1 (w.heap.size) 24 #[.int .i64 cur.lv, .int .u64 (u cur.c), .int .i64 cur.ig]) := Lib.hid (Blk.after (by repeat (first | exact Blk.new' (by simp; done) | exact Blk.new' rfl | refine Blk.drew ?_ | refine Blk.alloc ?_ _)) hB)
  have B1 : Hid (Blk w1 (w.heap.size + 1) 24 #[.int .i64 a.lv, .int .u64 (u a.c), .int .i64 a.ig]) := Lib.hid (Blk.after (by repeat (first | exact Blk.new' (by simp; done) | exact Blk.new' rfl | refine Blk.drew ?_ | refine Blk.alloc ?_ _)) hB)
  have B2 : Hid (Blk w1 (w.heap.size + 1 + 1) 24 #[.int .i64 0, .int .u64 0, .int .i64 0]) := Lib.hid (Blk.after (by repeat (first | exact Blk.new' (by simp; done) | exact Blk.new' rfl | refine Blk.drew ?_ | refine Blk.alloc ?_ _)) hB)
  clear hB
  have p1_0 := B1.out.at_ (i := 0) (v := .int .i64 a.lv) rfl
  have p1_1 := B1.out.at_ (i := 1) (v := .int .u64 (u a.c)) rfl
  have p1_2 := B1.out.at_ (i := 2) (v := .int .i64 a.ig) rfl
  have k1_0 : w.heap.size + 1 < w1.heap.size := by have := B1.out.lt; omega
  go_wp2_with fail
  refine (H1.out _).mono ?_
  rintro e w2 ⟨rfl, hB⟩
  replace HB := Lib.hid (below_call (w := w) (by repeat (first | exact HB.out | refine below_alloc ?_ _ | refine Below.drew ?_ | refine below_set ?_ (by omega) _)) hB)
  have z2 : w.heap.size ≤ w2.heap.size := HB.out.size
  replace B0 : Hid (Blk w2 (w.heap.size) 24 #[.int .i64 cur.lv, .int .u64 (u cur.c), .int .i64 cur.ig]) := Lib.hid (Blk.after (by repeat (first | exact B0.out | exact Blk.new' (by simp; done) | exact Blk.new' rfl | refine Blk.drew ?_ | refine Blk.alloc ?_ _)) hB)
  replace B1 : Hid (Blk w2 (w.heap.size + 1) 24 #[.int .i64 a.lv, .int .u64 (u a.c), .int .i64 a.ig]) := Lib.hid (Blk.after (by repeat (first | exact B1.out | exact Blk.new' (by simp; done) | exact Blk.new' rfl | refine Blk.drew ?_ | refine Blk.alloc ?_ _)) hB)
  replace B2 : Hid (Blk w2 (w.heap.size + 1 + 1) 24 #[.int .i64 0, .int .u64 0, .int .i64 0]) := Lib.hid (Blk.after (by repeat (first | exact B2.out | exact Blk.new' (by simp; done) | exact Blk.new' rfl | refine Blk.drew ?_ | refine Blk.alloc ?_ _)) hB)
  clear p1_0 p1_1 p1_2 k1_0
  clear hB
  have p0_1 := B0.out.at_ (i := 1) (v := .int .u64 (u cur.c)) rfl
  have k0_0 : w.heap.size < w2.heap.size := by have := B0.out.lt; omega
  have p1_1 := B1.out.at_ (i := 1) (v := .int .u64 (u a.c)) rfl
  have k1_0 : w.heap.size + 1 < w2.heap.size := by have := B1.out.lt; omega
  go_wp2_with fail
  refine (rLess_any _ _ _).mono ?_
  rintro e w' ⟨rfl, rfl⟩
  have p0_0 := B0.out.at_ (i := 0) (v := .int .i64 cur.lv) rfl
  have p0_2 := B0.out.at_ (i := 2) (v := .int .i64 cur.ig) rfl
  have k0_0 : w.heap.size < w2.heap.size := by have := B0.out.lt; omega
  have k0_1 : w.heap.size < w2.heap.size + 1 := by have := B0.out.lt; omega
  have p1_0 := B1.out.at_ (i := 0) (v := .int .i64 a.lv) rfl
  have p1_2 := B1.out.at_ (i := 2) (v := .int .i64 a.ig) rfl
  have k1_0 : w.heap.size + 1 < w2.heap.size := by have := B1.out.lt; omega
  have k1_1 : w.heap.size + 1 < w2.heap.size + 1 := by have := B1.out.lt; omega
  have p2_0 := B2.out.at_ (i := 0) (v := .int .i64 0) rfl
  have p2_1 := B2.out.at_ (i := 1) (v := .int .u64 0) rfl
  have p2_2 := B2.out.at_ (i := 2) (v := .int .i64 0) rfl
  have f2_0 := B2.out.frozen 0
  have f2_1 := B2.out.frozen 1
  have f2_2 := B2.out.frozen 2
  have k2_0 : w.heap.size + 1 + 1 < w2.heap.size := by have := B2.out.lt; omega
  have k2_1 : w.heap.size + 1 + 1 < w2.heap.size + 1 := by have := B2.out.lt; omega
  go_wp2_with fail
  have R2 : Blk ((((w2.setCell ⟨w.heap.size + 1 + 1, 0, none⟩ (.int .i64 a.lv)).setCell ⟨w.heap.size + 1 + 1, 1, none⟩ (.int .u64 (u (a.c &&& ~~~cur.c)))).setCell ⟨w.heap.size + 1 + 1, 2, none⟩ (.int .i64 a.ig)).alloc (.cells #[.int .i64 a.lv, .int .u64 (u (a.c &&& ~~~cur.c)), .int .i64 a.ig] 24)) (w.heap.size + 1 + 1) 24 #[.int .i64 a.lv, .int .u64 (u (a.c &&& ~~~cur.c)), .int .i64 a.ig] := (Blk.alloc (Blk.set' (u := .int .i64 a.ig) (i := 2) (cs' := #[.int .i64 a.lv, .int .u64 (u (a.c &&& ~~~cur.c)), .int .i64 a.ig]) (Blk.set' (u := .int .u64 (u (a.c &&& ~~~cur.c))) (i := 1) (cs' := #[.int .i64 a.lv, .int .u64 (u (a.c &&& ~~~cur.c)), .int .i64 0]) (Blk.set' (u := .int .i64 a.lv) (i := 0) (cs' := #[.int .i64 a.lv, .int .u64 0, .int .i64 0]) B2.out rfl) rfl) rfl) _)
  have k2_0 := R2.at_ (i := 0) (v := .int .i64 a.lv) rfl
  have k2_1 := R2.at_ (i := 1) (v := .int .u64 (u (a.c &&& ~~~cur.c))) rfl
  have k2_2 := R2.at_ (i := 2) (v := .int .i64 a.ig) rfl
  have HZ : Below w.heap.size w ((((w2.setCell ⟨w.heap.size + 1 + 1, 0, none⟩ (.int .i64 a.lv)).setCell ⟨w.heap.size + 1 + 1, 1, none⟩ (.int .u64 (u (a.c &&& ~~~cur.c)))).setCell ⟨w.heap.size + 1 + 1, 2, none⟩ (.int .i64 a.ig)).alloc (.cells #[.int .i64 a.lv, .int .u64 (u (a.c &&& ~~~cur.c)), .int .i64 a.ig] 24)) := (below_alloc (below_set (below_set (below_set HB.out (by omega) _) (by omega) _) (by omega) _) _)
  refine bodyPost_ret (v := .tuple #[.agg #[.int .i64 a.lv, .int .u64 (u (a.c &&& ~~~cur.c)), .int .i64 a.ig], .int .i64 0]) (by simp [results, Tryd.results20, go_sem, k2_0, k2_1, k2_2]) rfl ⟨rfl, HZ⟩
set_option maxRecDepth 100000 in
set_option maxHeartbeats 4000000 in
theorem rGain_tf (cur a : Lab) (w : World) (h0 : RRightIs cur true) (h1 : RRightIs a true) (h2 : cur.lv < a.lv) (h3 : ¬ a.ig < cur.ig) :
    Calls Tryd.prog 20 #[.agg #[.int .i64 cur.lv, .int .u64 (u cur.c), .int .i64 cur.ig], .agg #[.int .i64 a.lv, .int .u64 (u a.c), .int .i64 a.ig]] w (fun e w' => e = .returned (.tuple #[.agg #[.int .i64 a.lv, .int .u64 (u (a.c &&& ~~~cur.c)), .int .i64 7], .int .i64 0]) ∧ Below w.heap.size w w') := by
  have H0 := Lib.hid h0
  clear h0
  have H1 := Lib.hid h1
  clear h1
  have HB := Lib.hid (Below.refl w.heap.size w)
  go_enter Tryd.func20, Tryd.ntmps20
  go_wp2_with fail
  refine (H0.out _).mono ?_
  rintro e w1 ⟨rfl, hB⟩
  replace HB := Lib.hid (below_call (w := w) (by repeat (first | exact HB.out | refine below_alloc ?_ _ | refine Below.drew ?_ | refine below_set ?_ (by omega) _)) hB)
  have z1 : w.heap.size ≤ w1.heap.size := HB.out.size
  have B0 : Hid (Blk w1 (w.heap.size) 24 #[.int .i64 cur.lv, .int .u64 (u cur.c), .int .i64 cur.ig]) := Lib.hid (Blk.after (by repeat (first | exact Blk.new' (by simp; done) | exact Blk.new' rfl | refine Blk.drew ?_ | refine Blk.alloc ?_ _)) hB)
  have B1 : Hid (Blk w1 (w.heap.size + 1) 24 #[.int .i64 a.lv, .int .u64 (u a.c), .int .i64 a.ig]) := Lib.hid (Blk.after (by repeat (first | exact Blk.new' (by simp; done) | exact Blk.new' rfl | refine Blk.drew ?_ | refine Blk.alloc ?_ _)) hB)
  have B2 : Hid (Blk w1 (w.heap.size + 1 + 1) 24 #[.int .i64 0, .int .u64 0, .int .i64 0]) := Lib.hid (Blk.after (by repeat (first | exact Blk.new' (by simp; done) | exact Blk.new' rfl | refine Blk.drew ?_ | refine Blk.alloc ?_ _)) hB)
  clear hB
  have p1_0 := B1.out.at_ (i := 0) (v := .int .i64 a.lv) rfl
  have p1_1 := B1.out.at_ (i := 1) (v := .int .u64 (u a.c)) rfl
  have p1_2 := B1.out.at_ (i := 2) (v := .int .i64 a.ig) rfl
  have k1_0 : w.heap.size + 1 < w1.heap.size := by have := B1.out.lt; omega
  go_wp2_with fail
  refine (H1.out _).mono ?_
  rintro e w2 ⟨rfl, hB⟩
  replace HB := Lib.hid (below_call (w := w) (by repeat (first | exact HB.out | refine below_alloc ?_ _ | refine Below.drew ?_ | refine below_set ?_ (by omega) _)) hB)
  have z2 : w.heap.size ≤ w2.heap.size := HB.out.size
  replace B0 : Hid (Blk w2 (w.heap.size) 24 #[.int .i64 cur.lv, .int .u64 (u cur.c), .int .i64 cur.ig]) := Lib.hid (Blk.after (by repeat (first | exact B0.out | exact Blk.new' (by simp; done) | exact Blk.new' rfl | refine Blk.drew ?_ | refine Blk.alloc ?_ _)) hB)
  replace B1 : Hid (Blk w2 (w.heap.size + 1) 24 #[.int .i64 a.lv, .int .u64 (u a.c), .int .i64 a.ig]) := Lib.hid (Blk.after (by repeat (first | exact B1.out | exact Blk.new' (by simp; done) | exact Blk.new' rfl | refine Blk.drew ?_ | refine Blk.alloc ?_ _)) hB)
  replace B2 : Hid (Blk w2 (w.heap.size + 1 + 1) 24 #[.int .i64 0, .int .u64 0, .int .i64 0]) := Lib.hid (Blk.after (by repeat (first | exact B2.out | exact Blk.new' (by simp; done) | exact Blk.new' rfl | refine Blk.drew ?_ | refine Blk.alloc ?_ _)) hB)
  clear p1_0 p1_1 p1_2 k1_0
  clear hB
  have p0_1 := B0.out.at_ (i := 1) (v := .int .u64 (u cur.c)) rfl
  have k0_0 : w.heap.size < w2.heap.size := by have := B0.out.lt; omega
  have p1_1 := B1.out.at_ (i := 1) (v := .int .u64 (u a.c)) rfl
  have k1_0 : w.heap.size + 1 < w2.heap.size := by have := B1.out.lt; omega
  go_wp2_with fail
  refine (rLess_any _ _ _).mono ?_
  rintro e w' ⟨rfl, rfl⟩
  have p0_0 := B0.out.at_ (i := 0) (v := .int .i64 cur.lv) rfl
  have p0_2 := B0.out.at_ (i := 2) (v := .int .i64 cur.ig) rfl
  have k0_0 : w.heap.size < w2.heap.size := by have := B0.out.lt; omega
  have k0_1 : w.heap.size < w2.heap.size + 1 := by have := B0.out.lt; omega
  have p1_0 := B1.out.at_ (i := 0) (v := .int .i64 a.lv) rfl
  have p1_2 := B1.out.at_ (i := 2) (v := .int .i64 a.ig) rfl
  have k1_0 : w.heap.size + 1 < w2.heap.size := by have := B1.out.lt; omega
  have k1_1 : w.heap.size + 1 < w2.heap.size + 1 := by have := B1.out.lt; omega
  have p2_0 := B2.out.at_ (i := 0) (v := .int .i64 0) rfl
  have p2_1 := B2.out.at_ (i := 1) (v := .int .u64 0) rfl
  have p2_2 := B2.out.at_ (i := 2) (v := .int .i64 0) rfl
  have f2_0 := B2.out.frozen 0
  have f2_1 := B2.out.frozen 1
  have f2_2 := B2.out.frozen 2
  have k2_0 : w.heap.size + 1 + 1 < w2.heap.size := by have := B2.out.lt; omega
  have k2_1 : w.heap.size + 1 + 1 < w2.heap.size + 1 := by have := B2.out.lt; omega
  go_wp2_with fail
  have R2 : Blk ((((w2.setCell ⟨w.heap.size + 1 + 1, 0, none⟩ (.int .i64 a.lv)).setCell ⟨w.heap.size + 1 + 1, 1, none⟩ (.int .u64 (u (a.c &&& ~~~cur.c)))).setCell ⟨w.heap.size + 1 + 1, 2, none⟩ (.int .i64 7)).alloc (.cells #[.int .i64 a.lv, .int .u64 (u (a.c &&& ~~~cur.c)), .int .i64 7] 24)) (w.heap.size + 1 + 1) 24 #[.int .i64 a.lv, .int .u64 (u (a.c &&& ~~~cur.c)), .int .i64 7] := (Blk.alloc (Blk.set' (u := .int .i64 7) (i := 2) (cs' := #[.int .i64 a.lv, .int .u64 (u (a.c &&& ~~~cur.c)), .int .i64 7]) (Blk.set' (u := .int .u64 (u (a.c &&& ~~~cur.c))) (i := 1) (cs' := #[.int .i64 a.lv, .int .u64 (u (a.c &&& ~~~cur.c)), .int .i64 0]) (Blk.set' (u := .int .i64 a.lv) (i := 0) (cs' := #[.int .i64 a.lv, .int .u64 0, .int .i64 0]) B2.out rfl) rfl) rfl) _)
  have k2_0 := R2.at_ (i := 0) (v := .int .i64 a.lv) rfl
  have k2_1 := R2.at_ (i := 1) (v := .int .u64 (u (a.c &&& ~~~cur.c))) rfl
  have k2_2 := R2.at_ (i := 2) (v := .int .i64 7) rfl
  have HZ : Below w.heap.size w ((((w2.setCell ⟨w.heap.size + 1 + 1, 0, none⟩ (.int .i64 a.lv)).setCell ⟨w.heap.size + 1 + 1, 1, none⟩ (.int .u64 (u (a.c &&& ~~~cur.c)))).setCell ⟨w.heap.size + 1 + 1, 2, none⟩ (.int .i64 7)).alloc (.cells #[.int .i64 a.lv, .int .u64 (u (a.c &&& ~~~cur.c)), .int .i64 7] 24)) := (below_alloc (below_set (below_set (below_set HB.out (by omega) _) (by omega) _) (by omega) _) _)
  refine bodyPost_ret (v := .tuple #[.agg #[.int .i64 a.lv, .int .u64 (u (a.c &&& ~~~cur.c)), .int .i64 7], .int .i64 0]) (by simp [results, Tryd.results20, go_sem, k2_0, k2_1, k2_2]) rfl ⟨rfl, HZ⟩
set_option maxRecDepth 100000 in
set_option maxHeartbeats 4000000 in
theorem rGain_ft (cur a : Lab) (w : World) (h0 : RRightIs cur true) (h1 : RRightIs a true) (h2 : ¬ cur.lv < a.lv) (h3 : a.ig < cur.ig) :
    Calls Tryd.prog 20 #[.agg #[.int .i64 cur.lv, .int .u64 (u cur.c), .int .i64 cur.ig], .agg #[.int .i64 a.lv, .int .u64 (u a.c), .int .i64 a.ig]] w (fun e w' => e = .returned (.tuple #[.agg #[.int .i64 0, .int .u64 (u (a.c &&& ~~~cur.c)), .int .i64 a.ig], .int .i64 0]) ∧ Below w.heap.size w w') := by
  have H0 := Lib.hid h0
  clear h0
  have H1 := Lib.hid h1
  clear h1
  have HB := Lib.hid (Below.refl w.heap.size w)
  go_enter Tryd.func20, Tryd.ntmps20
  go_wp2_with fail
  refine (H0.out _).mono ?_
  rintro e w1 ⟨rfl, hB⟩
  replace HB := Lib.hid (below_call (w := w) (by repeat (first | exact HB.out | refine below_alloc ?_ _ | refine Below.drew ?_ | refine below_set ?_ (by omega) _)) hB)
  have z1 : w.heap.size ≤ w1.heap.size := HB.out.size
  have B0 : Hid (Blk w1 (w.heap.size) 24 #[.int .i64 cur.lv, .int .u64 (u cur.c), .int .i64 cur.ig]) := Lib.hid (Blk.after (by repeat (first | exact Blk.new' (by simp; done) | exact Blk.new' rfl | refine Blk.drew ?_ | refine Blk.alloc ?_ _)) hB)
  have B1 : Hid (Blk w1 (w.heap.size + 1) 24 #[.int .i64 a.lv, .int .u64 (u a.c), .int .i64 a.ig]) := Lib.hid (Blk.after (by repeat (first | exact Blk.new' (by simp; done) | exact Blk.new' rfl | refine Blk.drew ?_ | refine Blk.alloc ?_ _)) hB)
  have B2 : Hid (Blk w1 (w.heap.size + 1 + 1) 24 #[.int .i64 0, .int .u64 0, .int .i64 0]) := Lib.hid (Blk.after (by repeat (first | exact Blk.new' (by simp; done) | exact Blk.new' rfl | refine Blk.drew ?_ | refine Blk.alloc ?_ _)) hB)
  clear hB
  have p1_0 := B1.out.at_ (i := 0) (v := .int .i64 a.lv) rfl
  have p1_1 := B1.out.at_ (i := 1) (v := .int .u64 (u a.c)) rfl
  have p1_2 := B1.out.at_ (i := 2) (v := .int .i64 a.ig) rfl
  have k1_0 : w.heap.size + 1 < w1.heap.size := by have := B1.out.lt; omega
  go_wp2_with fail
  refine (H1.out _).mono ?_
  rintro e w2 ⟨rfl, hB⟩
  replace HB := Lib.hid (below_call (w := w) (by repeat (first | exact HB.out | refine below_alloc ?_ _ | refine Below.drew ?_ | refine below_set ?_ (by omega) _)) hB)
  have z2 : w.heap.size ≤ w2.heap.size := HB.out.size
  replace B0 : Hid (Blk w2 (w.heap.size) 24 #[.int .i64 cur.lv, .int .u64 (u cur.c), .int .i64 cur.ig]) := Lib.hid (Blk.after (by repeat (first | exact B0.out | exact Blk.new' (by simp; done) | exact Blk.new' rfl | refine Blk.drew ?_ | refine Blk.alloc ?_ _)) hB)
  replace B1 : Hid (Blk w2 (w.heap.size + 1) 24 #[.int .i64 a.lv, .int .u64 (u a.c), .int .i64 a.ig]) := Lib.hid (Blk.after (by repeat (first | exact B1.out | exact Blk.new' (by simp; done) | exact Blk.new' rfl | refine Blk.drew ?_ | refine Blk.alloc ?_ _)) hB)
  replace B2 : Hid (Blk w2 (w.heap.size + 1 + 1) 24 #[.int .i64 0, .int .u64 0, .int .i64 0]) := Lib.hid (Blk.after (by repeat (first | exact B2.out | exact Blk.new' (by simp; done) | exact Blk.new' rfl | refine Blk.drew ?_ | refine Blk.alloc ?_ _)) hB)
  clear p1_0 p1_1 p1_2 k1_0
  clear hB
  have p0_1 := B0.out.at_ (i := 1) (v := .int .u64 (u cur.c)) rfl
  have k0_0 : w.heap.size < w2.heap.size := by have := B0.out.lt; omega
  have p1_1 := B1.out.at_ (i := 1) (v := .int .u64 (u a.c)) rfl
  have k1_0 : w.heap.size + 1 < w2.heap.size := by have := B1.out.lt; omega
  go_wp2_with fail
  refine (rLess_any _ _ _).mono ?_
  rintro e w' ⟨rfl, rfl⟩
  have p0_0 := B0.out.at_ (i := 0) (v := .int .i64 cur.lv) rfl
  have p0_2 := B0.out.at_ (i := 2) (v := .int .i64 cur.ig) rfl
  have k0_0 : w.heap.size < w2.heap.size := by have := B0.out.lt; omega
  have k0_1 : w.heap.size < w2.heap.size + 1 := by have := B0.out.lt; omega
  have p1_0 := B1.out.at_ (i := 0) (v := .int .i64 a.lv) rfl
  have p1_2 := B1.out.at_ (i := 2) (v := .int .i64 a.ig) rfl
  have k1_0 : w.heap.size + 1 < w2.heap.size := by have := B1.out.lt; omega
  have k1_1 : w.heap.size + 1 < w2.heap.size + 1 := by have := B1.out.lt; omega
  have p2_0 := B2.out.at_ (i := 0) (v := .int .i64 0) rfl
  have p2_1 := B2.out.at_ (i := 1) (v := .int .u64 0) rfl
  have p2_2 := B2.out.at_ (i := 2) (v := .int .i64 0) rfl
  have f2_0 := B2.out.frozen 0
  have f2_1 := B2.out.frozen 1
  have f2_2 := B2.out.frozen 2
  have k2_0 : w.heap.size + 1 + 1 < w2.heap.size := by have := B2.out.lt; omega
  have k2_1 : w.heap.size + 1 + 1 < w2.heap.size + 1 := by have := B2.out.lt; omega
  go_wp2_with fail
  have R2 : Blk ((((w2.setCell ⟨w.heap.size + 1 + 1, 0, none⟩ (.int .i64 0)).setCell ⟨w.heap.size + 1 + 1, 1, none⟩ (.int .u64 (u (a.c &&& ~~~cur.c)))).setCell ⟨w.heap.size + 1 + 1, 2, none⟩ (.int .i64 a.ig)).alloc (.cells #[.int .i64 0, .int .u64 (u (a.c &&& ~~~cur.c)), .int .i64 a.ig] 24)) (w.heap.size + 1 + 1) 24 #[.int .i64 0, .int .u64 (u (a.c &&& ~~~cur.c)), .int .i64 a.ig] := (Blk.alloc (Blk.set' (u := .int .i64 a.ig) (i := 2) (cs' := #[.int .i64 0, .int .u64 (u (a.c &&& ~~~cur.c)), .int .i64 a.ig]) (Blk.set' (u := .int .u64 (u (a.c &&& ~~~cur.c))) (i := 1) (cs' := #[.int .i64 0, .int .u64 (u (a.c &&& ~~~cur.c)), .int .i64 0]) (Blk.set' (u := .int .i64 0) (i := 0) (cs' := #[.int .i64 0, .int .u64 0, .int .i64 0]) B2.out rfl) rfl) rfl) _)
  have k2_0 := R2.at_ (i := 0) (v := .int .i64 0) rfl
  have k2_1 := R2.at_ (i := 1) (v := .int .u64 (u (a.c &&& ~~~cur.c))) rfl
  have k2_2 := R2.at_ (i := 2) (v := .int .i64 a.ig) rfl
  have HZ : Below w.heap.size w ((((w2.setCell ⟨w.heap.size + 1 + 1, 0, none⟩ (.int .i64 0)).setCell ⟨w.heap.size + 1 + 1, 1, none⟩ (.int .u64 (u (a.c &&& ~~~cur.c)))).setCell ⟨w.heap.size + 1 + 1, 2, none⟩ (.int .i64 a.ig)).alloc (.cells #[.int .i64 0, .int .u64 (u (a.c &&& ~~~cur.c)), .int .i64 a.ig] 24)) := (below_alloc (below_set (below_set (below_set HB.out (by omega) _) (by omega) _) (by omega) _) _)
  refine bodyPost_ret (v := .tuple #[.agg #[.int .i64 0, .int .u64 (u (a.c &&& ~~~cur.c)), .int .i64 a.ig], .int .i64 0]) (by simp [results, Tryd.results20, go_sem, k2_0, k2_1, k2_2]) rfl ⟨rfl, HZ⟩
set_option maxRecDepth 100000 in
set_option maxHeartbeats 4000000 in
theorem rGain_ff (cur a : Lab) (w : World) (h0 : RRightIs cur true) (h1 : RRightIs a true) (h2 : ¬ cur.lv < a.lv) (h3 : ¬ a.ig < cur.ig) :
    Calls Tryd.prog 20 #[.agg #[.int .i64 cur.lv, .int .u64 (u cur.c), .int .i64 cur.ig], .agg #[.int .i64 a.lv, .int .u64 (u a.c), .int .i64 a.ig]] w (fun e w' => e = .returned (.tuple #[.agg #[.int .i64 0, .int .u64 (u (a.c &&& ~~~cur.c)), .int .i64 7], .int .i64 0]) ∧ Below w.heap.size w w') := by
  have H0 := Lib.hid h0
  clear h0
  have H1 := Lib.hid h1
  clear h1
  have HB := Lib.hid (Below.refl w.heap.size w)
  go_enter Tryd.func20, Tryd.ntmps20
  go_wp2_with fail
  refine (H0.out _).mono ?_
  rintro e w1 ⟨rfl, hB⟩
  replace HB := Lib.hid (below_call (w := w) (by repeat (first | exact HB.out | refine below_alloc ?_ _ | refine Below.drew ?_ | refine below_set ?_ (by omega) _)) hB)
  have z1 : w.heap.size ≤ w1.heap.size := HB.out.size
  have B0 : Hid (Blk w1 (w.heap.size) 24 #[.int .i64 cur.lv, .int .u64 (u cur.c), .int .i64 cur.ig]) := Lib.hid (Blk.after (by repeat (first | exact Blk.new' (by simp; done) | exact Blk.new' rfl | refine Blk.drew ?_ | refine Blk.alloc ?_ _)) hB)
  have B1 : Hid (Blk w1 (w.heap.size + 1) 24 #[.int .i64 a.lv, .int .u64 (u a.c), .int .i64 a.ig]) := Lib.hid (Blk.after (by repeat (first | exact Blk.new' (by simp; done) | exact Blk.new' rfl | refine Blk.drew ?_ | refine Blk.alloc ?_ _)) hB)
  have B2 : Hid (Blk w1 (w.heap.size + 1 + 1) 24 #[.int .i64 0, .int .u64 0, .int .i64 0]) := Lib.hid (Blk.after (by repeat (first | exact Blk.new' (by simp; done) | exact Blk.new' rfl | refine Blk.drew ?_ | refine Blk.alloc ?_ _)) hB)
  clear hB
  have p1_0 := B1.out.at_ (i := 0) (v := .int .i64 a.lv) rfl
  have p1_1 := B1.out.at_ (i := 1) (v := .int .u64 (u a.c)) rfl
  have p1_2 := B1.out.at_ (i := 2) (v := .int .i64 a.ig) rfl
  have k1_0 : w.heap.size + 1 < w1.heap.size := by have := B1.out.lt; omega
  go_wp2_with fail
  refine (H1.out _).mono ?_
  rintro e w2 ⟨rfl, hB⟩
  replace HB := Lib.hid (below_call (w := w) (by repeat (first | exact HB.out | refine below_alloc ?_ _ | refine Below.drew ?_ | refine below_set ?_ (by omega) _)) hB)
  have z2 : w.heap.size ≤ w2.heap.size := HB.out.size
  replace B0 : Hid (Blk w2 (w.heap.size) 24 #[.int .i64 cur.lv, .int .u64 (u cur.c), .int .i64 cur.ig]) := Lib.hid (Blk.after (by repeat (first | exact B0.out | exact Blk.new' (by simp; done) | exact Blk.new' rfl | refine Blk.drew ?_ | refine Blk.alloc ?_ _)) hB)
  replace B1 : Hid (Blk w2 (w.heap.size + 1) 24 #[.int .i64 a.lv, .int .u64 (u a.c), .int .i64 a.ig]) := Lib.hid (Blk.after (by repeat (first | exact B1.out | exact Blk.new' (by simp; done) | exact Blk.new' rfl | refine Blk.drew ?_ | refine Blk.alloc ?_ _)) hB)
  replace B2 : Hid (Blk w2 (w.heap.size + 1 + 1) 24 #[.int .i64 0, .int .u64 0, .int .i64 0]) := Lib.hid (Blk.after (by repeat (first | exact B2.out | exact Blk.new' (by simp; done) | exact Blk.new' rfl | refine Blk.drew ?_ | refine Blk.alloc ?_ _)) hB)
  clear p1_0 p1_1 p1_2 k1_0
  clear hB
  have p0_1 := B0.out.at_ (i := 1) (v := .int .u64 (u cur.c)) rfl
  have k0_0 : w.heap.size < w2.heap.size := by have := B0.out.lt; omega
  have p1_1 := B1.out.at_ (i := 1) (v := .int .u64 (u a.c)) rfl
  have k1_0 : w.heap.size + 1 < w2.heap.size := by have := B1.out.lt; omega
  go_wp2_with fail
  refine (rLess_any _ _ _).mono ?_
  rintro e w' ⟨rfl, rfl⟩
  have p0_0 := B0.out.at_ (i := 0) (v := .int .i64 cur.lv) rfl
  have p0_2 := B0.out.at_ (i := 2) (v := .int .i64 cur.ig) rfl
  have k0_0 : w.heap.size < w2.heap.size := by have := B0.out.lt; omega
  have k0_1 : w.heap.size < w2.heap.size + 1 := by have := B0.out.lt; omega
  have p1_0 := B1.out.at_ (i := 0) (v := .int .i64 a.lv) rfl
  have p1_2 := B1.out.at_ (i := 2) (v := .int .i64 a.ig) rfl
  have k1_0 : w.heap.size + 1 < w2.heap.size := by have := B1.out.lt; omega
  have k1_1 : w.heap.size + 1 < w2.heap.size + 1 := by have := B1.out.lt; omega
  have p2_0 := B2.out.at_ (i := 0) (v := .int .i64 0) rfl
  have p2_1 := B2.out.at_ (i := 1) (v := .int .u64 0) rfl
  have p2_2 := B2.out.at_ (i := 2) (v := .int .i64 0) rfl
  have f2_0 := B2.out.frozen 0
  have f2_1 := B2.out.frozen 1
  have f2_2 := B2.out.frozen 2
  have k2_0 : w.heap.size + 1 + 1 < w2.heap.size := by have := B2.out.lt; omega
  have k2_1 : w.heap.size + 1 + 1 < w2.heap.size + 1 := by have := B2.out.lt; omega
  go_wp2_with fail
  have R2 : Blk ((((w2.setCell ⟨w.heap.size + 1 + 1, 0, none⟩ (.int .i64 0)).setCell ⟨w.heap.size + 1 + 1, 1, none⟩ (.int .u64 (u (a.c &&& ~~~cur.c)))).setCell ⟨w.heap.size + 1 + 1, 2, none⟩ (.int .i64 7)).alloc (.cells #[.int .i64 0, .int .u64 (u (a.c &&& ~~~cur.c)), .int .i64 7] 24)) (w.heap.size + 1 + 1) 24 #[.int .i64 0, .int .u64 (u (a.c &&& ~~~cur.c)), .int .i64 7] := (Blk.alloc (Blk.set' (u := .int .i64 7) (i := 2) (cs' := #[.int .i64 0, .int .u64 (u (a.c &&& ~~~cur.c)), .int .i64 7]) (Blk.set' (u := .int .u64 (u (a.c &&& ~~~cur.c))) (i := 1) (cs' := #[.int .i64 0, .int .u64 (u (a.c &&& ~~~cur.c)), .int .i64 0]) (Blk.set' (u := .int .i64 0) (i := 0) (cs' := #[.int .i64 0, .int .u64 0, .int .i64 0]) B2.out rfl) rfl) rfl) _)
  have k2_0 := R2.at_ (i := 0) (v := .int .i64 0) rfl
  have k2_1 := R2.at_ (i := 1) (v := .int .u64 (u (a.c &&& ~~~cur.c))) rfl
  have k2_2 := R2.at_ (i := 2) (v := .int .i64 7) rfl
  have HZ : Below w.heap.size w ((((w2.setCell ⟨w.heap.size + 1 + 1, 0, none⟩ (.int .i64 0)).setCell ⟨w.heap.size + 1 + 1, 1, none⟩ (.int .u64 (u (a.c &&& ~~~cur.c)))).setCell ⟨w.heap.size + 1 + 1, 2, none⟩ (.int .i64 7)).alloc (.cells #[.int .i64 0, .int .u64 (u (a.c &&& ~~~cur.c)), .int .i64 7] 24)) := (below_alloc (below_set (below_set (below_set HB.out (by omega) _) (by omega) _) (by omega) _) _)
  refine bodyPost_ret (v := .tuple #[.agg #[.int .i64 0, .int .u64 (u (a.c &&& ~~~cur.c)), .int .i64 7], .int .i64 0]) (by simp [results, Tryd.results20, go_sem, k2_0, k2_1, k2_2]) rfl ⟨rfl, HZ⟩
theorem rReads_any (cur a : Lab) (w : World) : Calls Tryd.prog 21 #[.agg #[.int .i64 cur.lv, .int .u64 (u cur.c), .int .i64 cur.ig], .agg #[.int .i64 a.lv, .int .u64 (u a.c), .int .i64 a.ig]] w fun e w' => e = .returned (.bool (underL a cur)) ∧ Below w.heap.size w w' := rReads_1 cur a _ w (rUnderIs rfl)
theorem rWrites_any (cur a : Lab) (w : World) : Calls Tryd.prog 22 #[.agg #[.int .i64 cur.lv, .int .u64 (u cur.c), .int .i64 cur.ig], .agg #[.int .i64 a.lv, .int .u64 (u a.c), .int .i64 a.ig]] w fun e w' => e = .returned (.bool (writesL cur a)) ∧ Below w.heap.size w w' := by
  unfold writesL
  by_cases ha : okL a = true
  · rw [ha, Bool.and_true]
    exact rWrites_2 cur a _ w (rRightIs ha) (eqlIs rfl)
  · rw [nbool ha, Bool.and_false]
    exact rWrites_1 cur a w (rRightIs (nbool ha))
theorem rSend_any (cur a : Lab) (w : World) : Calls Tryd.prog 18 #[.agg #[.int .i64 cur.lv, .int .u64 (u cur.c), .int .i64 cur.ig], .agg #[.int .i64 a.lv, .int .u64 (u a.c), .int .i64 a.ig]] w fun e w' => e = .returned (.tuple #[.bool (sendB cur a), .int .i64 (sendE cur a)]) ∧ Below w.heap.size w w' := by
  unfold sendB sendE
  by_cases hc : okL cur = true
  · by_cases ha : okL a = true
    · rw [hc, ha]
      cases hu : underL cur a
      · exact rSend_3 cur a w (rRightIs hc) (rRightIs ha) (rUnderIs hu)
      · have e : (!writesL cur a) = !eqL cur a := by
          unfold writesL
          rw [ha, Bool.and_true]
          by_cases h : cur = a
          · rw [h]
          · rw [nbool fun k => h (eqL_iff.1 k), nbool fun k => h (eqL_iff.1 k).symm]
        rw [e]
        exact rSend_4 cur a _ w (rRightIs hc) (rRightIs ha) (rUnderIs hu) (neqIs rfl)
    · rw [show underL cur a = false from nbool fun k => ha (underL_iff.1 k).2.1, hc, nbool ha]
      exact rSend_2 cur a w (rRightIs hc) (rRightIs (nbool ha))
  · rw [show underL cur a = false from nbool fun k => hc (underL_iff.1 k).1, nbool hc]
    exact rSend_1 cur a w (rRightIs (nbool hc))
theorem rGain_any (cur a : Lab) (w : World) : Calls Tryd.prog 20 #[.agg #[.int .i64 cur.lv, .int .u64 (u cur.c), .int .i64 cur.ig], .agg #[.int .i64 a.lv, .int .u64 (u a.c), .int .i64 a.ig]] w fun e w' => e = .returned (.tuple #[.agg #[.int .i64 (gainL cur a).lv, .int .u64 (u (gainL cur a).c), .int .i64 (gainL cur a).ig], .int .i64 (gainE cur a)]) ∧ Below w.heap.size w w' := by
  unfold gainL gainE
  by_cases hc : okL cur = true
  · by_cases ha : okL a = true
    · rw [hc, ha]
      simp only [Bool.and_self, if_true]
      by_cases h1 : cur.lv < a.lv <;> by_cases h2 : a.ig < cur.ig
      · rw [if_pos h1, if_pos h2]; exact rGain_tt cur a w (rRightIs hc) (rRightIs ha) h1 h2
      · rw [if_pos h1, if_neg h2]; exact rGain_tf cur a w (rRightIs hc) (rRightIs ha) h1 h2
      · rw [if_neg h1, if_pos h2]; exact rGain_ft cur a w (rRightIs hc) (rRightIs ha) h1 h2
      · rw [if_neg h1, if_neg h2]; exact rGain_ff cur a w (rRightIs hc) (rRightIs ha) h1 h2
    · rw [hc, nbool ha]
      exact rGain_2 cur a w (rRightIs hc) (rRightIs (nbool ha))
  · rw [nbool hc]
    exact rGain_1 cur a w (rRightIs (nbool hc))
end Go.Proofs.YtmbafllkiofhnaaDoor
