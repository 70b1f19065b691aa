/-
  THE WALKS OF plimsollref02's Right, Join, Under (printed by wip/genref2.py).
-/
import Derived.Test.YtapgeagmdiphgaaDoorRefA
import Derived.Test.YtapgeagmdiphgaaDoorLabC
import Derived.Test.YtapgeagmdiphgaaDoorLabQ
import Derived.Test.YtapgeagmdiphgaaDoorRange
namespace Go.Proofs.YtapgeagmdiphgaaDoor
open Go.RowKit

attribute [local go_sem] u_and u_or u_andNot u_add u_sub u_bit u_eq_zero u_beq

theorem nbool {x : Bool} (h : ¬ x = true) : x = false := by cases x <;> simp_all
theorem or_add (x y : BitVec 64) : x + (y &&& ~~~x) = x ||| y := by
  rw [BitVec.add_eq_or_of_and_eq_zero _ _ (by ext k hk; simp; intro h _; simp [h])]
  ext k hk; simp; cases x[k] <;> simp
theorem rRight_any (a : Lab) (w : World) :
    Calls Tryd.prog 23 #[.agg #[.int .i64 a.lv, .int .u64 (u a.c), .int .i64 a.ig]] w fun e w' => e = .returned (.bool (okL a)) ∧ Below w.heap.size w w' := by
  by_cases h1 : 0 ≤ a.lv
  · by_cases h2 : a.lv ≤ 15
    · by_cases h3 : 0 ≤ a.ig
      · by_cases h4 : a.ig ≤ 7
        · have HK := Lib.hid (okL_iff.2 ⟨h1, h2, h3, h4⟩)
          go_enter Tryd.func23, Tryd.ntmps23
          go_wp2
          go_ret
          rw [HK.out]
          exact ⟨rfl, (Below.refl _ _).alloc (Nat.le_refl _) _⟩
        · have HK := Lib.hid (okL_no (a := a) (by omega))
          go_enter Tryd.func23, Tryd.ntmps23
          go_wp2
          go_ret
          rw [HK.out]
          exact ⟨rfl, (Below.refl _ _).alloc (Nat.le_refl _) _⟩
      · have HK := Lib.hid (okL_no (a := a) (by omega))
        go_enter Tryd.func23, Tryd.ntmps23
        go_wp2
        go_ret
        rw [HK.out]
        exact ⟨rfl, (Below.refl _ _).alloc (Nat.le_refl _) _⟩
    · have HK := Lib.hid (okL_no (a := a) (by omega))
      go_enter Tryd.func23, Tryd.ntmps23
      go_wp2
      go_ret
      rw [HK.out]
      exact ⟨rfl, (Below.refl _ _).alloc (Nat.le_refl _) _⟩
  · have HK := Lib.hid (okL_no (a := a) (by omega))
    go_enter Tryd.func23, Tryd.ntmps23
    go_wp2
    go_ret
    rw [HK.out]
    exact ⟨rfl, (Below.refl _ _).alloc (Nat.le_refl _) _⟩
def RRightIs (a : Lab) (r : Bool) : Prop := ∀ W, Calls Tryd.prog 23 #[.agg #[.int .i64 a.lv, .int .u64 (u a.c), .int .i64 a.ig]] W fun e w' => e = .returned (.bool r) ∧ Below W.heap.size W w'
theorem rRightIs {a : Lab} {r : Bool} (h : okL a = r) : RRightIs a r := fun W => by rw [← h]; exact rRight_any a W
set_option maxRecDepth 100000 in
set_option maxHeartbeats 4000000 in
theorem rJoin_1 (a b : Lab) (w : World) (h0 : RRightIs a false) :
    Calls Tryd.prog 21 #[.agg #[.int .i64 a.lv, .int .u64 (u a.c), .int .i64 a.ig], .agg #[.int .i64 b.lv, .int .u64 (u b.c), .int .i64 b.ig]] w (fun e w' => e = .returned (.tuple #[.agg #[.int .i64 0, .int .u64 0, .int .i64 0], .int .i64 20]) ∧ Below w.heap.size w w') := by
  have H0 := Lib.hid h0
  clear h0
  have HB := Lib.hid (Below.refl w.heap.size w)
  go_enter Tryd.func21, Tryd.ntmps21
  go_wp2_with fail
  refine (H0.out _).mono ?_
  rintro e w1 ⟨rfl, hB⟩
  replace HB := Lib.hid (below_call (w := w) (by repeat (first | exact HB.out | refine below_alloc ?_ _ | refine Below.drew ?_ | refine below_set ?_ (by omega) _)) hB)
  have z1 : w.heap.size ≤ w1.heap.size := HB.out.size
  have B2 : Hid (Blk w1 (w.heap.size + 1 + 1) 24 #[.int .i64 0, .int .u64 0, .int .i64 0]) := Lib.hid (Blk.after (by repeat (first | exact Blk.new' (by simp; done) | exact Blk.new' rfl | refine Blk.drew ?_ | refine Blk.alloc ?_ _)) hB)
  clear hB
  have p2_0 := B2.out.at_ (i := 0) (v := .int .i64 0) rfl
  have p2_1 := B2.out.at_ (i := 1) (v := .int .u64 0) rfl
  have p2_2 := B2.out.at_ (i := 2) (v := .int .i64 0) rfl
  have f2_0 := B2.out.frozen 0
  have f2_1 := B2.out.frozen 1
  have f2_2 := B2.out.frozen 2
  have k2_0 : w.heap.size + 1 + 1 < w1.heap.size := by have := B2.out.lt; omega
  go_wp2_with fail
  have R2 : Blk (((w1.setCell ⟨w.heap.size + 1 + 1, 0, none⟩ (.int .i64 0)).setCell ⟨w.heap.size + 1 + 1, 1, none⟩ (.int .u64 0)).setCell ⟨w.heap.size + 1 + 1, 2, none⟩ (.int .i64 0)) (w.heap.size + 1 + 1) 24 #[.int .i64 0, .int .u64 0, .int .i64 0] := (Blk.set' (u := .int .i64 0) (i := 2) (cs' := #[.int .i64 0, .int .u64 0, .int .i64 0]) (Blk.set' (u := .int .u64 0) (i := 1) (cs' := #[.int .i64 0, .int .u64 0, .int .i64 0]) (Blk.set' (u := .int .i64 0) (i := 0) (cs' := #[.int .i64 0, .int .u64 0, .int .i64 0]) B2.out rfl) rfl) rfl)
  have k2_0 := R2.at_ (i := 0) (v := .int .i64 0) rfl
  have k2_1 := R2.at_ (i := 1) (v := .int .u64 0) rfl
  have k2_2 := R2.at_ (i := 2) (v := .int .i64 0) rfl
  have HZ : Below w.heap.size w (((w1.setCell ⟨w.heap.size + 1 + 1, 0, none⟩ (.int .i64 0)).setCell ⟨w.heap.size + 1 + 1, 1, none⟩ (.int .u64 0)).setCell ⟨w.heap.size + 1 + 1, 2, none⟩ (.int .i64 0)) := (below_set (below_set (below_set HB.out (by omega) _) (by omega) _) (by omega) _)
  refine bodyPost_ret (v := .tuple #[.agg #[.int .i64 0, .int .u64 0, .int .i64 0], .int .i64 20]) (by simp [results, Tryd.results21, go_sem, k2_0, k2_1, k2_2]) rfl ⟨rfl, HZ⟩
set_option maxRecDepth 100000 in
set_option maxHeartbeats 4000000 in
theorem rJoin_2 (a b : Lab) (w : World) (h0 : RRightIs a true) (h1 : RRightIs b false) :
    Calls Tryd.prog 21 #[.agg #[.int .i64 a.lv, .int .u64 (u a.c), .int .i64 a.ig], .agg #[.int .i64 b.lv, .int .u64 (u b.c), .int .i64 b.ig]] w (fun e w' => e = .returned (.tuple #[.agg #[.int .i64 0, .int .u64 0, .int .i64 0], .int .i64 20]) ∧ Below w.heap.size w w') := by
  have H0 := Lib.hid h0
  clear h0
  have H1 := Lib.hid h1
  clear h1
  have HB := Lib.hid (Below.refl w.heap.size w)
  go_enter Tryd.func21, Tryd.ntmps21
  go_wp2_with fail
  refine (H0.out _).mono ?_
  rintro e w1 ⟨rfl, hB⟩
  replace HB := Lib.hid (below_call (w := w) (by repeat (first | exact HB.out | refine below_alloc ?_ _ | refine Below.drew ?_ | refine below_set ?_ (by omega) _)) hB)
  have z1 : w.heap.size ≤ w1.heap.size := HB.out.size
  have B1 : Hid (Blk w1 (w.heap.size + 1) 24 #[.int .i64 b.lv, .int .u64 (u b.c), .int .i64 b.ig]) := Lib.hid (Blk.after (by repeat (first | exact Blk.new' (by simp; done) | exact Blk.new' rfl | refine Blk.drew ?_ | refine Blk.alloc ?_ _)) hB)
  have B2 : Hid (Blk w1 (w.heap.size + 1 + 1) 24 #[.int .i64 0, .int .u64 0, .int .i64 0]) := Lib.hid (Blk.after (by repeat (first | exact Blk.new' (by simp; done) | exact Blk.new' rfl | refine Blk.drew ?_ | refine Blk.alloc ?_ _)) hB)
  clear hB
  have p1_0 := B1.out.at_ (i := 0) (v := .int .i64 b.lv) rfl
  have p1_1 := B1.out.at_ (i := 1) (v := .int .u64 (u b.c)) rfl
  have p1_2 := B1.out.at_ (i := 2) (v := .int .i64 b.ig) rfl
  have k1_0 : w.heap.size + 1 < w1.heap.size := by have := B1.out.lt; omega
  go_wp2_with fail
  refine (H1.out _).mono ?_
  rintro e w2 ⟨rfl, hB⟩
  replace HB := Lib.hid (below_call (w := w) (by repeat (first | exact HB.out | refine below_alloc ?_ _ | refine Below.drew ?_ | refine below_set ?_ (by omega) _)) hB)
  have z2 : w.heap.size ≤ w2.heap.size := HB.out.size
  replace B2 : Hid (Blk w2 (w.heap.size + 1 + 1) 24 #[.int .i64 0, .int .u64 0, .int .i64 0]) := Lib.hid (Blk.after (by repeat (first | exact B2.out | exact Blk.new' (by simp; done) | exact Blk.new' rfl | refine Blk.drew ?_ | refine Blk.alloc ?_ _)) hB)
  clear p1_0 p1_1 p1_2 k1_0
  clear hB
  have p2_0 := B2.out.at_ (i := 0) (v := .int .i64 0) rfl
  have p2_1 := B2.out.at_ (i := 1) (v := .int .u64 0) rfl
  have p2_2 := B2.out.at_ (i := 2) (v := .int .i64 0) rfl
  have f2_0 := B2.out.frozen 0
  have f2_1 := B2.out.frozen 1
  have f2_2 := B2.out.frozen 2
  have k2_0 : w.heap.size + 1 + 1 < w2.heap.size := by have := B2.out.lt; omega
  go_wp2_with fail
  have R2 : Blk (((w2.setCell ⟨w.heap.size + 1 + 1, 0, none⟩ (.int .i64 0)).setCell ⟨w.heap.size + 1 + 1, 1, none⟩ (.int .u64 0)).setCell ⟨w.heap.size + 1 + 1, 2, none⟩ (.int .i64 0)) (w.heap.size + 1 + 1) 24 #[.int .i64 0, .int .u64 0, .int .i64 0] := (Blk.set' (u := .int .i64 0) (i := 2) (cs' := #[.int .i64 0, .int .u64 0, .int .i64 0]) (Blk.set' (u := .int .u64 0) (i := 1) (cs' := #[.int .i64 0, .int .u64 0, .int .i64 0]) (Blk.set' (u := .int .i64 0) (i := 0) (cs' := #[.int .i64 0, .int .u64 0, .int .i64 0]) B2.out rfl) rfl) rfl)
  have k2_0 := R2.at_ (i := 0) (v := .int .i64 0) rfl
  have k2_1 := R2.at_ (i := 1) (v := .int .u64 0) rfl
  have k2_2 := R2.at_ (i := 2) (v := .int .i64 0) rfl
  have HZ : Below w.heap.size w (((w2.setCell ⟨w.heap.size + 1 + 1, 0, none⟩ (.int .i64 0)).setCell ⟨w.heap.size + 1 + 1, 1, none⟩ (.int .u64 0)).setCell ⟨w.heap.size + 1 + 1, 2, none⟩ (.int .i64 0)) := (below_set (below_set (below_set HB.out (by omega) _) (by omega) _) (by omega) _)
  refine bodyPost_ret (v := .tuple #[.agg #[.int .i64 0, .int .u64 0, .int .i64 0], .int .i64 20]) (by simp [results, Tryd.results21, go_sem, k2_0, k2_1, k2_2]) rfl ⟨rfl, HZ⟩
set_option maxRecDepth 100000 in
set_option maxHeartbeats 4000000 in
theorem rJoin_3 (a b : Lab) (m n : Int) (w : World) (h0 : RRightIs a true) (h1 : RRightIs b true) (h2 : (if a.lv < b.lv then b.lv else a.lv) = m) (h3 : (if b.ig < a.ig then b.ig else a.ig) = n) :
    Calls Tryd.prog 21 #[.agg #[.int .i64 a.lv, .int .u64 (u a.c), .int .i64 a.ig], .agg #[.int .i64 b.lv, .int .u64 (u b.c), .int .i64 b.ig]] w (fun e w' => e = .returned (.tuple #[.agg #[.int .i64 m, .int .u64 (u (a.c + (b.c &&& ~~~a.c))), .int .i64 n], .int .i64 0]) ∧ Below w.heap.size w w') := by
  have H0 := Lib.hid h0
  clear h0
  have H1 := Lib.hid h1
  clear h1
  have HB := Lib.hid (Below.refl w.heap.size w)
  go_enter Tryd.func21, Tryd.ntmps21
  go_wp2_with fail
  refine (H0.out _).mono ?_
  rintro e w1 ⟨rfl, hB⟩
  replace HB := Lib.hid (below_call (w := w) (by repeat (first | exact HB.out | refine below_alloc ?_ _ | refine Below.drew ?_ | refine below_set ?_ (by omega) _)) hB)
  have z1 : w.heap.size ≤ w1.heap.size := HB.out.size
  have B0 : Hid (Blk w1 (w.heap.size) 24 #[.int .i64 a.lv, .int .u64 (u a.c), .int .i64 a.ig]) := Lib.hid (Blk.after (by repeat (first | exact Blk.new' (by simp; done) | exact Blk.new' rfl | refine Blk.drew ?_ | refine Blk.alloc ?_ _)) hB)
  have B1 : Hid (Blk w1 (w.heap.size + 1) 24 #[.int .i64 b.lv, .int .u64 (u b.c), .int .i64 b.ig]) := Lib.hid (Blk.after (by repeat (first | exact Blk.new' (by simp; done) | exact Blk.new' rfl | refine Blk.drew ?_ | refine Blk.alloc ?_ _)) hB)
  have B2 : Hid (Blk w1 (w.heap.size + 1 + 1) 24 #[.int .i64 0, .int .u64 0, .int .i64 0]) := Lib.hid (Blk.after (by repeat (first | exact Blk.new' (by simp; done) | exact Blk.new' rfl | refine Blk.drew ?_ | refine Blk.alloc ?_ _)) hB)
  clear hB
  have p1_0 := B1.out.at_ (i := 0) (v := .int .i64 b.lv) rfl
  have p1_1 := B1.out.at_ (i := 1) (v := .int .u64 (u b.c)) rfl
  have p1_2 := B1.out.at_ (i := 2) (v := .int .i64 b.ig) rfl
  have k1_0 : w.heap.size + 1 < w1.heap.size := by have := B1.out.lt; omega
  go_wp2_with fail
  refine (H1.out _).mono ?_
  rintro e w2 ⟨rfl, hB⟩
  replace HB := Lib.hid (below_call (w := w) (by repeat (first | exact HB.out | refine below_alloc ?_ _ | refine Below.drew ?_ | refine below_set ?_ (by omega) _)) hB)
  have z2 : w.heap.size ≤ w2.heap.size := HB.out.size
  replace B0 : Hid (Blk w2 (w.heap.size) 24 #[.int .i64 a.lv, .int .u64 (u a.c), .int .i64 a.ig]) := Lib.hid (Blk.after (by repeat (first | exact B0.out | exact Blk.new' (by simp; done) | exact Blk.new' rfl | refine Blk.drew ?_ | refine Blk.alloc ?_ _)) hB)
  replace B1 : Hid (Blk w2 (w.heap.size + 1) 24 #[.int .i64 b.lv, .int .u64 (u b.c), .int .i64 b.ig]) := Lib.hid (Blk.after (by repeat (first | exact B1.out | exact Blk.new' (by simp; done) | exact Blk.new' rfl | refine Blk.drew ?_ | refine Blk.alloc ?_ _)) hB)
  replace B2 : Hid (Blk w2 (w.heap.size + 1 + 1) 24 #[.int .i64 0, .int .u64 0, .int .i64 0]) := Lib.hid (Blk.after (by repeat (first | exact B2.out | exact Blk.new' (by simp; done) | exact Blk.new' rfl | refine Blk.drew ?_ | refine Blk.alloc ?_ _)) hB)
  clear p1_0 p1_1 p1_2 k1_0
  clear hB
  go_wp2_with fail
  refine wp_region_gen2 (S := (fun W' => Blk W' (w.heap.size) 24 #[.int .i64 a.lv, .int .u64 (u a.c), .int .i64 a.ig] ∧ Blk W' (w.heap.size + 1) 24 #[.int .i64 b.lv, .int .u64 (u b.c), .int .i64 b.ig] ∧ Below w.heap.size w W')) (N := (fun W' => Blk W' (w.heap.size + 1 + 1) 24 #[.int .i64 0, .int .u64 0, .int .i64 0])) (by kernel_rfl) ⟨(by repeat (first | exact B0.out | exact Blk.new' (by simp; done) | exact Blk.new' rfl | refine Blk.drew ?_ | refine Blk.alloc ?_ _)), (by repeat (first | exact B1.out | exact Blk.new' (by simp; done) | exact Blk.new' rfl | refine Blk.drew ?_ | refine Blk.alloc ?_ _)), (by repeat (first | exact HB.out | refine below_alloc ?_ _ | refine Below.drew ?_ | refine below_set ?_ (by omega) _))⟩ (by repeat (first | exact B2.out | exact Blk.new' (by simp; done) | exact Blk.new' rfl | refine Blk.drew ?_ | refine Blk.alloc ?_ _)) (fun w3 hS hN => ?_)
  have n0 := hN
  have N0 := Lib.hid n0
  have d0_N0 : w.heap.size ≠ w.heap.size + 1 + 1 := by omega
  have d1_N0 : w.heap.size + 1 ≠ w.heap.size + 1 + 1 := by omega
  have dd_N0 : w.heap.size ≤ w.heap.size + 1 + 1 := by omega
  clear n0 hN
  refine wpAnyH_take (i := 0) (v := ?_) (op_at rfl) (by kernel_rfl) (by kernel_rfl) (by kernel_rfl) (fun _ _ _ h => h) (Or.inl ⟨by rfl, ?_⟩) hS ?_; rotate_left; focus ((intro w' hSw; clear hSw; go_simp) <;> with_reducible rfl)
  try simp only [Act.put, List.setIfInBounds_toArray, List.set_cons_zero, List.set_cons_succ]
  refine wpAnyH_take (i := 1) (v := ?_) (op_at rfl) (by kernel_rfl) (by kernel_rfl) (by kernel_rfl) (fun _ _ _ h => h) (Or.inl ⟨by rfl, ?_⟩) hS ?_; rotate_left; focus ((intro w' hSw; obtain ⟨q, -⟩ := hSw; have c0 := q.at_ (i := 0) (v := .int .i64 a.lv) rfl; clear q; go_simp) <;> with_reducible rfl)
  try simp only [Act.put, List.setIfInBounds_toArray, List.set_cons_zero, List.set_cons_succ]
  refine wpAnyH_take (i := 2) (v := ?_) (op_at rfl) (by kernel_rfl) (by kernel_rfl) (by kernel_rfl) (fun _ _ _ h => h) (Or.inl ⟨by rfl, ?_⟩) hS ?_; rotate_left; focus ((intro w' hSw; clear hSw; go_simp) <;> with_reducible rfl)
  try simp only [Act.put, List.setIfInBounds_toArray, List.set_cons_zero, List.set_cons_succ]
  refine wpAnyH_take (i := 3) (v := ?_) (op_at rfl) (by kernel_rfl) (by kernel_rfl) (by kernel_rfl) (fun _ _ _ h => h) (Or.inl ⟨by rfl, ?_⟩) hS ?_; rotate_left; focus ((intro w' hSw; obtain ⟨-, q, -⟩ := hSw; have c0 := q.at_ (i := 0) (v := .int .i64 b.lv) rfl; clear q; go_simp) <;> with_reducible rfl)
  try simp only [Act.put, List.setIfInBounds_toArray, List.set_cons_zero, List.set_cons_succ]
  refine wpAnyH_take (i := 4) (v := ?_) (op_at rfl) (by kernel_rfl) (by kernel_rfl) (by kernel_rfl) (fun _ _ _ h => h) (Or.inl ⟨by rfl, ?_⟩) hS ?_; rotate_left; focus ((intro w' hSw; clear hSw; go_simp) <;> with_reducible rfl)
  try simp only [Act.put, List.setIfInBounds_toArray, List.set_cons_zero, List.set_cons_succ]
  refine wpAnyH_take (i := 5) (v := ?_) (op_at rfl) (by kernel_rfl) (by kernel_rfl) (by kernel_rfl) (fun _ _ _ h => h) (Or.inl ⟨by rfl, ?_⟩) hS ?_; rotate_left; focus ((intro w' hSw; clear hSw; go_simp) <;> with_reducible rfl)
  try simp only [Act.put, List.setIfInBounds_toArray, List.set_cons_zero, List.set_cons_succ]
  refine wpAnyH_take (i := 6) (v := ?_) (op_at rfl) (by kernel_rfl) (by kernel_rfl) (by kernel_rfl) (fun _ _ _ h => h) (Or.inl ⟨by rfl, ?_⟩) hS ?_; rotate_left; focus ((intro w' hSw; obtain ⟨q, -⟩ := hSw; have c1 := q.at_ (i := 1) (v := .int .u64 (u a.c)) rfl; clear q; go_simp) <;> with_reducible rfl)
  try simp only [Act.put, List.setIfInBounds_toArray, List.set_cons_zero, List.set_cons_succ]
  refine wpAnyH_take (i := 7) (v := ?_) (op_at rfl) (by kernel_rfl) (by kernel_rfl) (by kernel_rfl) (fun _ _ _ h => h) (Or.inl ⟨by rfl, ?_⟩) hS ?_; rotate_left; focus ((intro w' hSw; clear hSw; go_simp) <;> with_reducible rfl)
  try simp only [Act.put, List.setIfInBounds_toArray, List.set_cons_zero, List.set_cons_succ]
  refine wpAnyH_take (i := 8) (v := ?_) (op_at rfl) (by kernel_rfl) (by kernel_rfl) (by kernel_rfl) (fun _ _ _ h => h) (Or.inl ⟨by rfl, ?_⟩) hS ?_; rotate_left; focus ((intro w' hSw; obtain ⟨-, q, -⟩ := hSw; have c1 := q.at_ (i := 1) (v := .int .u64 (u b.c)) rfl; clear q; go_simp) <;> with_reducible rfl)
  try simp only [Act.put, List.setIfInBounds_toArray, List.set_cons_zero, List.set_cons_succ]
  refine wpAnyH_take (i := 9) (v := ?_) (op_at rfl) (by kernel_rfl) (by kernel_rfl) (by kernel_rfl) (fun _ _ _ h => h) (Or.inl ⟨by rfl, ?_⟩) hS ?_; rotate_left; focus ((intro w' hSw; clear hSw; go_simp) <;> with_reducible rfl)
  try simp only [Act.put, List.setIfInBounds_toArray, List.set_cons_zero, List.set_cons_succ]
  refine wpAnyH_take (i := 10) (v := ?_) (op_at rfl) (by kernel_rfl) (by kernel_rfl) (by kernel_rfl) (fun _ _ _ h => h) (Or.inl ⟨by rfl, ?_⟩) hS ?_; rotate_left; focus ((intro w' hSw; obtain ⟨q, -⟩ := hSw; have c1 := q.at_ (i := 1) (v := .int .u64 (u a.c)) rfl; clear q; go_simp) <;> with_reducible rfl)
  try simp only [Act.put, List.setIfInBounds_toArray, List.set_cons_zero, List.set_cons_succ]
  refine wpAnyH_take (i := 13) (v := ?_) (op_at rfl) (by kernel_rfl) (by kernel_rfl) (by kernel_rfl) (fun _ _ _ h => h) (Or.inl ⟨by rfl, ?_⟩) hS ?_; rotate_left; focus ((intro w' hSw; clear hSw; go_simp) <;> with_reducible rfl)
  try simp only [Act.put, List.setIfInBounds_toArray, List.set_cons_zero, List.set_cons_succ]
  refine wpAnyH_take (i := 14) (v := ?_) (op_at rfl) (by kernel_rfl) (by kernel_rfl) (by kernel_rfl) (fun _ _ _ h => h) (Or.inl ⟨by rfl, ?_⟩) hS ?_; rotate_left; focus ((intro w' hSw; obtain ⟨q, -⟩ := hSw; have c2 := q.at_ (i := 2) (v := .int .i64 a.ig) rfl; clear q; go_simp) <;> with_reducible rfl)
  try simp only [Act.put, List.setIfInBounds_toArray, List.set_cons_zero, List.set_cons_succ]
  refine wpAnyH_take (i := 15) (v := ?_) (op_at rfl) (by kernel_rfl) (by kernel_rfl) (by kernel_rfl) (fun _ _ _ h => h) (Or.inl ⟨by rfl, ?_⟩) hS ?_; rotate_left; focus ((intro w' hSw; clear hSw; go_simp) <;> with_reducible rfl)
  try simp only [Act.put, List.setIfInBounds_toArray, List.set_cons_zero, List.set_cons_succ]
  refine wpAnyH_take (i := 16) (v := ?_) (op_at rfl) (by kernel_rfl) (by kernel_rfl) (by kernel_rfl) (fun _ _ _ h => h) (Or.inl ⟨by rfl, ?_⟩) hS ?_; rotate_left; focus ((intro w' hSw; obtain ⟨-, q, -⟩ := hSw; have c2 := q.at_ (i := 2) (v := .int .i64 b.ig) rfl; clear q; go_simp) <;> with_reducible rfl)
  try simp only [Act.put, List.setIfInBounds_toArray, List.set_cons_zero, List.set_cons_succ]
  refine wpAnyH_take (i := 17) (v := ?_) (op_at rfl) (by kernel_rfl) (by kernel_rfl) (by kernel_rfl) (fun _ _ _ h => h) (Or.inl ⟨by rfl, ?_⟩) hS ?_; rotate_left; focus ((intro w' hSw; clear hSw; go_simp) <;> with_reducible rfl)
  try simp only [Act.put, List.setIfInBounds_toArray, List.set_cons_zero, List.set_cons_succ]
  refine wpAnyH_ready (rs := [11]) (by kernel_rfl) (by simp) ?_
  refine (AllReadyH.cons (op_at rfl) (fun K hK => ?_) AllReadyH.nil)
  go_simp
  obtain ⟨b0, b1, hb⟩ := hS
  refine (rLess_any _ _ _).mono ?_
  rintro e w' ⟨rfl, rfl⟩
  refine hK.out _ _ ⟨b0, b1, hb⟩ (fun hS => ?_)
  clear hK K b0 b1 hb
  try simp only [Act.put, List.setIfInBounds_toArray, List.set_cons_zero, List.set_cons_succ]
  refine wpAnyH_take (i := 12) (v := ?_) (op_at rfl) (by kernel_rfl) (by kernel_rfl) (by kernel_rfl) (fun _ _ _ h => h) (Or.inl ⟨by rfl, ?_⟩) hS ?_; rotate_left; focus ((intro w' hSw; clear hSw; go_simp) <;> with_reducible rfl)
  try simp only [Act.put, List.setIfInBounds_toArray, List.set_cons_zero, List.set_cons_succ]
  refine wpAnyH_take (i := 18) (v := ?_) (op_at rfl) (by kernel_rfl) (by kernel_rfl) (by kernel_rfl) (fun _ _ _ h => h) (Or.inl ⟨by rfl, ?_⟩) hS ?_; rotate_left; focus ((intro w' hSw; clear hSw; go_simp) <;> with_reducible rfl)
  try simp only [Act.put, List.setIfInBounds_toArray, List.set_cons_zero, List.set_cons_succ]
  refine wpAnyH_ready (rs := [19]) (by kernel_rfl) (by simp) ?_
  refine (AllReadyH.cons (op_at rfl) (fun K hK => ?_) AllReadyH.nil)
  have p_0 := N0.out.at_ (i := 0) (v := .int .i64 0) rfl
  have f_0 := N0.out.frozen 0
  have p_1 := N0.out.at_ (i := 1) (v := .int .u64 0) rfl
  have f_1 := N0.out.frozen 1
  have p_2 := N0.out.at_ (i := 2) (v := .int .i64 0) rfl
  have f_2 := N0.out.frozen 2
  go_simp
  clear p_0 f_0 p_1 f_1 p_2 f_2
  obtain ⟨b0, b1, hb⟩ := hS
  refine hK.out _ _ ⟨(Blk.far (Blk.far (Blk.far b0 d0_N0 _) d0_N0 _) d0_N0 _), (Blk.far (Blk.far (Blk.far b1 d1_N0 _) d1_N0 _) d1_N0 _), (below_set (below_set (below_set hb dd_N0 _) dd_N0 _) dd_N0 _)⟩ (fun hS => ?_)
  replace N0 := Lib.hid (Blk.set' (u := .int .i64 n) (i := 2) (cs' := #[.int .i64 m, .int .u64 (u (a.c + (b.c &&& ~~~a.c))), .int .i64 n]) (Blk.set' (u := .int .u64 (u (a.c + (b.c &&& ~~~a.c)))) (i := 1) (cs' := #[.int .i64 m, .int .u64 (u (a.c + (b.c &&& ~~~a.c))), .int .i64 0]) (Blk.set' (u := .int .i64 m) (i := 0) (cs' := #[.int .i64 m, .int .u64 0, .int .i64 0]) N0.out rfl) rfl) rfl)
  clear hK K b0 b1 hb
  try simp only [Act.put, List.setIfInBounds_toArray, List.set_cons_zero, List.set_cons_succ]
  refine wpAnyH_take (i := 20) (v := ?_) (op_at rfl) (by kernel_rfl) (by kernel_rfl) (by kernel_rfl) (fun _ _ _ h => h) (Or.inl ⟨by rfl, ?_⟩) hS ?_; rotate_left; focus ((intro w' hSw; clear hSw; go_simp) <;> with_reducible rfl)
  try simp only [Act.put, List.setIfInBounds_toArray, List.set_cons_zero, List.set_cons_succ]
  refine wpAnyH_done (by kernel_rfl) ?_ _
  obtain ⟨b0, b1, hb⟩ := hS
  replace B0 := Lib.hid b0
  clear b0
  replace B1 := Lib.hid b1
  clear b1
  replace B2 := N0
  clear N0
  replace HB := Lib.hid hb
  clear hb
  go_wp2_with fail
  have R2 : Blk (((w3.setCell ⟨w.heap.size + 1 + 1, 0, none⟩ (.int .i64 m)).setCell ⟨w.heap.size + 1 + 1, 1, none⟩ (.int .u64 (u (a.c + (b.c &&& ~~~a.c))))).setCell ⟨w.heap.size + 1 + 1, 2, none⟩ (.int .i64 n)) (w.heap.size + 1 + 1) 24 #[.int .i64 m, .int .u64 (u (a.c + (b.c &&& ~~~a.c))), .int .i64 n] := B2.out
  have k2_0 := R2.at_ (i := 0) (v := .int .i64 m) rfl
  have k2_1 := R2.at_ (i := 1) (v := .int .u64 (u (a.c + (b.c &&& ~~~a.c)))) rfl
  have k2_2 := R2.at_ (i := 2) (v := .int .i64 n) rfl
  have HZ : Below w.heap.size w (((w3.setCell ⟨w.heap.size + 1 + 1, 0, none⟩ (.int .i64 m)).setCell ⟨w.heap.size + 1 + 1, 1, none⟩ (.int .u64 (u (a.c + (b.c &&& ~~~a.c))))).setCell ⟨w.heap.size + 1 + 1, 2, none⟩ (.int .i64 n)) := HB.out
  refine bodyPost_ret (v := .tuple #[.agg #[.int .i64 m, .int .u64 (u (a.c + (b.c &&& ~~~a.c))), .int .i64 n], .int .i64 0]) (by simp [results, Tryd.results21, go_sem, k2_0, k2_1, k2_2]) rfl ⟨rfl, HZ⟩
theorem rJoin_ok {a b : Lab} (ha : okL a = true) (hb : okL b = true) (W : World) : Calls Tryd.prog 21 #[.agg #[.int .i64 a.lv, .int .u64 (u a.c), .int .i64 a.ig], .agg #[.int .i64 b.lv, .int .u64 (u b.c), .int .i64 b.ig]] W fun e w' => e = .returned (.tuple #[.agg #[.int .i64 (joinL a b).lv, .int .u64 (u (joinL a b).c), .int .i64 (joinL a b).ig], .int .i64 0]) ∧ Below W.heap.size W w' := by
  have h := rJoin_3 a b (max a.lv b.lv) (min a.ig b.ig) W (rRightIs ha) (rRightIs hb) (by split <;> omega) (by split <;> omega)
  rw [or_add] at h
  exact h
theorem rJoin_no {a b : Lab} (h : ¬ (okL a = true ∧ okL b = true)) (W : World) : Calls Tryd.prog 21 #[.agg #[.int .i64 a.lv, .int .u64 (u a.c), .int .i64 a.ig], .agg #[.int .i64 b.lv, .int .u64 (u b.c), .int .i64 b.ig]] W fun e w' => e = .returned (.tuple #[.agg #[.int .i64 zeroL.lv, .int .u64 (u zeroL.c), .int .i64 zeroL.ig], .int .i64 20]) ∧ Below W.heap.size W w' := by
  by_cases ha : okL a = true
  · exact rJoin_2 a b W (rRightIs ha) (rRightIs (nbool fun k => h ⟨ha, k⟩))
  · exact rJoin_1 a b W (rRightIs (nbool ha))
def RJoinIs (a b x : Lab) (n : Int) : Prop := ∀ W, Calls Tryd.prog 21 #[.agg #[.int .i64 a.lv, .int .u64 (u a.c), .int .i64 a.ig], .agg #[.int .i64 b.lv, .int .u64 (u b.c), .int .i64 b.ig]] W fun e w' => e = .returned (.tuple #[.agg #[.int .i64 x.lv, .int .u64 (u x.c), .int .i64 x.ig], .int .i64 n]) ∧ Below W.heap.size W w'
def RUnderIs (a b : Lab) (r : Bool) : Prop := ∀ W, Calls Tryd.prog 24 #[.agg #[.int .i64 a.lv, .int .u64 (u a.c), .int .i64 a.ig], .agg #[.int .i64 b.lv, .int .u64 (u b.c), .int .i64 b.ig]] W fun e w' => e = .returned (.bool r) ∧ Below W.heap.size W w'
set_option maxRecDepth 100000 in
set_option maxHeartbeats 4000000 in
theorem rUnder_1 (a b : Lab) (w : World) (h0 : RRightIs a false) :
    Calls Tryd.prog 24 #[.agg #[.int .i64 a.lv, .int .u64 (u a.c), .int .i64 a.ig], .agg #[.int .i64 b.lv, .int .u64 (u b.c), .int .i64 b.ig]] w (fun e w' => e = .returned (.bool false) ∧ Below w.heap.size w w') := by
  have H0 := Lib.hid h0
  clear h0
  have HB := Lib.hid (Below.refl w.heap.size w)
  go_enter Tryd.func24, Tryd.ntmps24
  go_wp2_with fail
  refine (H0.out _).mono ?_
  rintro e w1 ⟨rfl, hB⟩
  replace HB := Lib.hid (below_call (w := w) (by repeat (first | exact HB.out | refine below_alloc ?_ _ | refine Below.drew ?_ | refine below_set ?_ (by omega) _)) hB)
  have z1 : w.heap.size ≤ w1.heap.size := HB.out.size
  clear hB
  go_wp2_with fail
  go_ret
  exact ⟨rfl, (by repeat (first | exact HB.out | refine below_alloc ?_ _ | refine Below.drew ?_ | refine below_set ?_ (by omega) _))⟩
set_option maxRecDepth 100000 in
set_option maxHeartbeats 4000000 in
theorem rUnder_2 (a b : Lab) (w : World) (h0 : RRightIs a true) (h1 : RRightIs b false) :
    Calls Tryd.prog 24 #[.agg #[.int .i64 a.lv, .int .u64 (u a.c), .int .i64 a.ig], .agg #[.int .i64 b.lv, .int .u64 (u b.c), .int .i64 b.ig]] w (fun e w' => e = .returned (.bool false) ∧ Below w.heap.size w w') := by
  have H0 := Lib.hid h0
  clear h0
  have H1 := Lib.hid h1
  clear h1
  have HB := Lib.hid (Below.refl w.heap.size w)
  go_enter Tryd.func24, Tryd.ntmps24
  go_wp2_with fail
  refine (H0.out _).mono ?_
  rintro e w1 ⟨rfl, hB⟩
  replace HB := Lib.hid (below_call (w := w) (by repeat (first | exact HB.out | refine below_alloc ?_ _ | refine Below.drew ?_ | refine below_set ?_ (by omega) _)) hB)
  have z1 : w.heap.size ≤ w1.heap.size := HB.out.size
  have B1 : Hid (Blk w1 (w.heap.size + 1) 24 #[.int .i64 b.lv, .int .u64 (u b.c), .int .i64 b.ig]) := Lib.hid (Blk.after (by repeat (first | exact Blk.new' (by simp; done) | exact Blk.new' rfl | refine Blk.drew ?_ | refine Blk.alloc ?_ _)) hB)
  clear hB
  have p1_0 := B1.out.at_ (i := 0) (v := .int .i64 b.lv) rfl
  have p1_1 := B1.out.at_ (i := 1) (v := .int .u64 (u b.c)) rfl
  have p1_2 := B1.out.at_ (i := 2) (v := .int .i64 b.ig) rfl
  have k1_0 : w.heap.size + 1 < w1.heap.size := by have := B1.out.lt; omega
  go_wp2_with fail
  refine (H1.out _).mono ?_
  rintro e w2 ⟨rfl, hB⟩
  replace HB := Lib.hid (below_call (w := w) (by repeat (first | exact HB.out | refine below_alloc ?_ _ | refine Below.drew ?_ | refine below_set ?_ (by omega) _)) hB)
  have z2 : w.heap.size ≤ w2.heap.size := HB.out.size
  clear p1_0 p1_1 p1_2 k1_0
  clear hB
  go_wp2_with fail
  go_ret
  exact ⟨rfl, (by repeat (first | exact HB.out | refine below_alloc ?_ _ | refine Below.drew ?_ | refine below_set ?_ (by omega) _))⟩
set_option maxRecDepth 100000 in
set_option maxHeartbeats 4000000 in
theorem rUnder_3 (a b : Lab) (w : World) (h0 : RRightIs a true) (h1 : RRightIs b true) (h2 : ¬ a.lv ≤ b.lv) :
    Calls Tryd.prog 24 #[.agg #[.int .i64 a.lv, .int .u64 (u a.c), .int .i64 a.ig], .agg #[.int .i64 b.lv, .int .u64 (u b.c), .int .i64 b.ig]] w (fun e w' => e = .returned (.bool false) ∧ Below w.heap.size w w') := by
  have H0 := Lib.hid h0
  clear h0
  have H1 := Lib.hid h1
  clear h1
  have HB := Lib.hid (Below.refl w.heap.size w)
  go_enter Tryd.func24, Tryd.ntmps24
  go_wp2_with fail
  refine (H0.out _).mono ?_
  rintro e w1 ⟨rfl, hB⟩
  replace HB := Lib.hid (below_call (w := w) (by repeat (first | exact HB.out | refine below_alloc ?_ _ | refine Below.drew ?_ | refine below_set ?_ (by omega) _)) hB)
  have z1 : w.heap.size ≤ w1.heap.size := HB.out.size
  have B0 : Hid (Blk w1 (w.heap.size) 24 #[.int .i64 a.lv, .int .u64 (u a.c), .int .i64 a.ig]) := Lib.hid (Blk.after (by repeat (first | exact Blk.new' (by simp; done) | exact Blk.new' rfl | refine Blk.drew ?_ | refine Blk.alloc ?_ _)) hB)
  have B1 : Hid (Blk w1 (w.heap.size + 1) 24 #[.int .i64 b.lv, .int .u64 (u b.c), .int .i64 b.ig]) := Lib.hid (Blk.after (by repeat (first | exact Blk.new' (by simp; done) | exact Blk.new' rfl | refine Blk.drew ?_ | refine Blk.alloc ?_ _)) hB)
  clear hB
  have p1_0 := B1.out.at_ (i := 0) (v := .int .i64 b.lv) rfl
  have p1_1 := B1.out.at_ (i := 1) (v := .int .u64 (u b.c)) rfl
  have p1_2 := B1.out.at_ (i := 2) (v := .int .i64 b.ig) rfl
  have k1_0 : w.heap.size + 1 < w1.heap.size := by have := B1.out.lt; omega
  go_wp2_with fail
  refine (H1.out _).mono ?_
  rintro e w2 ⟨rfl, hB⟩
  replace HB := Lib.hid (below_call (w := w) (by repeat (first | exact HB.out | refine below_alloc ?_ _ | refine Below.drew ?_ | refine below_set ?_ (by omega) _)) hB)
  have z2 : w.heap.size ≤ w2.heap.size := HB.out.size
  replace B0 : Hid (Blk w2 (w.heap.size) 24 #[.int .i64 a.lv, .int .u64 (u a.c), .int .i64 a.ig]) := Lib.hid (Blk.after (by repeat (first | exact B0.out | exact Blk.new' (by simp; done) | exact Blk.new' rfl | refine Blk.drew ?_ | refine Blk.alloc ?_ _)) hB)
  replace B1 : Hid (Blk w2 (w.heap.size + 1) 24 #[.int .i64 b.lv, .int .u64 (u b.c), .int .i64 b.ig]) := Lib.hid (Blk.after (by repeat (first | exact B1.out | exact Blk.new' (by simp; done) | exact Blk.new' rfl | refine Blk.drew ?_ | refine Blk.alloc ?_ _)) hB)
  clear p1_0 p1_1 p1_2 k1_0
  clear hB
  have p0_0 := B0.out.at_ (i := 0) (v := .int .i64 a.lv) rfl
  have k0_0 : w.heap.size < w2.heap.size := by have := B0.out.lt; omega
  have p1_0 := B1.out.at_ (i := 0) (v := .int .i64 b.lv) rfl
  have k1_0 : w.heap.size + 1 < w2.heap.size := by have := B1.out.lt; omega
  go_wp2_with fail
  go_ret
  exact ⟨rfl, (by repeat (first | exact HB.out | refine below_alloc ?_ _ | refine Below.drew ?_ | refine below_set ?_ (by omega) _))⟩
set_option maxRecDepth 100000 in
set_option maxHeartbeats 4000000 in
theorem rUnder_4 (a b : Lab) (w : World) (h0 : RRightIs a true) (h1 : RRightIs b true) (h2 : a.lv ≤ b.lv) (h3 : ∀ W, Calls Tryd.prog 40 #[.int .u64 (u a.c), .int .u64 (u b.c)] W fun e w' => e = .returned (.bool false) ∧ W = w') :
    Calls Tryd.prog 24 #[.agg #[.int .i64 a.lv, .int .u64 (u a.c), .int .i64 a.ig], .agg #[.int .i64 b.lv, .int .u64 (u b.c), .int .i64 b.ig]] w (fun e w' => e = .returned (.bool false) ∧ Below w.heap.size w w') := by
  have H0 := Lib.hid h0
  clear h0
  have H1 := Lib.hid h1
  clear h1
  have H3 := Lib.hid h3
  clear h3
  have HB := Lib.hid (Below.refl w.heap.size w)
  go_enter Tryd.func24, Tryd.ntmps24
  go_wp2_with fail
  refine (H0.out _).mono ?_
  rintro e w1 ⟨rfl, hB⟩
  replace HB := Lib.hid (below_call (w := w) (by repeat (first | exact HB.out | refine below_alloc ?_ _ | refine Below.drew ?_ | refine below_set ?_ (by omega) _)) hB)
  have z1 : w.heap.size ≤ w1.heap.size := HB.out.size
  have B0 : Hid (Blk w1 (w.heap.size) 24 #[.int .i64 a.lv, .int .u64 (u a.c), .int .i64 a.ig]) := Lib.hid (Blk.after (by repeat (first | exact Blk.new' (by simp; done) | exact Blk.new' rfl | refine Blk.drew ?_ | refine Blk.alloc ?_ _)) hB)
  have B1 : Hid (Blk w1 (w.heap.size + 1) 24 #[.int .i64 b.lv, .int .u64 (u b.c), .int .i64 b.ig]) := Lib.hid (Blk.after (by repeat (first | exact Blk.new' (by simp; done) | exact Blk.new' rfl | refine Blk.drew ?_ | refine Blk.alloc ?_ _)) hB)
  clear hB
  have p1_0 := B1.out.at_ (i := 0) (v := .int .i64 b.lv) rfl
  have p1_1 := B1.out.at_ (i := 1) (v := .int .u64 (u b.c)) rfl
  have p1_2 := B1.out.at_ (i := 2) (v := .int .i64 b.ig) rfl
  have k1_0 : w.heap.size + 1 < w1.heap.size := by have := B1.out.lt; omega
  go_wp2_with fail
  refine (H1.out _).mono ?_
  rintro e w2 ⟨rfl, hB⟩
  replace HB := Lib.hid (below_call (w := w) (by repeat (first | exact HB.out | refine below_alloc ?_ _ | refine Below.drew ?_ | refine below_set ?_ (by omega) _)) hB)
  have z2 : w.heap.size ≤ w2.heap.size := HB.out.size
  replace B0 : Hid (Blk w2 (w.heap.size) 24 #[.int .i64 a.lv, .int .u64 (u a.c), .int .i64 a.ig]) := Lib.hid (Blk.after (by repeat (first | exact B0.out | exact Blk.new' (by simp; done) | exact Blk.new' rfl | refine Blk.drew ?_ | refine Blk.alloc ?_ _)) hB)
  replace B1 : Hid (Blk w2 (w.heap.size + 1) 24 #[.int .i64 b.lv, .int .u64 (u b.c), .int .i64 b.ig]) := Lib.hid (Blk.after (by repeat (first | exact B1.out | exact Blk.new' (by simp; done) | exact Blk.new' rfl | refine Blk.drew ?_ | refine Blk.alloc ?_ _)) hB)
  clear p1_0 p1_1 p1_2 k1_0
  clear hB
  have p0_0 := B0.out.at_ (i := 0) (v := .int .i64 a.lv) rfl
  have p0_1 := B0.out.at_ (i := 1) (v := .int .u64 (u a.c)) rfl
  have k0_0 : w.heap.size < w2.heap.size := by have := B0.out.lt; omega
  have p1_0 := B1.out.at_ (i := 0) (v := .int .i64 b.lv) rfl
  have p1_1 := B1.out.at_ (i := 1) (v := .int .u64 (u b.c)) rfl
  have k1_0 : w.heap.size + 1 < w2.heap.size := by have := B1.out.lt; omega
  go_wp2_with fail
  refine (H3.out _).mono ?_
  rintro e w' ⟨rfl, rfl⟩
  go_wp2_with fail
  go_ret
  exact ⟨rfl, (by repeat (first | exact HB.out | refine below_alloc ?_ _ | refine Below.drew ?_ | refine below_set ?_ (by omega) _))⟩
set_option maxRecDepth 100000 in
set_option maxHeartbeats 4000000 in
theorem rUnder_5 (a b : Lab) (w : World) (h0 : RRightIs a true) (h1 : RRightIs b true) (h2 : a.lv ≤ b.lv) (h3 : ∀ W, Calls Tryd.prog 40 #[.int .u64 (u a.c), .int .u64 (u b.c)] W fun e w' => e = .returned (.bool true) ∧ W = w') (h4 : decide (b.ig ≤ a.ig) = false) :
    Calls Tryd.prog 24 #[.agg #[.int .i64 a.lv, .int .u64 (u a.c), .int .i64 a.ig], .agg #[.int .i64 b.lv, .int .u64 (u b.c), .int .i64 b.ig]] w (fun e w' => e = .returned (.bool false) ∧ Below w.heap.size w w') := by
  have H0 := Lib.hid h0
  clear h0
  have H1 := Lib.hid h1
  clear h1
  have H3 := Lib.hid h3
  clear h3
  have HB := Lib.hid (Below.refl w.heap.size w)
  go_enter Tryd.func24, Tryd.ntmps24
  go_wp2_with fail
  refine (H0.out _).mono ?_
  rintro e w1 ⟨rfl, hB⟩
  replace HB := Lib.hid (below_call (w := w) (by repeat (first | exact HB.out | refine below_alloc ?_ _ | refine Below.drew ?_ | refine below_set ?_ (by omega) _)) hB)
  have z1 : w.heap.size ≤ w1.heap.size := HB.out.size
  have B0 : Hid (Blk w1 (w.heap.size) 24 #[.int .i64 a.lv, .int .u64 (u a.c), .int .i64 a.ig]) := Lib.hid (Blk.after (by repeat (first | exact Blk.new' (by simp; done) | exact Blk.new' rfl | refine Blk.drew ?_ | refine Blk.alloc ?_ _)) hB)
  have B1 : Hid (Blk w1 (w.heap.size + 1) 24 #[.int .i64 b.lv, .int .u64 (u b.c), .int .i64 b.ig]) := Lib.hid (Blk.after (by repeat (first | exact Blk.new' (by simp; done) | exact Blk.new' rfl | refine Blk.drew ?_ | refine Blk.alloc ?_ _)) hB)
  clear hB
  have p1_0 := B1.out.at_ (i := 0) (v := .int .i64 b.lv) rfl
  have p1_1 := B1.out.at_ (i := 1) (v := .int .u64 (u b.c)) rfl
  have p1_2 := B1.out.at_ (i := 2) (v := .int .i64 b.ig) rfl
  have k1_0 : w.heap.size + 1 < w1.heap.size := by have := B1.out.lt; omega
  go_wp2_with fail
  refine (H1.out _).mono ?_
  rintro e w2 ⟨rfl, hB⟩
  replace HB := Lib.hid (below_call (w := w) (by repeat (first | exact HB.out | refine below_alloc ?_ _ | refine Below.drew ?_ | refine below_set ?_ (by omega) _)) hB)
  have z2 : w.heap.size ≤ w2.heap.size := HB.out.size
  replace B0 : Hid (Blk w2 (w.heap.size) 24 #[.int .i64 a.lv, .int .u64 (u a.c), .int .i64 a.ig]) := Lib.hid (Blk.after (by repeat (first | exact B0.out | exact Blk.new' (by simp; done) | exact Blk.new' rfl | refine Blk.drew ?_ | refine Blk.alloc ?_ _)) hB)
  replace B1 : Hid (Blk w2 (w.heap.size + 1) 24 #[.int .i64 b.lv, .int .u64 (u b.c), .int .i64 b.ig]) := Lib.hid (Blk.after (by repeat (first | exact B1.out | exact Blk.new' (by simp; done) | exact Blk.new' rfl | refine Blk.drew ?_ | refine Blk.alloc ?_ _)) hB)
  clear p1_0 p1_1 p1_2 k1_0
  clear hB
  have p0_0 := B0.out.at_ (i := 0) (v := .int .i64 a.lv) rfl
  have p0_1 := B0.out.at_ (i := 1) (v := .int .u64 (u a.c)) rfl
  have k0_0 : w.heap.size < w2.heap.size := by have := B0.out.lt; omega
  have p1_0 := B1.out.at_ (i := 0) (v := .int .i64 b.lv) rfl
  have p1_1 := B1.out.at_ (i := 1) (v := .int .u64 (u b.c)) rfl
  have k1_0 : w.heap.size + 1 < w2.heap.size := by have := B1.out.lt; omega
  go_wp2_with fail
  refine (H3.out _).mono ?_
  rintro e w' ⟨rfl, rfl⟩
  have p0_2 := B0.out.at_ (i := 2) (v := .int .i64 a.ig) rfl
  have k0_0 : w.heap.size < w2.heap.size := by have := B0.out.lt; omega
  have p1_2 := B1.out.at_ (i := 2) (v := .int .i64 b.ig) rfl
  have k1_0 : w.heap.size + 1 < w2.heap.size := by have := B1.out.lt; omega
  go_wp2_with fail
  go_ret
  exact ⟨rfl, (by repeat (first | exact HB.out | refine below_alloc ?_ _ | refine Below.drew ?_ | refine below_set ?_ (by omega) _))⟩
set_option maxRecDepth 100000 in
set_option maxHeartbeats 4000000 in
theorem rUnder_6 (a b : Lab) (w : World) (h0 : RRightIs a true) (h1 : RRightIs b true) (h2 : a.lv ≤ b.lv) (h3 : ∀ W, Calls Tryd.prog 40 #[.int .u64 (u a.c), .int .u64 (u b.c)] W fun e w' => e = .returned (.bool true) ∧ W = w') (h4 : b.ig ≤ a.ig) :
    Calls Tryd.prog 24 #[.agg #[.int .i64 a.lv, .int .u64 (u a.c), .int .i64 a.ig], .agg #[.int .i64 b.lv, .int .u64 (u b.c), .int .i64 b.ig]] w (fun e w' => e = .returned (.bool true) ∧ Below w.heap.size w w') := by
  have H0 := Lib.hid h0
  clear h0
  have H1 := Lib.hid h1
  clear h1
  have H3 := Lib.hid h3
  clear h3
  have HB := Lib.hid (Below.refl w.heap.size w)
  go_enter Tryd.func24, Tryd.ntmps24
  go_wp2_with fail
  refine (H0.out _).mono ?_
  rintro e w1 ⟨rfl, hB⟩
  replace HB := Lib.hid (below_call (w := w) (by repeat (first | exact HB.out | refine below_alloc ?_ _ | refine Below.drew ?_ | refine below_set ?_ (by omega) _)) hB)
  have z1 : w.heap.size ≤ w1.heap.size := HB.out.size
  have B0 : Hid (Blk w1 (w.heap.size) 24 #[.int .i64 a.lv, .int .u64 (u a.c), .int .i64 a.ig]) := Lib.hid (Blk.after (by repeat (first | exact Blk.new' (by simp; done) | exact Blk.new' rfl | refine Blk.drew ?_ | refine Blk.alloc ?_ _)) hB)
  have B1 : Hid (Blk w1 (w.heap.size + 1) 24 #[.int .i64 b.lv, .int .u64 (u b.c), .int .i64 b.ig]) := Lib.hid (Blk.after (by repeat (first | exact Blk.new' (by simp; done) | exact Blk.new' rfl | refine Blk.drew ?_ | refine Blk.alloc ?_ _)) hB)
  clear hB
  have p1_0 := B1.out.at_ (i := 0) (v := .int .i64 b.lv) rfl
  have p1_1 := B1.out.at_ (i := 1) (v := .int .u64 (u b.c)) rfl
  have p1_2 := B1.out.at_ (i := 2) (v := .int .i64 b.ig) rfl
  have k1_0 : w.heap.size + 1 < w1.heap.size := by have := B1.out.lt; omega
  go_wp2_with fail
  refine (H1.out _).mono ?_
  rintro e w2 ⟨rfl, hB⟩
  replace HB := Lib.hid (below_call (w := w) (by repeat (first | exact HB.out | refine below_alloc ?_ _ | refine Below.drew ?_ | refine below_set ?_ (by omega) _)) hB)
  have z2 : w.heap.size ≤ w2.heap.size := HB.out.size
  replace B0 : Hid (Blk w2 (w.heap.size) 24 #[.int .i64 a.lv, .int .u64 (u a.c), .int .i64 a.ig]) := Lib.hid (Blk.after (by repeat (first | exact B0.out | exact Blk.new' (by simp; done) | exact Blk.new' rfl | refine Blk.drew ?_ | refine Blk.alloc ?_ _)) hB)
  replace B1 : Hid (Blk w2 (w.heap.size + 1) 24 #[.int .i64 b.lv, .int .u64 (u b.c), .int .i64 b.ig]) := Lib.hid (Blk.after (by repeat (first | exact B1.out | exact Blk.new' (by simp; done) | exact Blk.new' rfl | refine Blk.drew ?_ | refine Blk.alloc ?_ _)) hB)
  clear p1_0 p1_1 p1_2 k1_0
  clear hB
  have p0_0 := B0.out.at_ (i := 0) (v := .int .i64 a.lv) rfl
  have p0_1 := B0.out.at_ (i := 1) (v := .int .u64 (u a.c)) rfl
  have k0_0 : w.heap.size < w2.heap.size := by have := B0.out.lt; omega
  have p1_0 := B1.out.at_ (i := 0) (v := .int .i64 b.lv) rfl
  have p1_1 := B1.out.at_ (i := 1) (v := .int .u64 (u b.c)) rfl
  have k1_0 : w.heap.size + 1 < w2.heap.size := by have := B1.out.lt; omega
  go_wp2_with fail
  refine (H3.out _).mono ?_
  rintro e w' ⟨rfl, rfl⟩
  have p0_2 := B0.out.at_ (i := 2) (v := .int .i64 a.ig) rfl
  have k0_0 : w.heap.size < w2.heap.size := by have := B0.out.lt; omega
  have p1_2 := B1.out.at_ (i := 2) (v := .int .i64 b.ig) rfl
  have k1_0 : w.heap.size + 1 < w2.heap.size := by have := B1.out.lt; omega
  go_wp2_with fail
  go_ret
  exact ⟨rfl, (by repeat (first | exact HB.out | refine below_alloc ?_ _ | refine Below.drew ?_ | refine below_set ?_ (by omega) _))⟩
theorem rUnder_any (a b : Lab) (w : World) : Calls Tryd.prog 24 #[.agg #[.int .i64 a.lv, .int .u64 (u a.c), .int .i64 a.ig], .agg #[.int .i64 b.lv, .int .u64 (u b.c), .int .i64 b.ig]] w fun e w' => e = .returned (.bool (underL a b)) ∧ Below w.heap.size w w' := by
  have no : ∀ {p : Prop}, (underL a b = true → p) → ¬ p → underL a b = false := fun h k => nbool fun e => k (h e)
  have sb : ∀ {r : Bool}, sub a.c b.c = r → ∀ W, Calls Tryd.prog 40 #[.int .u64 (u a.c), .int .u64 (u b.c)] W fun e w' => e = .returned (.bool r) ∧ W = w' := fun h W => by rw [← h]; exact rSub_any a.c b.c W
  by_cases ha : okL a = true
  · by_cases hb : okL b = true
    · by_cases hl : a.lv ≤ b.lv
      · by_cases hs : sub a.c b.c = true
        · by_cases hg : b.ig ≤ a.ig
          · rw [underL_iff.2 ⟨ha, hb, le3_iff.2 ⟨hl, hg, hs⟩⟩]
            exact rUnder_6 a b w (rRightIs ha) (rRightIs hb) hl (sb hs) hg
          · rw [no (fun e => (le3_iff.1 (underL_iff.1 e).2.2).2.1) hg]
            exact rUnder_5 a b w (rRightIs ha) (rRightIs hb) hl (sb hs) (decide_eq_false hg)
        · rw [no (fun e => (le3_iff.1 (underL_iff.1 e).2.2).2.2) hs]
          exact rUnder_4 a b w (rRightIs ha) (rRightIs hb) hl (sb (nbool hs))
      · rw [no (fun e => (le3_iff.1 (underL_iff.1 e).2.2).1) hl]
        exact rUnder_3 a b w (rRightIs ha) (rRightIs hb) hl
    · rw [no (fun e => (underL_iff.1 e).2.1) hb]
      exact rUnder_2 a b w (rRightIs ha) (rRightIs (nbool hb))
  · rw [no (fun e => (underL_iff.1 e).1) ha]
    exact rUnder_1 a b w (rRightIs (nbool ha))
theorem rUnderIs {a b : Lab} {r : Bool} (h : underL a b = r) : RUnderIs a b r := fun W => by rw [← h]; exact rUnder_any a b W
end Go.Proofs.YtapgeagmdiphgaaDoor
