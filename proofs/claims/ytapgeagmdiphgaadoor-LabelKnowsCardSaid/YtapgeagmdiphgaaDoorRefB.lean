/-
  THE WALKS OF PACKAGE plimsollref02: Right, Under, Join, Meet, Bottom, Top, Compare.
-/
import Derived.Test.YtapgeagmdiphgaaDoorRefA
import Derived.Test.YtapgeagmdiphgaaDoorLabO
import Derived.Test.YtapgeagmdiphgaaDoorLabP
namespace Go.Proofs.YtapgeagmdiphgaaDoor
open Go.RowKit

attribute [local go_sem] u_and u_or u_andNot u_add u_sub u_bit u_eq_zero u_beq

theorem or_add (x y : BitVec 64) : x + (y &&& ~~~x) = x ||| y := by
  rw [BitVec.add_eq_or_of_and_eq_zero _ _ (by ext k hk; simp; intro h _; simp [h])]
  ext k hk; simp; cases x[k] <;> simp
theorem and_sub (x y : BitVec 64) : x - (x &&& ~~~y) = x &&& y := by
  have h : (x &&& y) + (x &&& ~~~y) = x := by
    rw [BitVec.add_eq_or_of_and_eq_zero _ _ (by ext k hk; simp; intro _ h _; exact h)]
    ext k hk; simp; cases x[k] <;> cases y[k] <;> simp
  conv => lhs; lhs; rw [← h]
  rw [BitVec.add_sub_cancel]
theorem rRight_any (a : Lab) (w : World) :
    Calls Tryd.prog 23 #[.agg #[.int .i64 a.lv, .int .u64 (u a.c), .int .i64 a.ig]] w fun e w' => e = .returned (.bool (okL a)) ∧ Below w.heap.size w w' := by
  by_cases h1 : 0 ≤ a.lv
  · by_cases h2 : a.lv ≤ 15
    · by_cases h3 : 0 ≤ a.ig
      · by_cases h4 : a.ig ≤ 7
        · have HK := Lib.hid (okL_iff.2 ⟨h1, h2, h3, h4⟩)
          go_enter Tryd.func23, Tryd.ntmps23
          go_wp2
          go_ret
          rw [HK.out]
          exact ⟨rfl, (Below.refl _ _).alloc (Nat.le_refl _) _⟩
        · have HK := Lib.hid (okL_no (a := a) (by omega))
          go_enter Tryd.func23, Tryd.ntmps23
          go_wp2
          go_ret
          rw [HK.out]
          exact ⟨rfl, (Below.refl _ _).alloc (Nat.le_refl _) _⟩
      · have HK := Lib.hid (okL_no (a := a) (by omega))
        go_enter Tryd.func23, Tryd.ntmps23
        go_wp2
        go_ret
        rw [HK.out]
        exact ⟨rfl, (Below.refl _ _).alloc (Nat.le_refl _) _⟩
    · have HK := Lib.hid (okL_no (a := a) (by omega))
      go_enter Tryd.func23, Tryd.ntmps23
      go_wp2
      go_ret
      rw [HK.out]
      exact ⟨rfl, (Below.refl _ _).alloc (Nat.le_refl _) _⟩
  · have HK := Lib.hid (okL_no (a := a) (by omega))
    go_enter Tryd.func23, Tryd.ntmps23
    go_wp2
    go_ret
    rw [HK.out]
    exact ⟨rfl, (Below.refl _ _).alloc (Nat.le_refl _) _⟩
theorem rRightIs {a : Lab} {r : Bool} (h : okL a = r) (W : World) : Calls Tryd.prog 23 #[.agg #[.int .i64 a.lv, .int .u64 (u a.c), .int .i64 a.ig]] W fun e w' => e = .returned (.bool r) ∧ Below W.heap.size W w' := by rw [← h]; exact rRight_any a W
/-- the arguments' boxes and the result's block, whatever has been made since -/
structure Boxd (w W : World) (a b : Lab) : Prop where
  a0 : W.cell? ⟨w.heap.size, 0, none⟩ = some (.int .i64 a.lv)
  a1 : W.cell? ⟨w.heap.size, 1, none⟩ = some (.int .u64 (u a.c))
  a2 : W.cell? ⟨w.heap.size, 2, none⟩ = some (.int .i64 a.ig)
  b0 : W.cell? ⟨w.heap.size + 1, 0, none⟩ = some (.int .i64 b.lv)
  b1 : W.cell? ⟨w.heap.size + 1, 1, none⟩ = some (.int .u64 (u b.c))
  b2 : W.cell? ⟨w.heap.size + 1, 2, none⟩ = some (.int .i64 b.ig)
  pre : Pre w W
theorem Boxes.boxd {w W : World} {a b : Lab} (h : Boxes w W a b) : Boxd w W a b := ⟨h.a0, h.a1, h.a2, h.b0, h.b1, h.b2, h.pre⟩
theorem Boxd.lift {w W W' : World} {a b : Lab} (h : Boxd w W a b) (k : Below W.heap.size W W') : Boxd w W' a b := by
  have g := h.pre.gt
  exact ⟨((below_cell k).1 _ _ (by omega)).trans h.a0, ((below_cell k).1 _ _ (by omega)).trans h.a1, ((below_cell k).1 _ _ (by omega)).trans h.a2,
    ((below_cell k).1 _ _ (by omega)).trans h.b0, ((below_cell k).1 _ _ (by omega)).trans h.b1, ((below_cell k).1 _ _ (by omega)).trans h.b2, h.pre.lift k⟩
set_option maxRecDepth 100000 in
set_option maxHeartbeats 4000000 in
theorem rJoin_core (a b : Lab) (m n : Int) (w : World) (ha : okL a = true) (hb : okL b = true) (h1 : (if a.lv < b.lv then b.lv else a.lv) = m) (h2 : (if b.ig < a.ig then b.ig else a.ig) = n) :
    Calls Tryd.prog 21 #[.agg #[.int .i64 a.lv, .int .u64 (u a.c), .int .i64 a.ig], .agg #[.int .i64 b.lv, .int .u64 (u b.c), .int .i64 b.ig]] w
      fun e w' => e = .returned (.tuple #[.agg #[.int .i64 m, .int .u64 (u (a.c ||| b.c)), .int .i64 n], .int .i64 0]) ∧ Below w.heap.size w w' := by
  have HA := Lib.hid ha
  have HBb := Lib.hid hb
  have HX := Lib.hid (or_add a.c b.c)
  clear ha hb
  rw [← HX.out]
  clear HX
  have hbx := boxes_new w a b
  go_enter Tryd.func21, Tryd.ntmps21
  go_upto_region 1 with fail
  generalize (((w.alloc (.cells #[.int .i64 a.lv, .int .u64 (u a.c), .int .i64 a.ig] 24)).alloc (.cells #[.int .i64 b.lv, .int .u64 (u b.c), .int .i64 b.ig] 24)).alloc (.cells #[.int .i64 0, .int .u64 0, .int .i64 0] 24)) = W0 at *
  have hbd := hbx.boxd
  clear hbx
  obtain ⟨a0, a1, a2, b0, b1, b2, hP⟩ := hbd
  have HD := Lib.hid (Boxd.mk a0 a1 a2 b0 b1 b2 hP)
  clear hP
  go_wp2_with fail
  refine (rRightIs HA.out _).mono ?_
  rintro e w1 ⟨rfl, hB⟩
  have HD' := Lib.hid (HD.out.lift hB)
  clear HD hB a0 a1 a2 b0 b1 b2
  obtain ⟨a0, a1, a2, b0, b1, b2, hP⟩ := HD'.out
  clear hP
  go_wp2_with fail
  refine (rRightIs HBb.out _).mono ?_
  rintro e w2 ⟨rfl, hB⟩
  have HD := Lib.hid (HD'.out.lift hB)
  clear HD' hB a0 a1 a2 b0 b1 b2
  obtain ⟨a0, a1, a2, b0, b1, b2, r0, r1, r2, f0, f1, f2, hB, hgt⟩ := HD.out
  have HB := Lib.hid hB
  clear hB HD
  have hr0 : w.heap.size < w.heap.size + 1 + 1 := by omega
  have hr1 : w.heap.size + 1 < w.heap.size + 1 + 1 := by omega
  generalize w.heap.size + 1 + 1 = rb at *
  go_wp2_with fail
  go_region_held3 (fun w' => w'.cell? ⟨w.heap.size, 0, none⟩ = some (.int .i64 a.lv) ∧ w'.cell? ⟨w.heap.size, 1, none⟩ = some (.int .u64 (u a.c)) ∧ w'.cell? ⟨w.heap.size, 2, none⟩ = some (.int .i64 a.ig) ∧
        w'.cell? ⟨w.heap.size + 1, 0, none⟩ = some (.int .i64 b.lv) ∧ w'.cell? ⟨w.heap.size + 1, 1, none⟩ = some (.int .u64 (u b.c)) ∧ w'.cell? ⟨w.heap.size + 1, 2, none⟩ = some (.int .i64 b.ig))
      ((try dsimp only) <;> (repeat' apply And.intro) <;> (repeat (first | rw [World.cell?_drew] | rw [World.cell?_setCell_far _ _ _ _ (by dsimp only; omega)])) <;> assumption)
      (first
      | (go_at_call 39; refine (rLess_any _ _ _).mono ?_; rintro e w3 ⟨rfl, rfl⟩)
      | fail)
  all_goals (go_wp2_with fail)
  all_goals
    obtain ⟨k0, k1, k2⟩ := set3_cells r0 r1 r2 (.int .i64 m) (.int .u64 (u (a.c + (b.c &&& ~~~a.c)))) (.int .i64 n)
    have hB3 := (((HB.out.setCell (by dsimp only; omega) (.int .i64 m) (p := ⟨rb, 0, none⟩)).setCell (by dsimp only; omega) (.int .u64 (u (a.c + (b.c &&& ~~~a.c)))) (p := ⟨rb, 1, none⟩)).setCell (by dsimp only; omega) (.int .i64 n) (p := ⟨rb, 2, none⟩)).drew
    refine bodyPost_ret (v := .tuple #[.agg #[.int .i64 m, .int .u64 (u (a.c + (b.c &&& ~~~a.c))), .int .i64 n], .int .i64 0]) (by simp [results, Tryd.results21, go_sem, k0, k1, k2]) rfl ⟨rfl, hB3⟩
theorem rJoin_ok (a b : Lab) (w : World) (ha : okL a = true) (hb : okL b = true) :
    Calls Tryd.prog 21 #[.agg #[.int .i64 a.lv, .int .u64 (u a.c), .int .i64 a.ig], .agg #[.int .i64 b.lv, .int .u64 (u b.c), .int .i64 b.ig]] w
      fun e w' => e = .returned (.tuple #[.agg #[.int .i64 (max a.lv b.lv), .int .u64 (u (a.c ||| b.c)), .int .i64 (min a.ig b.ig)], .int .i64 0]) ∧ Below w.heap.size w w' :=
  rJoin_core a b _ _ w ha hb (by split <;> omega) (by split <;> omega)
set_option maxRecDepth 100000 in
set_option maxHeartbeats 4000000 in
theorem rMeet_core (a b : Lab) (m n : Int) (w : World) (ha : okL a = true) (hb : okL b = true) (h1 : (if a.ig < b.ig then b.ig else a.ig) = n) (h2 : (if b.lv < a.lv then b.lv else a.lv) = m) :
    Calls Tryd.prog 22 #[.agg #[.int .i64 a.lv, .int .u64 (u a.c), .int .i64 a.ig], .agg #[.int .i64 b.lv, .int .u64 (u b.c), .int .i64 b.ig]] w
      fun e w' => e = .returned (.tuple #[.agg #[.int .i64 m, .int .u64 (u (a.c &&& b.c)), .int .i64 n], .int .i64 0]) ∧ Below w.heap.size w w' := by
  have HA := Lib.hid ha
  have HBb := Lib.hid hb
  have HX := Lib.hid (and_sub a.c b.c)
  clear ha hb
  rw [← HX.out]
  clear HX
  have hbx := boxes_new w a b
  go_enter Tryd.func22, Tryd.ntmps22
  go_upto_region 1 with fail
  generalize (((w.alloc (.cells #[.int .i64 a.lv, .int .u64 (u a.c), .int .i64 a.ig] 24)).alloc (.cells #[.int .i64 b.lv, .int .u64 (u b.c), .int .i64 b.ig] 24)).alloc (.cells #[.int .i64 0, .int .u64 0, .int .i64 0] 24)) = W0 at *
  have hbd := hbx.boxd
  clear hbx
  obtain ⟨a0, a1, a2, b0, b1, b2, hP⟩ := hbd
  have HD := Lib.hid (Boxd.mk a0 a1 a2 b0 b1 b2 hP)
  clear hP
  go_wp2_with fail
  refine (rRightIs HA.out _).mono ?_
  rintro e w1 ⟨rfl, hB⟩
  have HD' := Lib.hid (HD.out.lift hB)
  clear HD hB a0 a1 a2 b0 b1 b2
  obtain ⟨a0, a1, a2, b0, b1, b2, hP⟩ := HD'.out
  clear hP
  go_wp2_with fail
  refine (rRightIs HBb.out _).mono ?_
  rintro e w2 ⟨rfl, hB⟩
  have HD := Lib.hid (HD'.out.lift hB)
  clear HD' hB a0 a1 a2 b0 b1 b2
  obtain ⟨a0, a1, a2, b0, b1, b2, r0, r1, r2, f0, f1, f2, hB, hgt⟩ := HD.out
  have HB := Lib.hid hB
  clear hB HD
  have hr0 : w.heap.size < w.heap.size + 1 + 1 := by omega
  have hr1 : w.heap.size + 1 < w.heap.size + 1 + 1 := by omega
  generalize w.heap.size + 1 + 1 = rb at *
  go_wp2_with fail
  go_region_held3 (fun w' => w'.cell? ⟨w.heap.size, 0, none⟩ = some (.int .i64 a.lv) ∧ w'.cell? ⟨w.heap.size, 1, none⟩ = some (.int .u64 (u a.c)) ∧ w'.cell? ⟨w.heap.size, 2, none⟩ = some (.int .i64 a.ig) ∧
        w'.cell? ⟨w.heap.size + 1, 0, none⟩ = some (.int .i64 b.lv) ∧ w'.cell? ⟨w.heap.size + 1, 1, none⟩ = some (.int .u64 (u b.c)) ∧ w'.cell? ⟨w.heap.size + 1, 2, none⟩ = some (.int .i64 b.ig))
      ((try dsimp only) <;> (repeat' apply And.intro) <;> (repeat (first | rw [World.cell?_drew] | rw [World.cell?_setCell_far _ _ _ _ (by dsimp only; omega)])) <;> assumption)
      (first
      | (go_at_call 39; refine (rLess_any _ _ _).mono ?_; rintro e w3 ⟨rfl, rfl⟩)
      | fail)
  all_goals (go_wp2_with fail)
  all_goals
    obtain ⟨k0, k1, k2⟩ := set3_cells r0 r1 r2 (.int .i64 m) (.int .u64 (u (a.c - (a.c &&& ~~~b.c)))) (.int .i64 n)
    have hB3 := (((HB.out.setCell (by dsimp only; omega) (.int .i64 m) (p := ⟨rb, 0, none⟩)).setCell (by dsimp only; omega) (.int .u64 (u (a.c - (a.c &&& ~~~b.c)))) (p := ⟨rb, 1, none⟩)).setCell (by dsimp only; omega) (.int .i64 n) (p := ⟨rb, 2, none⟩)).drew
    refine bodyPost_ret (v := .tuple #[.agg #[.int .i64 m, .int .u64 (u (a.c - (a.c &&& ~~~b.c))), .int .i64 n], .int .i64 0]) (by simp [results, Tryd.results22, go_sem, k0, k1, k2]) rfl ⟨rfl, hB3⟩
theorem rMeet_ok (a b : Lab) (w : World) (ha : okL a = true) (hb : okL b = true) :
    Calls Tryd.prog 22 #[.agg #[.int .i64 a.lv, .int .u64 (u a.c), .int .i64 a.ig], .agg #[.int .i64 b.lv, .int .u64 (u b.c), .int .i64 b.ig]] w
      fun e w' => e = .returned (.tuple #[.agg #[.int .i64 (min a.lv b.lv), .int .u64 (u (a.c &&& b.c)), .int .i64 (max a.ig b.ig)], .int .i64 0]) ∧ Below w.heap.size w w' :=
  rMeet_core a b _ _ w ha hb (by split <;> omega) (by split <;> omega)
set_option maxRecDepth 100000 in
set_option maxHeartbeats 4000000 in
theorem rJoin_bad1 (a b : Lab) (w : World) (ha : okL a = false) :
    Calls Tryd.prog 21 #[.agg #[.int .i64 a.lv, .int .u64 (u a.c), .int .i64 a.ig], .agg #[.int .i64 b.lv, .int .u64 (u b.c), .int .i64 b.ig]] w fun e w' => e = .returned (.tuple #[.agg #[.int .i64 0, .int .u64 0, .int .i64 0], .int .i64 20]) ∧ Below w.heap.size w w' := by
  have HA := Lib.hid ha
  clear ha
  have hbx := boxes_new w a b
  go_enter Tryd.func21, Tryd.ntmps21
  go_upto_region 1 with fail
  generalize (((w.alloc (.cells #[.int .i64 a.lv, .int .u64 (u a.c), .int .i64 a.ig] 24)).alloc (.cells #[.int .i64 b.lv, .int .u64 (u b.c), .int .i64 b.ig] 24)).alloc (.cells #[.int .i64 0, .int .u64 0, .int .i64 0] 24)) = W0 at *
  have hbd := hbx.boxd
  clear hbx
  obtain ⟨a0, a1, a2, b0, b1, b2, hP⟩ := hbd
  have HD := Lib.hid (Boxd.mk a0 a1 a2 b0 b1 b2 hP)
  clear hP
  go_wp2_with fail
  refine (rRightIs HA.out _).mono ?_
  rintro e w1 ⟨rfl, hB⟩
  obtain ⟨a0, a1, a2, b0, b1, b2, r0, r1, r2, f0, f1, f2, hB, hgt⟩ := HD.out.lift hB
  have HB := Lib.hid hB
  have hr0 : w.heap.size < w.heap.size + 1 + 1 := by omega
  clear hB
  generalize w.heap.size + 1 + 1 = rb at *
  go_wp2_with fail
  obtain ⟨k0, k1, k2⟩ := set3_cells r0 r1 r2 (.int .i64 0) (.int .u64 0) (.int .i64 0)
  have hB3 := ((HB.out.setCell (by dsimp only; omega) (.int .i64 0) (p := ⟨rb, 0, none⟩)).setCell (by dsimp only; omega) (.int .u64 0) (p := ⟨rb, 1, none⟩)).setCell (by dsimp only; omega) (.int .i64 0) (p := ⟨rb, 2, none⟩)
  refine bodyPost_ret (v := .tuple #[.agg #[.int .i64 0, .int .u64 0, .int .i64 0], .int .i64 20]) (by simp [results, Tryd.results21, go_sem, k0, k1, k2]) rfl ⟨rfl, hB3⟩
set_option maxRecDepth 100000 in
set_option maxHeartbeats 4000000 in
theorem rJoin_bad2 (a b : Lab) (w : World) (ha : okL a = true) (hb : okL b = false) :
    Calls Tryd.prog 21 #[.agg #[.int .i64 a.lv, .int .u64 (u a.c), .int .i64 a.ig], .agg #[.int .i64 b.lv, .int .u64 (u b.c), .int .i64 b.ig]] w fun e w' => e = .returned (.tuple #[.agg #[.int .i64 0, .int .u64 0, .int .i64 0], .int .i64 20]) ∧ Below w.heap.size w w' := by
  have HA := Lib.hid ha
  have HBb := Lib.hid hb
  clear ha hb
  have hbx := boxes_new w a b
  go_enter Tryd.func21, Tryd.ntmps21
  go_upto_region 1 with fail
  generalize (((w.alloc (.cells #[.int .i64 a.lv, .int .u64 (u a.c), .int .i64 a.ig] 24)).alloc (.cells #[.int .i64 b.lv, .int .u64 (u b.c), .int .i64 b.ig] 24)).alloc (.cells #[.int .i64 0, .int .u64 0, .int .i64 0] 24)) = W0 at *
  have hbd := hbx.boxd
  clear hbx
  obtain ⟨a0, a1, a2, b0, b1, b2, hP⟩ := hbd
  have HD := Lib.hid (Boxd.mk a0 a1 a2 b0 b1 b2 hP)
  clear hP
  go_wp2_with fail
  refine (rRightIs HA.out _).mono ?_
  rintro e w1 ⟨rfl, hB⟩
  have HD' := Lib.hid (HD.out.lift hB)
  clear HD hB a0 a1 a2 b0 b1 b2
  obtain ⟨a0, a1, a2, b0, b1, b2, hP⟩ := HD'.out
  clear hP
  go_wp2_with fail
  refine (rRightIs HBb.out _).mono ?_
  rintro e w2 ⟨rfl, hB⟩
  clear a0 a1 a2 b0 b1 b2
  obtain ⟨a0, a1, a2, b0, b1, b2, r0, r1, r2, f0, f1, f2, hB, hgt⟩ := HD'.out.lift hB
  have HB := Lib.hid hB
  have hr0 : w.heap.size < w.heap.size + 1 + 1 := by omega
  clear hB
  generalize w.heap.size + 1 + 1 = rb at *
  go_wp2_with fail
  obtain ⟨k0, k1, k2⟩ := set3_cells r0 r1 r2 (.int .i64 0) (.int .u64 0) (.int .i64 0)
  have hB3 := ((HB.out.setCell (by dsimp only; omega) (.int .i64 0) (p := ⟨rb, 0, none⟩)).setCell (by dsimp only; omega) (.int .u64 0) (p := ⟨rb, 1, none⟩)).setCell (by dsimp only; omega) (.int .i64 0) (p := ⟨rb, 2, none⟩)
  refine bodyPost_ret (v := .tuple #[.agg #[.int .i64 0, .int .u64 0, .int .i64 0], .int .i64 20]) (by simp [results, Tryd.results21, go_sem, k0, k1, k2]) rfl ⟨rfl, hB3⟩
theorem rJoin_bad (a b : Lab) (w : World) (h : ¬ (okL a = true ∧ okL b = true)) :
    Calls Tryd.prog 21 #[.agg #[.int .i64 a.lv, .int .u64 (u a.c), .int .i64 a.ig], .agg #[.int .i64 b.lv, .int .u64 (u b.c), .int .i64 b.ig]] w fun e w' => e = .returned (.tuple #[.agg #[.int .i64 0, .int .u64 0, .int .i64 0], .int .i64 20]) ∧ Below w.heap.size w w' := by
  by_cases ha : okL a = true
  · exact rJoin_bad2 a b w ha (nbool fun k => h ⟨ha, k⟩)
  · exact rJoin_bad1 a b w (nbool ha)
set_option maxRecDepth 100000 in
set_option maxHeartbeats 4000000 in
theorem rMeet_bad1 (a b : Lab) (w : World) (ha : okL a = false) :
    Calls Tryd.prog 22 #[.agg #[.int .i64 a.lv, .int .u64 (u a.c), .int .i64 a.ig], .agg #[.int .i64 b.lv, .int .u64 (u b.c), .int .i64 b.ig]] w fun e w' => e = .returned (.tuple #[.agg #[.int .i64 0, .int .u64 0, .int .i64 0], .int .i64 20]) ∧ Below w.heap.size w w' := by
  have HA := Lib.hid ha
  clear ha
  have hbx := boxes_new w a b
  go_enter Tryd.func22, Tryd.ntmps22
  go_upto_region 1 with fail
  generalize (((w.alloc (.cells #[.int .i64 a.lv, .int .u64 (u a.c), .int .i64 a.ig] 24)).alloc (.cells #[.int .i64 b.lv, .int .u64 (u b.c), .int .i64 b.ig] 24)).alloc (.cells #[.int .i64 0, .int .u64 0, .int .i64 0] 24)) = W0 at *
  have hbd := hbx.boxd
  clear hbx
  obtain ⟨a0, a1, a2, b0, b1, b2, hP⟩ := hbd
  have HD := Lib.hid (Boxd.mk a0 a1 a2 b0 b1 b2 hP)
  clear hP
  go_wp2_with fail
  refine (rRightIs HA.out _).mono ?_
  rintro e w1 ⟨rfl, hB⟩
  obtain ⟨a0, a1, a2, b0, b1, b2, r0, r1, r2, f0, f1, f2, hB, hgt⟩ := HD.out.lift hB
  have HB := Lib.hid hB
  have hr0 : w.heap.size < w.heap.size + 1 + 1 := by omega
  clear hB
  generalize w.heap.size + 1 + 1 = rb at *
  go_wp2_with fail
  obtain ⟨k0, k1, k2⟩ := set3_cells r0 r1 r2 (.int .i64 0) (.int .u64 0) (.int .i64 0)
  have hB3 := ((HB.out.setCell (by dsimp only; omega) (.int .i64 0) (p := ⟨rb, 0, none⟩)).setCell (by dsimp only; omega) (.int .u64 0) (p := ⟨rb, 1, none⟩)).setCell (by dsimp only; omega) (.int .i64 0) (p := ⟨rb, 2, none⟩)
  refine bodyPost_ret (v := .tuple #[.agg #[.int .i64 0, .int .u64 0, .int .i64 0], .int .i64 20]) (by simp [results, Tryd.results22, go_sem, k0, k1, k2]) rfl ⟨rfl, hB3⟩
set_option maxRecDepth 100000 in
set_option maxHeartbeats 4000000 in
theorem rMeet_bad2 (a b : Lab) (w : World) (ha : okL a = true) (hb : okL b = false) :
    Calls Tryd.prog 22 #[.agg #[.int .i64 a.lv, .int .u64 (u a.c), .int .i64 a.ig], .agg #[.int .i64 b.lv, .int .u64 (u b.c), .int .i64 b.ig]] w fun e w' => e = .returned (.tuple #[.agg #[.int .i64 0, .int .u64 0, .int .i64 0], .int .i64 20]) ∧ Below w.heap.size w w' := by
  have HA := Lib.hid ha
  have HBb := Lib.hid hb
  clear ha hb
  have hbx := boxes_new w a b
  go_enter Tryd.func22, Tryd.ntmps22
  go_upto_region 1 with fail
  generalize (((w.alloc (.cells #[.int .i64 a.lv, .int .u64 (u a.c), .int .i64 a.ig] 24)).alloc (.cells #[.int .i64 b.lv, .int .u64 (u b.c), .int .i64 b.ig] 24)).alloc (.cells #[.int .i64 0, .int .u64 0, .int .i64 0] 24)) = W0 at *
  have hbd := hbx.boxd
  clear hbx
  obtain ⟨a0, a1, a2, b0, b1, b2, hP⟩ := hbd
  have HD := Lib.hid (Boxd.mk a0 a1 a2 b0 b1 b2 hP)
  clear hP
  go_wp2_with fail
  refine (rRightIs HA.out _).mono ?_
  rintro e w1 ⟨rfl, hB⟩
  have HD' := Lib.hid (HD.out.lift hB)
  clear HD hB a0 a1 a2 b0 b1 b2
  obtain ⟨a0, a1, a2, b0, b1, b2, hP⟩ := HD'.out
  clear hP
  go_wp2_with fail
  refine (rRightIs HBb.out _).mono ?_
  rintro e w2 ⟨rfl, hB⟩
  clear a0 a1 a2 b0 b1 b2
  obtain ⟨a0, a1, a2, b0, b1, b2, r0, r1, r2, f0, f1, f2, hB, hgt⟩ := HD'.out.lift hB
  have HB := Lib.hid hB
  have hr0 : w.heap.size < w.heap.size + 1 + 1 := by omega
  clear hB
  generalize w.heap.size + 1 + 1 = rb at *
  go_wp2_with fail
  obtain ⟨k0, k1, k2⟩ := set3_cells r0 r1 r2 (.int .i64 0) (.int .u64 0) (.int .i64 0)
  have hB3 := ((HB.out.setCell (by dsimp only; omega) (.int .i64 0) (p := ⟨rb, 0, none⟩)).setCell (by dsimp only; omega) (.int .u64 0) (p := ⟨rb, 1, none⟩)).setCell (by dsimp only; omega) (.int .i64 0) (p := ⟨rb, 2, none⟩)
  refine bodyPost_ret (v := .tuple #[.agg #[.int .i64 0, .int .u64 0, .int .i64 0], .int .i64 20]) (by simp [results, Tryd.results22, go_sem, k0, k1, k2]) rfl ⟨rfl, hB3⟩
theorem rMeet_bad (a b : Lab) (w : World) (h : ¬ (okL a = true ∧ okL b = true)) :
    Calls Tryd.prog 22 #[.agg #[.int .i64 a.lv, .int .u64 (u a.c), .int .i64 a.ig], .agg #[.int .i64 b.lv, .int .u64 (u b.c), .int .i64 b.ig]] w fun e w' => e = .returned (.tuple #[.agg #[.int .i64 0, .int .u64 0, .int .i64 0], .int .i64 20]) ∧ Below w.heap.size w w' := by
  by_cases ha : okL a = true
  · exact rMeet_bad2 a b w ha (nbool fun k => h ⟨ha, k⟩)
  · exact rMeet_bad1 a b w (nbool ha)
end Go.Proofs.YtapgeagmdiphgaaDoor
