/-
  THE STATEMENT LabelTotal: the plain law on the order, and the walk (printed by wip/genlab.py).
-/
import Derived.Test.YtapgeagmdiphgaaDoorLabP
import Derived.Test.YtapgeagmdiphgaaDoorLabW
namespace Go.Proofs.YtapgeagmdiphgaaDoor
open Go.RowKit

attribute [local go_sem] u_and u_or u_andNot u_add u_sub u_bit u_eq_zero u_beq

theorem cmpL_neg {a b : Lab} : cmpL a b = -1 ↔ (a.lv < b.lv ∨ (a.lv = b.lv ∧ (u a.c < u b.c ∨ (u a.c = u b.c ∧ a.ig < b.ig)))) := by
  unfold cmpL
  generalize u a.c = p
  generalize u b.c = q
  unfold orZ cmpZ
  repeat' split
  all_goals omega
theorem cmpL_zero {a b : Lab} : cmpL a b = 0 ↔ (a.lv = b.lv ∧ u a.c = u b.c ∧ a.ig = b.ig) := by
  unfold cmpL
  generalize u a.c = p
  generalize u b.c = q
  unfold orZ cmpZ
  repeat' split
  all_goals omega
theorem cmpL_pos {a b : Lab} : cmpL a b = 1 ↔ (b.lv < a.lv ∨ (a.lv = b.lv ∧ (u b.c < u a.c ∨ (u a.c = u b.c ∧ b.ig < a.ig)))) := by
  unfold cmpL
  generalize u a.c = p
  generalize u b.c = q
  unfold orZ cmpZ
  repeat' split
  all_goals omega
theorem cmpL_three (a b : Lab) : cmpL a b = -1 ∨ cmpL a b = 0 ∨ cmpL a b = 1 := by
  rw [cmpL_neg, cmpL_zero, cmpL_pos]; omega
theorem sub_le {x y : BitVec 64} (h : sub x y = true) : u x ≤ u y := by
  have e := congrArg BitVec.toNat (sub_and_eq.1 h)
  rw [BitVec.toNat_and] at e
  have := Nat.and_le_right (n := x.toNat) (m := y.toNat)
  unfold u; omega
theorem sub_eq_of_le {x y : BitVec 64} (h : u x = u y) : x = y := u_inj h
def CmpIs (a b : Lab) (r : Int) : Prop := ∀ W, Calls Tryd.prog 20 #[.agg #[.int .i64 a.lv, .int .u64 (u a.c), .int .i64 a.ig], .agg #[.int .i64 b.lv, .int .u64 (u b.c), .int .i64 b.ig]] W fun e w' => e = .returned (.int .i64 r) ∧ Below W.heap.size W w'
theorem cmpIs {a b : Lab} {r : Int} (h : cmpL a b = r) : CmpIs a b r := fun W => by rw [← h]; exact Compare_any a b W
--TOTAL
set_option maxHeartbeats 4000000 in
theorem total_n_t_t (a b c : Lab) (w : World) (hh : Handle w) (h0 : CmpIs a b (-1)) (h1 : CmpIs b c (-1)) (h2 : CmpIs b a (1)) (h3 : CmpIs a c (-1)) (h4 : UnderIs a b true) (h5 : ∀ W, (binOp .eql 24 (.agg #[.int .i64 a.lv, .int .u64 (u a.c), .int .i64 a.ig]) (.agg #[.int .i64 b.lv, .int .u64 (u b.c), .int .i64 b.ig])).run Tryd.prog W = .ok (.bool false) W) (h6 : (a.lv == b.lv) = true) :
    Calls Tryd.prog 9 #[.agg #[.int .i64 a.lv, .int .u64 (u a.c), .int .i64 a.ig], .agg #[.int .i64 b.lv, .int .u64 (u b.c), .int .i64 b.ig], .agg #[.int .i64 c.lv, .int .u64 (u c.c), .int .i64 c.ig]] w (Yes w) := by
  have H0 := Lib.hid h0
  clear h0
  have H1 := Lib.hid h1
  clear h1
  have H2 := Lib.hid h2
  clear h2
  have H3 := Lib.hid h3
  clear h3
  have H4 := Lib.hid h4
  clear h4
  have HH := Lib.hid hh
  clear hh
  have HB := Lib.hid (Below.refl w.heap.size w)
  go_enter Tryd.func9, Tryd.ntmps9
  go_wp2_with fail
  refine (shown_any _ (HH.out.up (by (first | exact HB.out | exact HB.out.drew | exact HB.out.alloc HB.out.size _ | exact (HB.out.alloc HB.out.size _).drew | exact (HB.out.alloc HB.out.size _).alloc (Nat.le_trans HB.out.size (by simp)) _ | exact ((HB.out.alloc HB.out.size _).alloc (Nat.le_trans HB.out.size (by simp)) _).alloc (Nat.le_trans HB.out.size (by simp; omega)) _)))).mono ?_
  rintro e w1 ⟨rfl, hB⟩
  (have HBn : Below w.heap.size w w1 := below_lift (by (first | exact HB.out | exact HB.out.drew | exact HB.out.alloc HB.out.size _ | exact (HB.out.alloc HB.out.size _).drew | exact (HB.out.alloc HB.out.size _).alloc (Nat.le_trans HB.out.size (by simp)) _ | exact ((HB.out.alloc HB.out.size _).alloc (Nat.le_trans HB.out.size (by simp)) _).alloc (Nat.le_trans HB.out.size (by simp; omega)) _)) hB; obtain ⟨hc, hf⟩ := below_cell hB; have zz := hB.size; (try simp at zz); have HB := Lib.hid HBn; clear HBn hB)
  have k0 : w.heap.size < w1.heap.size := by omega
  have m0 : w.heap.size < w1.heap.size + 1 := by omega
  have k1 : w.heap.size + 1 < w1.heap.size := by omega
  have m1 : w.heap.size + 1 < w1.heap.size + 1 := by omega
  have k2 : w.heap.size + 1 + 1 < w1.heap.size := by omega
  have m2 : w.heap.size + 1 + 1 < w1.heap.size + 1 := by omega
  go_wp2_with fail
  refine (H0.out _).mono ?_
  rintro e w2 ⟨rfl, hB⟩
  (have HBn : Below w.heap.size w w2 := below_lift (by (first | exact HB.out | exact HB.out.drew | exact HB.out.alloc HB.out.size _ | exact (HB.out.alloc HB.out.size _).drew | exact (HB.out.alloc HB.out.size _).alloc (Nat.le_trans HB.out.size (by simp)) _ | exact ((HB.out.alloc HB.out.size _).alloc (Nat.le_trans HB.out.size (by simp)) _).alloc (Nat.le_trans HB.out.size (by simp; omega)) _)) hB; obtain ⟨hc, hf⟩ := below_cell hB; have zz := hB.size; (try simp at zz); have HB := Lib.hid HBn; clear HBn hB)
  have k0 : w.heap.size < w2.heap.size := by omega
  have m0 : w.heap.size < w2.heap.size + 1 := by omega
  have k1 : w.heap.size + 1 < w2.heap.size := by omega
  have m1 : w.heap.size + 1 < w2.heap.size + 1 := by omega
  have k2 : w.heap.size + 1 + 1 < w2.heap.size := by omega
  have m2 : w.heap.size + 1 + 1 < w2.heap.size + 1 := by omega
  go_wp2_with fail
  refine (H1.out _).mono ?_
  rintro e w3 ⟨rfl, hB⟩
  (have HBn : Below w.heap.size w w3 := below_lift (by (first | exact HB.out | exact HB.out.drew | exact HB.out.alloc HB.out.size _ | exact (HB.out.alloc HB.out.size _).drew | exact (HB.out.alloc HB.out.size _).alloc (Nat.le_trans HB.out.size (by simp)) _ | exact ((HB.out.alloc HB.out.size _).alloc (Nat.le_trans HB.out.size (by simp)) _).alloc (Nat.le_trans HB.out.size (by simp; omega)) _)) hB; obtain ⟨hc, hf⟩ := below_cell hB; have zz := hB.size; (try simp at zz); have HB := Lib.hid HBn; clear HBn hB)
  have k0 : w.heap.size < w3.heap.size := by omega
  have m0 : w.heap.size < w3.heap.size + 1 := by omega
  have k1 : w.heap.size + 1 < w3.heap.size := by omega
  have m1 : w.heap.size + 1 < w3.heap.size + 1 := by omega
  have k2 : w.heap.size + 1 + 1 < w3.heap.size := by omega
  have m2 : w.heap.size + 1 + 1 < w3.heap.size + 1 := by omega
  go_wp2_with fail
  refine (H2.out _).mono ?_
  rintro e w4 ⟨rfl, hB⟩
  (have HBn : Below w.heap.size w w4 := below_lift (by (first | exact HB.out | exact HB.out.drew | exact HB.out.alloc HB.out.size _ | exact (HB.out.alloc HB.out.size _).drew | exact (HB.out.alloc HB.out.size _).alloc (Nat.le_trans HB.out.size (by simp)) _ | exact ((HB.out.alloc HB.out.size _).alloc (Nat.le_trans HB.out.size (by simp)) _).alloc (Nat.le_trans HB.out.size (by simp; omega)) _)) hB; obtain ⟨hc, hf⟩ := below_cell hB; have zz := hB.size; (try simp at zz); have HB := Lib.hid HBn; clear HBn hB)
  have k0 : w.heap.size < w4.heap.size := by omega
  have m0 : w.heap.size < w4.heap.size + 1 := by omega
  have k1 : w.heap.size + 1 < w4.heap.size := by omega
  have m1 : w.heap.size + 1 < w4.heap.size + 1 := by omega
  have k2 : w.heap.size + 1 + 1 < w4.heap.size := by omega
  have m2 : w.heap.size + 1 + 1 < w4.heap.size + 1 := by omega
  go_wp2_with fail
  refine (H3.out _).mono ?_
  rintro e w5 ⟨rfl, hB⟩
  (have HBn : Below w.heap.size w w5 := below_lift (by (first | exact HB.out | exact HB.out.drew | exact HB.out.alloc HB.out.size _ | exact (HB.out.alloc HB.out.size _).drew | exact (HB.out.alloc HB.out.size _).alloc (Nat.le_trans HB.out.size (by simp)) _ | exact ((HB.out.alloc HB.out.size _).alloc (Nat.le_trans HB.out.size (by simp)) _).alloc (Nat.le_trans HB.out.size (by simp; omega)) _)) hB; obtain ⟨hc, hf⟩ := below_cell hB; have zz := hB.size; (try simp at zz); have HB := Lib.hid HBn; clear HBn hB)
  have k0 : w.heap.size < w5.heap.size := by omega
  have m0 : w.heap.size < w5.heap.size + 1 := by omega
  have k1 : w.heap.size + 1 < w5.heap.size := by omega
  have m1 : w.heap.size + 1 < w5.heap.size + 1 := by omega
  have k2 : w.heap.size + 1 + 1 < w5.heap.size := by omega
  have m2 : w.heap.size + 1 + 1 < w5.heap.size + 1 := by omega
  go_wp2_with fail
  refine (H4.out _).mono ?_
  rintro e w6 ⟨rfl, hB⟩
  (have HBn : Below w.heap.size w w6 := below_lift (by (first | exact HB.out | exact HB.out.drew | exact HB.out.alloc HB.out.size _ | exact (HB.out.alloc HB.out.size _).drew | exact (HB.out.alloc HB.out.size _).alloc (Nat.le_trans HB.out.size (by simp)) _ | exact ((HB.out.alloc HB.out.size _).alloc (Nat.le_trans HB.out.size (by simp)) _).alloc (Nat.le_trans HB.out.size (by simp; omega)) _)) hB; obtain ⟨hc, hf⟩ := below_cell hB; have zz := hB.size; (try simp at zz); have HB := Lib.hid HBn; clear HBn hB)
  have k0 : w.heap.size < w6.heap.size := by omega
  have m0 : w.heap.size < w6.heap.size + 1 := by omega
  have k1 : w.heap.size + 1 < w6.heap.size := by omega
  have m1 : w.heap.size + 1 < w6.heap.size + 1 := by omega
  have k2 : w.heap.size + 1 + 1 < w6.heap.size := by omega
  have m2 : w.heap.size + 1 + 1 < w6.heap.size + 1 := by omega
  go_wp2_with fail
  go_ret
  exact ⟨rfl, by (first | exact HB.out | exact HB.out.drew | exact HB.out.alloc HB.out.size _ | exact (HB.out.alloc HB.out.size _).drew | exact (HB.out.alloc HB.out.size _).alloc (Nat.le_trans HB.out.size (by simp)) _ | exact ((HB.out.alloc HB.out.size _).alloc (Nat.le_trans HB.out.size (by simp)) _).alloc (Nat.le_trans HB.out.size (by simp; omega)) _)⟩

set_option maxHeartbeats 4000000 in
theorem total_y_t_t (a b c : Lab) (y : Int) (w : World) (hh : Handle w) (h0 : CmpIs a b (-1)) (h1 : CmpIs b c y) (h2 : CmpIs b a (1)) (h3 : UnderIs a b true) (h4 : (0 : Int) ≤ y) (h5 : ∀ W, (binOp .eql 24 (.agg #[.int .i64 a.lv, .int .u64 (u a.c), .int .i64 a.ig]) (.agg #[.int .i64 b.lv, .int .u64 (u b.c), .int .i64 b.ig])).run Tryd.prog W = .ok (.bool false) W) (h6 : (a.lv == b.lv) = true) :
    Calls Tryd.prog 9 #[.agg #[.int .i64 a.lv, .int .u64 (u a.c), .int .i64 a.ig], .agg #[.int .i64 b.lv, .int .u64 (u b.c), .int .i64 b.ig], .agg #[.int .i64 c.lv, .int .u64 (u c.c), .int .i64 c.ig]] w (Yes w) := by
  have H0 := Lib.hid h0
  clear h0
  have H1 := Lib.hid h1
  clear h1
  have H2 := Lib.hid h2
  clear h2
  have H3 := Lib.hid h3
  clear h3
  have HH := Lib.hid hh
  clear hh
  have HB := Lib.hid (Below.refl w.heap.size w)
  go_enter Tryd.func9, Tryd.ntmps9
  go_wp2_with fail
  refine (shown_any _ (HH.out.up (by (first | exact HB.out | exact HB.out.drew | exact HB.out.alloc HB.out.size _ | exact (HB.out.alloc HB.out.size _).drew | exact (HB.out.alloc HB.out.size _).alloc (Nat.le_trans HB.out.size (by simp)) _ | exact ((HB.out.alloc HB.out.size _).alloc (Nat.le_trans HB.out.size (by simp)) _).alloc (Nat.le_trans HB.out.size (by simp; omega)) _)))).mono ?_
  rintro e w1 ⟨rfl, hB⟩
  (have HBn : Below w.heap.size w w1 := below_lift (by (first | exact HB.out | exact HB.out.drew | exact HB.out.alloc HB.out.size _ | exact (HB.out.alloc HB.out.size _).drew | exact (HB.out.alloc HB.out.size _).alloc (Nat.le_trans HB.out.size (by simp)) _ | exact ((HB.out.alloc HB.out.size _).alloc (Nat.le_trans HB.out.size (by simp)) _).alloc (Nat.le_trans HB.out.size (by simp; omega)) _)) hB; obtain ⟨hc, hf⟩ := below_cell hB; have zz := hB.size; (try simp at zz); have HB := Lib.hid HBn; clear HBn hB)
  have k0 : w.heap.size < w1.heap.size := by omega
  have m0 : w.heap.size < w1.heap.size + 1 := by omega
  have k1 : w.heap.size + 1 < w1.heap.size := by omega
  have m1 : w.heap.size + 1 < w1.heap.size + 1 := by omega
  have k2 : w.heap.size + 1 + 1 < w1.heap.size := by omega
  have m2 : w.heap.size + 1 + 1 < w1.heap.size + 1 := by omega
  go_wp2_with fail
  refine (H0.out _).mono ?_
  rintro e w2 ⟨rfl, hB⟩
  (have HBn : Below w.heap.size w w2 := below_lift (by (first | exact HB.out | exact HB.out.drew | exact HB.out.alloc HB.out.size _ | exact (HB.out.alloc HB.out.size _).drew | exact (HB.out.alloc HB.out.size _).alloc (Nat.le_trans HB.out.size (by simp)) _ | exact ((HB.out.alloc HB.out.size _).alloc (Nat.le_trans HB.out.size (by simp)) _).alloc (Nat.le_trans HB.out.size (by simp; omega)) _)) hB; obtain ⟨hc, hf⟩ := below_cell hB; have zz := hB.size; (try simp at zz); have HB := Lib.hid HBn; clear HBn hB)
  have k0 : w.heap.size < w2.heap.size := by omega
  have m0 : w.heap.size < w2.heap.size + 1 := by omega
  have k1 : w.heap.size + 1 < w2.heap.size := by omega
  have m1 : w.heap.size + 1 < w2.heap.size + 1 := by omega
  have k2 : w.heap.size + 1 + 1 < w2.heap.size := by omega
  have m2 : w.heap.size + 1 + 1 < w2.heap.size + 1 := by omega
  go_wp2_with fail
  refine (H1.out _).mono ?_
  rintro e w3 ⟨rfl, hB⟩
  (have HBn : Below w.heap.size w w3 := below_lift (by (first | exact HB.out | exact HB.out.drew | exact HB.out.alloc HB.out.size _ | exact (HB.out.alloc HB.out.size _).drew | exact (HB.out.alloc HB.out.size _).alloc (Nat.le_trans HB.out.size (by simp)) _ | exact ((HB.out.alloc HB.out.size _).alloc (Nat.le_trans HB.out.size (by simp)) _).alloc (Nat.le_trans HB.out.size (by simp; omega)) _)) hB; obtain ⟨hc, hf⟩ := below_cell hB; have zz := hB.size; (try simp at zz); have HB := Lib.hid HBn; clear HBn hB)
  have k0 : w.heap.size < w3.heap.size := by omega
  have m0 : w.heap.size < w3.heap.size + 1 := by omega
  have k1 : w.heap.size + 1 < w3.heap.size := by omega
  have m1 : w.heap.size + 1 < w3.heap.size + 1 := by omega
  have k2 : w.heap.size + 1 + 1 < w3.heap.size := by omega
  have m2 : w.heap.size + 1 + 1 < w3.heap.size + 1 := by omega
  go_wp2_with fail
  refine (H2.out _).mono ?_
  rintro e w4 ⟨rfl, hB⟩
  (have HBn : Below w.heap.size w w4 := below_lift (by (first | exact HB.out | exact HB.out.drew | exact HB.out.alloc HB.out.size _ | exact (HB.out.alloc HB.out.size _).drew | exact (HB.out.alloc HB.out.size _).alloc (Nat.le_trans HB.out.size (by simp)) _ | exact ((HB.out.alloc HB.out.size _).alloc (Nat.le_trans HB.out.size (by simp)) _).alloc (Nat.le_trans HB.out.size (by simp; omega)) _)) hB; obtain ⟨hc, hf⟩ := below_cell hB; have zz := hB.size; (try simp at zz); have HB := Lib.hid HBn; clear HBn hB)
  have k0 : w.heap.size < w4.heap.size := by omega
  have m0 : w.heap.size < w4.heap.size + 1 := by omega
  have k1 : w.heap.size + 1 < w4.heap.size := by omega
  have m1 : w.heap.size + 1 < w4.heap.size + 1 := by omega
  have k2 : w.heap.size + 1 + 1 < w4.heap.size := by omega
  have m2 : w.heap.size + 1 + 1 < w4.heap.size + 1 := by omega
  go_wp2_with fail
  refine (H3.out _).mono ?_
  rintro e w5 ⟨rfl, hB⟩
  (have HBn : Below w.heap.size w w5 := below_lift (by (first | exact HB.out | exact HB.out.drew | exact HB.out.alloc HB.out.size _ | exact (HB.out.alloc HB.out.size _).drew | exact (HB.out.alloc HB.out.size _).alloc (Nat.le_trans HB.out.size (by simp)) _ | exact ((HB.out.alloc HB.out.size _).alloc (Nat.le_trans HB.out.size (by simp)) _).alloc (Nat.le_trans HB.out.size (by simp; omega)) _)) hB; obtain ⟨hc, hf⟩ := below_cell hB; have zz := hB.size; (try simp at zz); have HB := Lib.hid HBn; clear HBn hB)
  have k0 : w.heap.size < w5.heap.size := by omega
  have m0 : w.heap.size < w5.heap.size + 1 := by omega
  have k1 : w.heap.size + 1 < w5.heap.size := by omega
  have m1 : w.heap.size + 1 < w5.heap.size + 1 := by omega
  have k2 : w.heap.size + 1 + 1 < w5.heap.size := by omega
  have m2 : w.heap.size + 1 + 1 < w5.heap.size + 1 := by omega
  go_wp2_with fail
  go_ret
  exact ⟨rfl, by (first | exact HB.out | exact HB.out.drew | exact HB.out.alloc HB.out.size _ | exact (HB.out.alloc HB.out.size _).drew | exact (HB.out.alloc HB.out.size _).alloc (Nat.le_trans HB.out.size (by simp)) _ | exact ((HB.out.alloc HB.out.size _).alloc (Nat.le_trans HB.out.size (by simp)) _).alloc (Nat.le_trans HB.out.size (by simp; omega)) _)⟩

set_option maxHeartbeats 4000000 in
theorem total_z_t (a b c : Lab) (y : Int) (w : World) (hh : Handle w) (h0 : CmpIs a b (0)) (h1 : CmpIs b c y) (h2 : CmpIs b a (0)) (h3 : UnderIs a b true) (h4 : ∀ W, (binOp .eql 24 (.agg #[.int .i64 a.lv, .int .u64 (u a.c), .int .i64 a.ig]) (.agg #[.int .i64 b.lv, .int .u64 (u b.c), .int .i64 b.ig])).run Tryd.prog W = .ok (.bool true) W) (h5 : (a.lv == b.lv) = true) :
    Calls Tryd.prog 9 #[.agg #[.int .i64 a.lv, .int .u64 (u a.c), .int .i64 a.ig], .agg #[.int .i64 b.lv, .int .u64 (u b.c), .int .i64 b.ig], .agg #[.int .i64 c.lv, .int .u64 (u c.c), .int .i64 c.ig]] w (Yes w) := by
  have H0 := Lib.hid h0
  clear h0
  have H1 := Lib.hid h1
  clear h1
  have H2 := Lib.hid h2
  clear h2
  have H3 := Lib.hid h3
  clear h3
  have HH := Lib.hid hh
  clear hh
  have HB := Lib.hid (Below.refl w.heap.size w)
  go_enter Tryd.func9, Tryd.ntmps9
  go_wp2_with fail
  refine (shown_any _ (HH.out.up (by (first | exact HB.out | exact HB.out.drew | exact HB.out.alloc HB.out.size _ | exact (HB.out.alloc HB.out.size _).drew | exact (HB.out.alloc HB.out.size _).alloc (Nat.le_trans HB.out.size (by simp)) _ | exact ((HB.out.alloc HB.out.size _).alloc (Nat.le_trans HB.out.size (by simp)) _).alloc (Nat.le_trans HB.out.size (by simp; omega)) _)))).mono ?_
  rintro e w1 ⟨rfl, hB⟩
  (have HBn : Below w.heap.size w w1 := below_lift (by (first | exact HB.out | exact HB.out.drew | exact HB.out.alloc HB.out.size _ | exact (HB.out.alloc HB.out.size _).drew | exact (HB.out.alloc HB.out.size _).alloc (Nat.le_trans HB.out.size (by simp)) _ | exact ((HB.out.alloc HB.out.size _).alloc (Nat.le_trans HB.out.size (by simp)) _).alloc (Nat.le_trans HB.out.size (by simp; omega)) _)) hB; obtain ⟨hc, hf⟩ := below_cell hB; have zz := hB.size; (try simp at zz); have HB := Lib.hid HBn; clear HBn hB)
  have k0 : w.heap.size < w1.heap.size := by omega
  have m0 : w.heap.size < w1.heap.size + 1 := by omega
  have k1 : w.heap.size + 1 < w1.heap.size := by omega
  have m1 : w.heap.size + 1 < w1.heap.size + 1 := by omega
  have k2 : w.heap.size + 1 + 1 < w1.heap.size := by omega
  have m2 : w.heap.size + 1 + 1 < w1.heap.size + 1 := by omega
  go_wp2_with fail
  refine (H0.out _).mono ?_
  rintro e w2 ⟨rfl, hB⟩
  (have HBn : Below w.heap.size w w2 := below_lift (by (first | exact HB.out | exact HB.out.drew | exact HB.out.alloc HB.out.size _ | exact (HB.out.alloc HB.out.size _).drew | exact (HB.out.alloc HB.out.size _).alloc (Nat.le_trans HB.out.size (by simp)) _ | exact ((HB.out.alloc HB.out.size _).alloc (Nat.le_trans HB.out.size (by simp)) _).alloc (Nat.le_trans HB.out.size (by simp; omega)) _)) hB; obtain ⟨hc, hf⟩ := below_cell hB; have zz := hB.size; (try simp at zz); have HB := Lib.hid HBn; clear HBn hB)
  have k0 : w.heap.size < w2.heap.size := by omega
  have m0 : w.heap.size < w2.heap.size + 1 := by omega
  have k1 : w.heap.size + 1 < w2.heap.size := by omega
  have m1 : w.heap.size + 1 < w2.heap.size + 1 := by omega
  have k2 : w.heap.size + 1 + 1 < w2.heap.size := by omega
  have m2 : w.heap.size + 1 + 1 < w2.heap.size + 1 := by omega
  go_wp2_with fail
  refine (H1.out _).mono ?_
  rintro e w3 ⟨rfl, hB⟩
  (have HBn : Below w.heap.size w w3 := below_lift (by (first | exact HB.out | exact HB.out.drew | exact HB.out.alloc HB.out.size _ | exact (HB.out.alloc HB.out.size _).drew | exact (HB.out.alloc HB.out.size _).alloc (Nat.le_trans HB.out.size (by simp)) _ | exact ((HB.out.alloc HB.out.size _).alloc (Nat.le_trans HB.out.size (by simp)) _).alloc (Nat.le_trans HB.out.size (by simp; omega)) _)) hB; obtain ⟨hc, hf⟩ := below_cell hB; have zz := hB.size; (try simp at zz); have HB := Lib.hid HBn; clear HBn hB)
  have k0 : w.heap.size < w3.heap.size := by omega
  have m0 : w.heap.size < w3.heap.size + 1 := by omega
  have k1 : w.heap.size + 1 < w3.heap.size := by omega
  have m1 : w.heap.size + 1 < w3.heap.size + 1 := by omega
  have k2 : w.heap.size + 1 + 1 < w3.heap.size := by omega
  have m2 : w.heap.size + 1 + 1 < w3.heap.size + 1 := by omega
  go_wp2_with fail
  refine (H2.out _).mono ?_
  rintro e w4 ⟨rfl, hB⟩
  (have HBn : Below w.heap.size w w4 := below_lift (by (first | exact HB.out | exact HB.out.drew | exact HB.out.alloc HB.out.size _ | exact (HB.out.alloc HB.out.size _).drew | exact (HB.out.alloc HB.out.size _).alloc (Nat.le_trans HB.out.size (by simp)) _ | exact ((HB.out.alloc HB.out.size _).alloc (Nat.le_trans HB.out.size (by simp)) _).alloc (Nat.le_trans HB.out.size (by simp; omega)) _)) hB; obtain ⟨hc, hf⟩ := below_cell hB; have zz := hB.size; (try simp at zz); have HB := Lib.hid HBn; clear HBn hB)
  have k0 : w.heap.size < w4.heap.size := by omega
  have m0 : w.heap.size < w4.heap.size + 1 := by omega
  have k1 : w.heap.size + 1 < w4.heap.size := by omega
  have m1 : w.heap.size + 1 < w4.heap.size + 1 := by omega
  have k2 : w.heap.size + 1 + 1 < w4.heap.size := by omega
  have m2 : w.heap.size + 1 + 1 < w4.heap.size + 1 := by omega
  go_wp2_with fail
  refine (H3.out _).mono ?_
  rintro e w5 ⟨rfl, hB⟩
  (have HBn : Below w.heap.size w w5 := below_lift (by (first | exact HB.out | exact HB.out.drew | exact HB.out.alloc HB.out.size _ | exact (HB.out.alloc HB.out.size _).drew | exact (HB.out.alloc HB.out.size _).alloc (Nat.le_trans HB.out.size (by simp)) _ | exact ((HB.out.alloc HB.out.size _).alloc (Nat.le_trans HB.out.size (by simp)) _).alloc (Nat.le_trans HB.out.size (by simp; omega)) _)) hB; obtain ⟨hc, hf⟩ := below_cell hB; have zz := hB.size; (try simp at zz); have HB := Lib.hid HBn; clear HBn hB)
  have k0 : w.heap.size < w5.heap.size := by omega
  have m0 : w.heap.size < w5.heap.size + 1 := by omega
  have k1 : w.heap.size + 1 < w5.heap.size := by omega
  have m1 : w.heap.size + 1 < w5.heap.size + 1 := by omega
  have k2 : w.heap.size + 1 + 1 < w5.heap.size := by omega
  have m2 : w.heap.size + 1 + 1 < w5.heap.size + 1 := by omega
  go_wp2_with fail
  go_ret
  exact ⟨rfl, by (first | exact HB.out | exact HB.out.drew | exact HB.out.alloc HB.out.size _ | exact (HB.out.alloc HB.out.size _).drew | exact (HB.out.alloc HB.out.size _).alloc (Nat.le_trans HB.out.size (by simp)) _ | exact ((HB.out.alloc HB.out.size _).alloc (Nat.le_trans HB.out.size (by simp)) _).alloc (Nat.le_trans HB.out.size (by simp; omega)) _)⟩

set_option maxHeartbeats 4000000 in
theorem total_n_t_f (a b c : Lab) (w : World) (hh : Handle w) (h0 : CmpIs a b (-1)) (h1 : CmpIs b c (-1)) (h2 : CmpIs b a (1)) (h3 : CmpIs a c (-1)) (h4 : UnderIs a b false) (h5 : ∀ W, (binOp .eql 24 (.agg #[.int .i64 a.lv, .int .u64 (u a.c), .int .i64 a.ig]) (.agg #[.int .i64 b.lv, .int .u64 (u b.c), .int .i64 b.ig])).run Tryd.prog W = .ok (.bool false) W) (h6 : (a.lv == b.lv) = true) :
    Calls Tryd.prog 9 #[.agg #[.int .i64 a.lv, .int .u64 (u a.c), .int .i64 a.ig], .agg #[.int .i64 b.lv, .int .u64 (u b.c), .int .i64 b.ig], .agg #[.int .i64 c.lv, .int .u64 (u c.c), .int .i64 c.ig]] w (Yes w) := by
  have H0 := Lib.hid h0
  clear h0
  have H1 := Lib.hid h1
  clear h1
  have H2 := Lib.hid h2
  clear h2
  have H3 := Lib.hid h3
  clear h3
  have H4 := Lib.hid h4
  clear h4
  have HH := Lib.hid hh
  clear hh
  have HB := Lib.hid (Below.refl w.heap.size w)
  go_enter Tryd.func9, Tryd.ntmps9
  go_wp2_with fail
  refine (shown_any _ (HH.out.up (by (first | exact HB.out | exact HB.out.drew | exact HB.out.alloc HB.out.size _ | exact (HB.out.alloc HB.out.size _).drew | exact (HB.out.alloc HB.out.size _).alloc (Nat.le_trans HB.out.size (by simp)) _ | exact ((HB.out.alloc HB.out.size _).alloc (Nat.le_trans HB.out.size (by simp)) _).alloc (Nat.le_trans HB.out.size (by simp; omega)) _)))).mono ?_
  rintro e w1 ⟨rfl, hB⟩
  (have HBn : Below w.heap.size w w1 := below_lift (by (first | exact HB.out | exact HB.out.drew | exact HB.out.alloc HB.out.size _ | exact (HB.out.alloc HB.out.size _).drew | exact (HB.out.alloc HB.out.size _).alloc (Nat.le_trans HB.out.size (by simp)) _ | exact ((HB.out.alloc HB.out.size _).alloc (Nat.le_trans HB.out.size (by simp)) _).alloc (Nat.le_trans HB.out.size (by simp; omega)) _)) hB; obtain ⟨hc, hf⟩ := below_cell hB; have zz := hB.size; (try simp at zz); have HB := Lib.hid HBn; clear HBn hB)
  have k0 : w.heap.size < w1.heap.size := by omega
  have m0 : w.heap.size < w1.heap.size + 1 := by omega
  have k1 : w.heap.size + 1 < w1.heap.size := by omega
  have m1 : w.heap.size + 1 < w1.heap.size + 1 := by omega
  have k2 : w.heap.size + 1 + 1 < w1.heap.size := by omega
  have m2 : w.heap.size + 1 + 1 < w1.heap.size + 1 := by omega
  go_wp2_with fail
  refine (H0.out _).mono ?_
  rintro e w2 ⟨rfl, hB⟩
  (have HBn : Below w.heap.size w w2 := below_lift (by (first | exact HB.out | exact HB.out.drew | exact HB.out.alloc HB.out.size _ | exact (HB.out.alloc HB.out.size _).drew | exact (HB.out.alloc HB.out.size _).alloc (Nat.le_trans HB.out.size (by simp)) _ | exact ((HB.out.alloc HB.out.size _).alloc (Nat.le_trans HB.out.size (by simp)) _).alloc (Nat.le_trans HB.out.size (by simp; omega)) _)) hB; obtain ⟨hc, hf⟩ := below_cell hB; have zz := hB.size; (try simp at zz); have HB := Lib.hid HBn; clear HBn hB)
  have k0 : w.heap.size < w2.heap.size := by omega
  have m0 : w.heap.size < w2.heap.size + 1 := by omega
  have k1 : w.heap.size + 1 < w2.heap.size := by omega
  have m1 : w.heap.size + 1 < w2.heap.size + 1 := by omega
  have k2 : w.heap.size + 1 + 1 < w2.heap.size := by omega
  have m2 : w.heap.size + 1 + 1 < w2.heap.size + 1 := by omega
  go_wp2_with fail
  refine (H1.out _).mono ?_
  rintro e w3 ⟨rfl, hB⟩
  (have HBn : Below w.heap.size w w3 := below_lift (by (first | exact HB.out | exact HB.out.drew | exact HB.out.alloc HB.out.size _ | exact (HB.out.alloc HB.out.size _).drew | exact (HB.out.alloc HB.out.size _).alloc (Nat.le_trans HB.out.size (by simp)) _ | exact ((HB.out.alloc HB.out.size _).alloc (Nat.le_trans HB.out.size (by simp)) _).alloc (Nat.le_trans HB.out.size (by simp; omega)) _)) hB; obtain ⟨hc, hf⟩ := below_cell hB; have zz := hB.size; (try simp at zz); have HB := Lib.hid HBn; clear HBn hB)
  have k0 : w.heap.size < w3.heap.size := by omega
  have m0 : w.heap.size < w3.heap.size + 1 := by omega
  have k1 : w.heap.size + 1 < w3.heap.size := by omega
  have m1 : w.heap.size + 1 < w3.heap.size + 1 := by omega
  have k2 : w.heap.size + 1 + 1 < w3.heap.size := by omega
  have m2 : w.heap.size + 1 + 1 < w3.heap.size + 1 := by omega
  go_wp2_with fail
  refine (H2.out _).mono ?_
  rintro e w4 ⟨rfl, hB⟩
  (have HBn : Below w.heap.size w w4 := below_lift (by (first | exact HB.out | exact HB.out.drew | exact HB.out.alloc HB.out.size _ | exact (HB.out.alloc HB.out.size _).drew | exact (HB.out.alloc HB.out.size _).alloc (Nat.le_trans HB.out.size (by simp)) _ | exact ((HB.out.alloc HB.out.size _).alloc (Nat.le_trans HB.out.size (by simp)) _).alloc (Nat.le_trans HB.out.size (by simp; omega)) _)) hB; obtain ⟨hc, hf⟩ := below_cell hB; have zz := hB.size; (try simp at zz); have HB := Lib.hid HBn; clear HBn hB)
  have k0 : w.heap.size < w4.heap.size := by omega
  have m0 : w.heap.size < w4.heap.size + 1 := by omega
  have k1 : w.heap.size + 1 < w4.heap.size := by omega
  have m1 : w.heap.size + 1 < w4.heap.size + 1 := by omega
  have k2 : w.heap.size + 1 + 1 < w4.heap.size := by omega
  have m2 : w.heap.size + 1 + 1 < w4.heap.size + 1 := by omega
  go_wp2_with fail
  refine (H3.out _).mono ?_
  rintro e w5 ⟨rfl, hB⟩
  (have HBn : Below w.heap.size w w5 := below_lift (by (first | exact HB.out | exact HB.out.drew | exact HB.out.alloc HB.out.size _ | exact (HB.out.alloc HB.out.size _).drew | exact (HB.out.alloc HB.out.size _).alloc (Nat.le_trans HB.out.size (by simp)) _ | exact ((HB.out.alloc HB.out.size _).alloc (Nat.le_trans HB.out.size (by simp)) _).alloc (Nat.le_trans HB.out.size (by simp; omega)) _)) hB; obtain ⟨hc, hf⟩ := below_cell hB; have zz := hB.size; (try simp at zz); have HB := Lib.hid HBn; clear HBn hB)
  have k0 : w.heap.size < w5.heap.size := by omega
  have m0 : w.heap.size < w5.heap.size + 1 := by omega
  have k1 : w.heap.size + 1 < w5.heap.size := by omega
  have m1 : w.heap.size + 1 < w5.heap.size + 1 := by omega
  have k2 : w.heap.size + 1 + 1 < w5.heap.size := by omega
  have m2 : w.heap.size + 1 + 1 < w5.heap.size + 1 := by omega
  go_wp2_with fail
  refine (H4.out _).mono ?_
  rintro e w6 ⟨rfl, hB⟩
  (have HBn : Below w.heap.size w w6 := below_lift (by (first | exact HB.out | exact HB.out.drew | exact HB.out.alloc HB.out.size _ | exact (HB.out.alloc HB.out.size _).drew | exact (HB.out.alloc HB.out.size _).alloc (Nat.le_trans HB.out.size (by simp)) _ | exact ((HB.out.alloc HB.out.size _).alloc (Nat.le_trans HB.out.size (by simp)) _).alloc (Nat.le_trans HB.out.size (by simp; omega)) _)) hB; obtain ⟨hc, hf⟩ := below_cell hB; have zz := hB.size; (try simp at zz); have HB := Lib.hid HBn; clear HBn hB)
  have k0 : w.heap.size < w6.heap.size := by omega
  have m0 : w.heap.size < w6.heap.size + 1 := by omega
  have k1 : w.heap.size + 1 < w6.heap.size := by omega
  have m1 : w.heap.size + 1 < w6.heap.size + 1 := by omega
  have k2 : w.heap.size + 1 + 1 < w6.heap.size := by omega
  have m2 : w.heap.size + 1 + 1 < w6.heap.size + 1 := by omega
  go_wp2_with fail
  go_ret
  exact ⟨rfl, by (first | exact HB.out | exact HB.out.drew | exact HB.out.alloc HB.out.size _ | exact (HB.out.alloc HB.out.size _).drew | exact (HB.out.alloc HB.out.size _).alloc (Nat.le_trans HB.out.size (by simp)) _ | exact ((HB.out.alloc HB.out.size _).alloc (Nat.le_trans HB.out.size (by simp)) _).alloc (Nat.le_trans HB.out.size (by simp; omega)) _)⟩

set_option maxHeartbeats 4000000 in
theorem total_y_t_f (a b c : Lab) (y : Int) (w : World) (hh : Handle w) (h0 : CmpIs a b (-1)) (h1 : CmpIs b c y) (h2 : CmpIs b a (1)) (h3 : UnderIs a b false) (h4 : (0 : Int) ≤ y) (h5 : ∀ W, (binOp .eql 24 (.agg #[.int .i64 a.lv, .int .u64 (u a.c), .int .i64 a.ig]) (.agg #[.int .i64 b.lv, .int .u64 (u b.c), .int .i64 b.ig])).run Tryd.prog W = .ok (.bool false) W) (h6 : (a.lv == b.lv) = true) :
    Calls Tryd.prog 9 #[.agg #[.int .i64 a.lv, .int .u64 (u a.c), .int .i64 a.ig], .agg #[.int .i64 b.lv, .int .u64 (u b.c), .int .i64 b.ig], .agg #[.int .i64 c.lv, .int .u64 (u c.c), .int .i64 c.ig]] w (Yes w) := by
  have H0 := Lib.hid h0
  clear h0
  have H1 := Lib.hid h1
  clear h1
  have H2 := Lib.hid h2
  clear h2
  have H3 := Lib.hid h3
  clear h3
  have HH := Lib.hid hh
  clear hh
  have HB := Lib.hid (Below.refl w.heap.size w)
  go_enter Tryd.func9, Tryd.ntmps9
  go_wp2_with fail
  refine (shown_any _ (HH.out.up (by (first | exact HB.out | exact HB.out.drew | exact HB.out.alloc HB.out.size _ | exact (HB.out.alloc HB.out.size _).drew | exact (HB.out.alloc HB.out.size _).alloc (Nat.le_trans HB.out.size (by simp)) _ | exact ((HB.out.alloc HB.out.size _).alloc (Nat.le_trans HB.out.size (by simp)) _).alloc (Nat.le_trans HB.out.size (by simp; omega)) _)))).mono ?_
  rintro e w1 ⟨rfl, hB⟩
  (have HBn : Below w.heap.size w w1 := below_lift (by (first | exact HB.out | exact HB.out.drew | exact HB.out.alloc HB.out.size _ | exact (HB.out.alloc HB.out.size _).drew | exact (HB.out.alloc HB.out.size _).alloc (Nat.le_trans HB.out.size (by simp)) _ | exact ((HB.out.alloc HB.out.size _).alloc (Nat.le_trans HB.out.size (by simp)) _).alloc (Nat.le_trans HB.out.size (by simp; omega)) _)) hB; obtain ⟨hc, hf⟩ := below_cell hB; have zz := hB.size; (try simp at zz); have HB := Lib.hid HBn; clear HBn hB)
  have k0 : w.heap.size < w1.heap.size := by omega
  have m0 : w.heap.size < w1.heap.size + 1 := by omega
  have k1 : w.heap.size + 1 < w1.heap.size := by omega
  have m1 : w.heap.size + 1 < w1.heap.size + 1 := by omega
  have k2 : w.heap.size + 1 + 1 < w1.heap.size := by omega
  have m2 : w.heap.size + 1 + 1 < w1.heap.size + 1 := by omega
  go_wp2_with fail
  refine (H0.out _).mono ?_
  rintro e w2 ⟨rfl, hB⟩
  (have HBn : Below w.heap.size w w2 := below_lift (by (first | exact HB.out | exact HB.out.drew | exact HB.out.alloc HB.out.size _ | exact (HB.out.alloc HB.out.size _).drew | exact (HB.out.alloc HB.out.size _).alloc (Nat.le_trans HB.out.size (by simp)) _ | exact ((HB.out.alloc HB.out.size _).alloc (Nat.le_trans HB.out.size (by simp)) _).alloc (Nat.le_trans HB.out.size (by simp; omega)) _)) hB; obtain ⟨hc, hf⟩ := below_cell hB; have zz := hB.size; (try simp at zz); have HB := Lib.hid HBn; clear HBn hB)
  have k0 : w.heap.size < w2.heap.size := by omega
  have m0 : w.heap.size < w2.heap.size + 1 := by omega
  have k1 : w.heap.size + 1 < w2.heap.size := by omega
  have m1 : w.heap.size + 1 < w2.heap.size + 1 := by omega
  have k2 : w.heap.size + 1 + 1 < w2.heap.size := by omega
  have m2 : w.heap.size + 1 + 1 < w2.heap.size + 1 := by omega
  go_wp2_with fail
  refine (H1.out _).mono ?_
  rintro e w3 ⟨rfl, hB⟩
  (have HBn : Below w.heap.size w w3 := below_lift (by (first | exact HB.out | exact HB.out.drew | exact HB.out.alloc HB.out.size _ | exact (HB.out.alloc HB.out.size _).drew | exact (HB.out.alloc HB.out.size _).alloc (Nat.le_trans HB.out.size (by simp)) _ | exact ((HB.out.alloc HB.out.size _).alloc (Nat.le_trans HB.out.size (by simp)) _).alloc (Nat.le_trans HB.out.size (by simp; omega)) _)) hB; obtain ⟨hc, hf⟩ := below_cell hB; have zz := hB.size; (try simp at zz); have HB := Lib.hid HBn; clear HBn hB)
  have k0 : w.heap.size < w3.heap.size := by omega
  have m0 : w.heap.size < w3.heap.size + 1 := by omega
  have k1 : w.heap.size + 1 < w3.heap.size := by omega
  have m1 : w.heap.size + 1 < w3.heap.size + 1 := by omega
  have k2 : w.heap.size + 1 + 1 < w3.heap.size := by omega
  have m2 : w.heap.size + 1 + 1 < w3.heap.size + 1 := by omega
  go_wp2_with fail
  refine (H2.out _).mono ?_
  rintro e w4 ⟨rfl, hB⟩
  (have HBn : Below w.heap.size w w4 := below_lift (by (first | exact HB.out | exact HB.out.drew | exact HB.out.alloc HB.out.size _ | exact (HB.out.alloc HB.out.size _).drew | exact (HB.out.alloc HB.out.size _).alloc (Nat.le_trans HB.out.size (by simp)) _ | exact ((HB.out.alloc HB.out.size _).alloc (Nat.le_trans HB.out.size (by simp)) _).alloc (Nat.le_trans HB.out.size (by simp; omega)) _)) hB; obtain ⟨hc, hf⟩ := below_cell hB; have zz := hB.size; (try simp at zz); have HB := Lib.hid HBn; clear HBn hB)
  have k0 : w.heap.size < w4.heap.size := by omega
  have m0 : w.heap.size < w4.heap.size + 1 := by omega
  have k1 : w.heap.size + 1 < w4.heap.size := by omega
  have m1 : w.heap.size + 1 < w4.heap.size + 1 := by omega
  have k2 : w.heap.size + 1 + 1 < w4.heap.size := by omega
  have m2 : w.heap.size + 1 + 1 < w4.heap.size + 1 := by omega
  go_wp2_with fail
  refine (H3.out _).mono ?_
  rintro e w5 ⟨rfl, hB⟩
  (have HBn : Below w.heap.size w w5 := below_lift (by (first | exact HB.out | exact HB.out.drew | exact HB.out.alloc HB.out.size _ | exact (HB.out.alloc HB.out.size _).drew | exact (HB.out.alloc HB.out.size _).alloc (Nat.le_trans HB.out.size (by simp)) _ | exact ((HB.out.alloc HB.out.size _).alloc (Nat.le_trans HB.out.size (by simp)) _).alloc (Nat.le_trans HB.out.size (by simp; omega)) _)) hB; obtain ⟨hc, hf⟩ := below_cell hB; have zz := hB.size; (try simp at zz); have HB := Lib.hid HBn; clear HBn hB)
  have k0 : w.heap.size < w5.heap.size := by omega
  have m0 : w.heap.size < w5.heap.size + 1 := by omega
  have k1 : w.heap.size + 1 < w5.heap.size := by omega
  have m1 : w.heap.size + 1 < w5.heap.size + 1 := by omega
  have k2 : w.heap.size + 1 + 1 < w5.heap.size := by omega
  have m2 : w.heap.size + 1 + 1 < w5.heap.size + 1 := by omega
  go_wp2_with fail
  go_ret
  exact ⟨rfl, by (first | exact HB.out | exact HB.out.drew | exact HB.out.alloc HB.out.size _ | exact (HB.out.alloc HB.out.size _).drew | exact (HB.out.alloc HB.out.size _).alloc (Nat.le_trans HB.out.size (by simp)) _ | exact ((HB.out.alloc HB.out.size _).alloc (Nat.le_trans HB.out.size (by simp)) _).alloc (Nat.le_trans HB.out.size (by simp; omega)) _)⟩

set_option maxHeartbeats 4000000 in
theorem total_z_f (a b c : Lab) (y : Int) (w : World) (hh : Handle w) (h0 : CmpIs a b (0)) (h1 : CmpIs b c y) (h2 : CmpIs b a (0)) (h3 : UnderIs a b false) (h4 : ∀ W, (binOp .eql 24 (.agg #[.int .i64 a.lv, .int .u64 (u a.c), .int .i64 a.ig]) (.agg #[.int .i64 b.lv, .int .u64 (u b.c), .int .i64 b.ig])).run Tryd.prog W = .ok (.bool true) W) (h5 : (a.lv == b.lv) = true) :
    Calls Tryd.prog 9 #[.agg #[.int .i64 a.lv, .int .u64 (u a.c), .int .i64 a.ig], .agg #[.int .i64 b.lv, .int .u64 (u b.c), .int .i64 b.ig], .agg #[.int .i64 c.lv, .int .u64 (u c.c), .int .i64 c.ig]] w (Yes w) := by
  have H0 := Lib.hid h0
  clear h0
  have H1 := Lib.hid h1
  clear h1
  have H2 := Lib.hid h2
  clear h2
  have H3 := Lib.hid h3
  clear h3
  have HH := Lib.hid hh
  clear hh
  have HB := Lib.hid (Below.refl w.heap.size w)
  go_enter Tryd.func9, Tryd.ntmps9
  go_wp2_with fail
  refine (shown_any _ (HH.out.up (by (first | exact HB.out | exact HB.out.drew | exact HB.out.alloc HB.out.size _ | exact (HB.out.alloc HB.out.size _).drew | exact (HB.out.alloc HB.out.size _).alloc (Nat.le_trans HB.out.size (by simp)) _ | exact ((HB.out.alloc HB.out.size _).alloc (Nat.le_trans HB.out.size (by simp)) _).alloc (Nat.le_trans HB.out.size (by simp; omega)) _)))).mono ?_
  rintro e w1 ⟨rfl, hB⟩
  (have HBn : Below w.heap.size w w1 := below_lift (by (first | exact HB.out | exact HB.out.drew | exact HB.out.alloc HB.out.size _ | exact (HB.out.alloc HB.out.size _).drew | exact (HB.out.alloc HB.out.size _).alloc (Nat.le_trans HB.out.size (by simp)) _ | exact ((HB.out.alloc HB.out.size _).alloc (Nat.le_trans HB.out.size (by simp)) _).alloc (Nat.le_trans HB.out.size (by simp; omega)) _)) hB; obtain ⟨hc, hf⟩ := below_cell hB; have zz := hB.size; (try simp at zz); have HB := Lib.hid HBn; clear HBn hB)
  have k0 : w.heap.size < w1.heap.size := by omega
  have m0 : w.heap.size < w1.heap.size + 1 := by omega
  have k1 : w.heap.size + 1 < w1.heap.size := by omega
  have m1 : w.heap.size + 1 < w1.heap.size + 1 := by omega
  have k2 : w.heap.size + 1 + 1 < w1.heap.size := by omega
  have m2 : w.heap.size + 1 + 1 < w1.heap.size + 1 := by omega
  go_wp2_with fail
  refine (H0.out _).mono ?_
  rintro e w2 ⟨rfl, hB⟩
  (have HBn : Below w.heap.size w w2 := below_lift (by (first | exact HB.out | exact HB.out.drew | exact HB.out.alloc HB.out.size _ | exact (HB.out.alloc HB.out.size _).drew | exact (HB.out.alloc HB.out.size _).alloc (Nat.le_trans HB.out.size (by simp)) _ | exact ((HB.out.alloc HB.out.size _).alloc (Nat.le_trans HB.out.size (by simp)) _).alloc (Nat.le_trans HB.out.size (by simp; omega)) _)) hB; obtain ⟨hc, hf⟩ := below_cell hB; have zz := hB.size; (try simp at zz); have HB := Lib.hid HBn; clear HBn hB)
  have k0 : w.heap.size < w2.heap.size := by omega
  have m0 : w.heap.size < w2.heap.size + 1 := by omega
  have k1 : w.heap.size + 1 < w2.heap.size := by omega
  have m1 : w.heap.size + 1 < w2.heap.size + 1 := by omega
  have k2 : w.heap.size + 1 + 1 < w2.heap.size := by omega
  have m2 : w.heap.size + 1 + 1 < w2.heap.size + 1 := by omega
  go_wp2_with fail
  refine (H1.out _).mono ?_
  rintro e w3 ⟨rfl, hB⟩
  (have HBn : Below w.heap.size w w3 := below_lift (by (first | exact HB.out | exact HB.out.drew | exact HB.out.alloc HB.out.size _ | exact (HB.out.alloc HB.out.size _).drew | exact (HB.out.alloc HB.out.size _).alloc (Nat.le_trans HB.out.size (by simp)) _ | exact ((HB.out.alloc HB.out.size _).alloc (Nat.le_trans HB.out.size (by simp)) _).alloc (Nat.le_trans HB.out.size (by simp; omega)) _)) hB; obtain ⟨hc, hf⟩ := below_cell hB; have zz := hB.size; (try simp at zz); have HB := Lib.hid HBn; clear HBn hB)
  have k0 : w.heap.size < w3.heap.size := by omega
  have m0 : w.heap.size < w3.heap.size + 1 := by omega
  have k1 : w.heap.size + 1 < w3.heap.size := by omega
  have m1 : w.heap.size + 1 < w3.heap.size + 1 := by omega
  have k2 : w.heap.size + 1 + 1 < w3.heap.size := by omega
  have m2 : w.heap.size + 1 + 1 < w3.heap.size + 1 := by omega
  go_wp2_with fail
  refine (H2.out _).mono ?_
  rintro e w4 ⟨rfl, hB⟩
  (have HBn : Below w.heap.size w w4 := below_lift (by (first | exact HB.out | exact HB.out.drew | exact HB.out.alloc HB.out.size _ | exact (HB.out.alloc HB.out.size _).drew | exact (HB.out.alloc HB.out.size _).alloc (Nat.le_trans HB.out.size (by simp)) _ | exact ((HB.out.alloc HB.out.size _).alloc (Nat.le_trans HB.out.size (by simp)) _).alloc (Nat.le_trans HB.out.size (by simp; omega)) _)) hB; obtain ⟨hc, hf⟩ := below_cell hB; have zz := hB.size; (try simp at zz); have HB := Lib.hid HBn; clear HBn hB)
  have k0 : w.heap.size < w4.heap.size := by omega
  have m0 : w.heap.size < w4.heap.size + 1 := by omega
  have k1 : w.heap.size + 1 < w4.heap.size := by omega
  have m1 : w.heap.size + 1 < w4.heap.size + 1 := by omega
  have k2 : w.heap.size + 1 + 1 < w4.heap.size := by omega
  have m2 : w.heap.size + 1 + 1 < w4.heap.size + 1 := by omega
  go_wp2_with fail
  refine (H3.out _).mono ?_
  rintro e w5 ⟨rfl, hB⟩
  (have HBn : Below w.heap.size w w5 := below_lift (by (first | exact HB.out | exact HB.out.drew | exact HB.out.alloc HB.out.size _ | exact (HB.out.alloc HB.out.size _).drew | exact (HB.out.alloc HB.out.size _).alloc (Nat.le_trans HB.out.size (by simp)) _ | exact ((HB.out.alloc HB.out.size _).alloc (Nat.le_trans HB.out.size (by simp)) _).alloc (Nat.le_trans HB.out.size (by simp; omega)) _)) hB; obtain ⟨hc, hf⟩ := below_cell hB; have zz := hB.size; (try simp at zz); have HB := Lib.hid HBn; clear HBn hB)
  have k0 : w.heap.size < w5.heap.size := by omega
  have m0 : w.heap.size < w5.heap.size + 1 := by omega
  have k1 : w.heap.size + 1 < w5.heap.size := by omega
  have m1 : w.heap.size + 1 < w5.heap.size + 1 := by omega
  have k2 : w.heap.size + 1 + 1 < w5.heap.size := by omega
  have m2 : w.heap.size + 1 + 1 < w5.heap.size + 1 := by omega
  go_wp2_with fail
  go_ret
  exact ⟨rfl, by (first | exact HB.out | exact HB.out.drew | exact HB.out.alloc HB.out.size _ | exact (HB.out.alloc HB.out.size _).drew | exact (HB.out.alloc HB.out.size _).alloc (Nat.le_trans HB.out.size (by simp)) _ | exact ((HB.out.alloc HB.out.size _).alloc (Nat.le_trans HB.out.size (by simp)) _).alloc (Nat.le_trans HB.out.size (by simp; omega)) _)⟩

set_option maxHeartbeats 4000000 in
theorem total_p_t_f (a b c : Lab) (y : Int) (w : World) (hh : Handle w) (h0 : CmpIs a b (1)) (h1 : CmpIs b c y) (h2 : CmpIs b a (-1)) (h3 : UnderIs a b false) (h4 : ∀ W, (binOp .eql 24 (.agg #[.int .i64 a.lv, .int .u64 (u a.c), .int .i64 a.ig]) (.agg #[.int .i64 b.lv, .int .u64 (u b.c), .int .i64 b.ig])).run Tryd.prog W = .ok (.bool false) W) (h5 : (a.lv == b.lv) = true) :
    Calls Tryd.prog 9 #[.agg #[.int .i64 a.lv, .int .u64 (u a.c), .int .i64 a.ig], .agg #[.int .i64 b.lv, .int .u64 (u b.c), .int .i64 b.ig], .agg #[.int .i64 c.lv, .int .u64 (u c.c), .int .i64 c.ig]] w (Yes w) := by
  have H0 := Lib.hid h0
  clear h0
  have H1 := Lib.hid h1
  clear h1
  have H2 := Lib.hid h2
  clear h2
  have H3 := Lib.hid h3
  clear h3
  have HH := Lib.hid hh
  clear hh
  have HB := Lib.hid (Below.refl w.heap.size w)
  go_enter Tryd.func9, Tryd.ntmps9
  go_wp2_with fail
  refine (shown_any _ (HH.out.up (by (first | exact HB.out | exact HB.out.drew | exact HB.out.alloc HB.out.size _ | exact (HB.out.alloc HB.out.size _).drew | exact (HB.out.alloc HB.out.size _).alloc (Nat.le_trans HB.out.size (by simp)) _ | exact ((HB.out.alloc HB.out.size _).alloc (Nat.le_trans HB.out.size (by simp)) _).alloc (Nat.le_trans HB.out.size (by simp; omega)) _)))).mono ?_
  rintro e w1 ⟨rfl, hB⟩
  (have HBn : Below w.heap.size w w1 := below_lift (by (first | exact HB.out | exact HB.out.drew | exact HB.out.alloc HB.out.size _ | exact (HB.out.alloc HB.out.size _).drew | exact (HB.out.alloc HB.out.size _).alloc (Nat.le_trans HB.out.size (by simp)) _ | exact ((HB.out.alloc HB.out.size _).alloc (Nat.le_trans HB.out.size (by simp)) _).alloc (Nat.le_trans HB.out.size (by simp; omega)) _)) hB; obtain ⟨hc, hf⟩ := below_cell hB; have zz := hB.size; (try simp at zz); have HB := Lib.hid HBn; clear HBn hB)
  have k0 : w.heap.size < w1.heap.size := by omega
  have m0 : w.heap.size < w1.heap.size + 1 := by omega
  have k1 : w.heap.size + 1 < w1.heap.size := by omega
  have m1 : w.heap.size + 1 < w1.heap.size + 1 := by omega
  have k2 : w.heap.size + 1 + 1 < w1.heap.size := by omega
  have m2 : w.heap.size + 1 + 1 < w1.heap.size + 1 := by omega
  go_wp2_with fail
  refine (H0.out _).mono ?_
  rintro e w2 ⟨rfl, hB⟩
  (have HBn : Below w.heap.size w w2 := below_lift (by (first | exact HB.out | exact HB.out.drew | exact HB.out.alloc HB.out.size _ | exact (HB.out.alloc HB.out.size _).drew | exact (HB.out.alloc HB.out.size _).alloc (Nat.le_trans HB.out.size (by simp)) _ | exact ((HB.out.alloc HB.out.size _).alloc (Nat.le_trans HB.out.size (by simp)) _).alloc (Nat.le_trans HB.out.size (by simp; omega)) _)) hB; obtain ⟨hc, hf⟩ := below_cell hB; have zz := hB.size; (try simp at zz); have HB := Lib.hid HBn; clear HBn hB)
  have k0 : w.heap.size < w2.heap.size := by omega
  have m0 : w.heap.size < w2.heap.size + 1 := by omega
  have k1 : w.heap.size + 1 < w2.heap.size := by omega
  have m1 : w.heap.size + 1 < w2.heap.size + 1 := by omega
  have k2 : w.heap.size + 1 + 1 < w2.heap.size := by omega
  have m2 : w.heap.size + 1 + 1 < w2.heap.size + 1 := by omega
  go_wp2_with fail
  refine (H1.out _).mono ?_
  rintro e w3 ⟨rfl, hB⟩
  (have HBn : Below w.heap.size w w3 := below_lift (by (first | exact HB.out | exact HB.out.drew | exact HB.out.alloc HB.out.size _ | exact (HB.out.alloc HB.out.size _).drew | exact (HB.out.alloc HB.out.size _).alloc (Nat.le_trans HB.out.size (by simp)) _ | exact ((HB.out.alloc HB.out.size _).alloc (Nat.le_trans HB.out.size (by simp)) _).alloc (Nat.le_trans HB.out.size (by simp; omega)) _)) hB; obtain ⟨hc, hf⟩ := below_cell hB; have zz := hB.size; (try simp at zz); have HB := Lib.hid HBn; clear HBn hB)
  have k0 : w.heap.size < w3.heap.size := by omega
  have m0 : w.heap.size < w3.heap.size + 1 := by omega
  have k1 : w.heap.size + 1 < w3.heap.size := by omega
  have m1 : w.heap.size + 1 < w3.heap.size + 1 := by omega
  have k2 : w.heap.size + 1 + 1 < w3.heap.size := by omega
  have m2 : w.heap.size + 1 + 1 < w3.heap.size + 1 := by omega
  go_wp2_with fail
  refine (H2.out _).mono ?_
  rintro e w4 ⟨rfl, hB⟩
  (have HBn : Below w.heap.size w w4 := below_lift (by (first | exact HB.out | exact HB.out.drew | exact HB.out.alloc HB.out.size _ | exact (HB.out.alloc HB.out.size _).drew | exact (HB.out.alloc HB.out.size _).alloc (Nat.le_trans HB.out.size (by simp)) _ | exact ((HB.out.alloc HB.out.size _).alloc (Nat.le_trans HB.out.size (by simp)) _).alloc (Nat.le_trans HB.out.size (by simp; omega)) _)) hB; obtain ⟨hc, hf⟩ := below_cell hB; have zz := hB.size; (try simp at zz); have HB := Lib.hid HBn; clear HBn hB)
  have k0 : w.heap.size < w4.heap.size := by omega
  have m0 : w.heap.size < w4.heap.size + 1 := by omega
  have k1 : w.heap.size + 1 < w4.heap.size := by omega
  have m1 : w.heap.size + 1 < w4.heap.size + 1 := by omega
  have k2 : w.heap.size + 1 + 1 < w4.heap.size := by omega
  have m2 : w.heap.size + 1 + 1 < w4.heap.size + 1 := by omega
  go_wp2_with fail
  refine (H3.out _).mono ?_
  rintro e w5 ⟨rfl, hB⟩
  (have HBn : Below w.heap.size w w5 := below_lift (by (first | exact HB.out | exact HB.out.drew | exact HB.out.alloc HB.out.size _ | exact (HB.out.alloc HB.out.size _).drew | exact (HB.out.alloc HB.out.size _).alloc (Nat.le_trans HB.out.size (by simp)) _ | exact ((HB.out.alloc HB.out.size _).alloc (Nat.le_trans HB.out.size (by simp)) _).alloc (Nat.le_trans HB.out.size (by simp; omega)) _)) hB; obtain ⟨hc, hf⟩ := below_cell hB; have zz := hB.size; (try simp at zz); have HB := Lib.hid HBn; clear HBn hB)
  have k0 : w.heap.size < w5.heap.size := by omega
  have m0 : w.heap.size < w5.heap.size + 1 := by omega
  have k1 : w.heap.size + 1 < w5.heap.size := by omega
  have m1 : w.heap.size + 1 < w5.heap.size + 1 := by omega
  have k2 : w.heap.size + 1 + 1 < w5.heap.size := by omega
  have m2 : w.heap.size + 1 + 1 < w5.heap.size + 1 := by omega
  go_wp2_with fail
  go_ret
  exact ⟨rfl, by (first | exact HB.out | exact HB.out.drew | exact HB.out.alloc HB.out.size _ | exact (HB.out.alloc HB.out.size _).drew | exact (HB.out.alloc HB.out.size _).alloc (Nat.le_trans HB.out.size (by simp)) _ | exact ((HB.out.alloc HB.out.size _).alloc (Nat.le_trans HB.out.size (by simp)) _).alloc (Nat.le_trans HB.out.size (by simp; omega)) _)⟩

set_option maxHeartbeats 4000000 in
theorem total_n_f_t (a b c : Lab) (w : World) (hh : Handle w) (h0 : CmpIs a b (-1)) (h1 : CmpIs b c (-1)) (h2 : CmpIs b a (1)) (h3 : CmpIs a c (-1)) (h4 : UnderIs a b true) (h5 : ∀ W, (binOp .eql 24 (.agg #[.int .i64 a.lv, .int .u64 (u a.c), .int .i64 a.ig]) (.agg #[.int .i64 b.lv, .int .u64 (u b.c), .int .i64 b.ig])).run Tryd.prog W = .ok (.bool false) W) (h6 : (a.lv == b.lv) = false) :
    Calls Tryd.prog 9 #[.agg #[.int .i64 a.lv, .int .u64 (u a.c), .int .i64 a.ig], .agg #[.int .i64 b.lv, .int .u64 (u b.c), .int .i64 b.ig], .agg #[.int .i64 c.lv, .int .u64 (u c.c), .int .i64 c.ig]] w (Yes w) := by
  have H0 := Lib.hid h0
  clear h0
  have H1 := Lib.hid h1
  clear h1
  have H2 := Lib.hid h2
  clear h2
  have H3 := Lib.hid h3
  clear h3
  have H4 := Lib.hid h4
  clear h4
  have HH := Lib.hid hh
  clear hh
  have HB := Lib.hid (Below.refl w.heap.size w)
  go_enter Tryd.func9, Tryd.ntmps9
  go_wp2_with fail
  refine (shown_any _ (HH.out.up (by (first | exact HB.out | exact HB.out.drew | exact HB.out.alloc HB.out.size _ | exact (HB.out.alloc HB.out.size _).drew | exact (HB.out.alloc HB.out.size _).alloc (Nat.le_trans HB.out.size (by simp)) _ | exact ((HB.out.alloc HB.out.size _).alloc (Nat.le_trans HB.out.size (by simp)) _).alloc (Nat.le_trans HB.out.size (by simp; omega)) _)))).mono ?_
  rintro e w1 ⟨rfl, hB⟩
  (have HBn : Below w.heap.size w w1 := below_lift (by (first | exact HB.out | exact HB.out.drew | exact HB.out.alloc HB.out.size _ | exact (HB.out.alloc HB.out.size _).drew | exact (HB.out.alloc HB.out.size _).alloc (Nat.le_trans HB.out.size (by simp)) _ | exact ((HB.out.alloc HB.out.size _).alloc (Nat.le_trans HB.out.size (by simp)) _).alloc (Nat.le_trans HB.out.size (by simp; omega)) _)) hB; obtain ⟨hc, hf⟩ := below_cell hB; have zz := hB.size; (try simp at zz); have HB := Lib.hid HBn; clear HBn hB)
  have k0 : w.heap.size < w1.heap.size := by omega
  have m0 : w.heap.size < w1.heap.size + 1 := by omega
  have k1 : w.heap.size + 1 < w1.heap.size := by omega
  have m1 : w.heap.size + 1 < w1.heap.size + 1 := by omega
  have k2 : w.heap.size + 1 + 1 < w1.heap.size := by omega
  have m2 : w.heap.size + 1 + 1 < w1.heap.size + 1 := by omega
  go_wp2_with fail
  refine (H0.out _).mono ?_
  rintro e w2 ⟨rfl, hB⟩
  (have HBn : Below w.heap.size w w2 := below_lift (by (first | exact HB.out | exact HB.out.drew | exact HB.out.alloc HB.out.size _ | exact (HB.out.alloc HB.out.size _).drew | exact (HB.out.alloc HB.out.size _).alloc (Nat.le_trans HB.out.size (by simp)) _ | exact ((HB.out.alloc HB.out.size _).alloc (Nat.le_trans HB.out.size (by simp)) _).alloc (Nat.le_trans HB.out.size (by simp; omega)) _)) hB; obtain ⟨hc, hf⟩ := below_cell hB; have zz := hB.size; (try simp at zz); have HB := Lib.hid HBn; clear HBn hB)
  have k0 : w.heap.size < w2.heap.size := by omega
  have m0 : w.heap.size < w2.heap.size + 1 := by omega
  have k1 : w.heap.size + 1 < w2.heap.size := by omega
  have m1 : w.heap.size + 1 < w2.heap.size + 1 := by omega
  have k2 : w.heap.size + 1 + 1 < w2.heap.size := by omega
  have m2 : w.heap.size + 1 + 1 < w2.heap.size + 1 := by omega
  go_wp2_with fail
  refine (H1.out _).mono ?_
  rintro e w3 ⟨rfl, hB⟩
  (have HBn : Below w.heap.size w w3 := below_lift (by (first | exact HB.out | exact HB.out.drew | exact HB.out.alloc HB.out.size _ | exact (HB.out.alloc HB.out.size _).drew | exact (HB.out.alloc HB.out.size _).alloc (Nat.le_trans HB.out.size (by simp)) _ | exact ((HB.out.alloc HB.out.size _).alloc (Nat.le_trans HB.out.size (by simp)) _).alloc (Nat.le_trans HB.out.size (by simp; omega)) _)) hB; obtain ⟨hc, hf⟩ := below_cell hB; have zz := hB.size; (try simp at zz); have HB := Lib.hid HBn; clear HBn hB)
  have k0 : w.heap.size < w3.heap.size := by omega
  have m0 : w.heap.size < w3.heap.size + 1 := by omega
  have k1 : w.heap.size + 1 < w3.heap.size := by omega
  have m1 : w.heap.size + 1 < w3.heap.size + 1 := by omega
  have k2 : w.heap.size + 1 + 1 < w3.heap.size := by omega
  have m2 : w.heap.size + 1 + 1 < w3.heap.size + 1 := by omega
  go_wp2_with fail
  refine (H2.out _).mono ?_
  rintro e w4 ⟨rfl, hB⟩
  (have HBn : Below w.heap.size w w4 := below_lift (by (first | exact HB.out | exact HB.out.drew | exact HB.out.alloc HB.out.size _ | exact (HB.out.alloc HB.out.size _).drew | exact (HB.out.alloc HB.out.size _).alloc (Nat.le_trans HB.out.size (by simp)) _ | exact ((HB.out.alloc HB.out.size _).alloc (Nat.le_trans HB.out.size (by simp)) _).alloc (Nat.le_trans HB.out.size (by simp; omega)) _)) hB; obtain ⟨hc, hf⟩ := below_cell hB; have zz := hB.size; (try simp at zz); have HB := Lib.hid HBn; clear HBn hB)
  have k0 : w.heap.size < w4.heap.size := by omega
  have m0 : w.heap.size < w4.heap.size + 1 := by omega
  have k1 : w.heap.size + 1 < w4.heap.size := by omega
  have m1 : w.heap.size + 1 < w4.heap.size + 1 := by omega
  have k2 : w.heap.size + 1 + 1 < w4.heap.size := by omega
  have m2 : w.heap.size + 1 + 1 < w4.heap.size + 1 := by omega
  go_wp2_with fail
  refine (H3.out _).mono ?_
  rintro e w5 ⟨rfl, hB⟩
  (have HBn : Below w.heap.size w w5 := below_lift (by (first | exact HB.out | exact HB.out.drew | exact HB.out.alloc HB.out.size _ | exact (HB.out.alloc HB.out.size _).drew | exact (HB.out.alloc HB.out.size _).alloc (Nat.le_trans HB.out.size (by simp)) _ | exact ((HB.out.alloc HB.out.size _).alloc (Nat.le_trans HB.out.size (by simp)) _).alloc (Nat.le_trans HB.out.size (by simp; omega)) _)) hB; obtain ⟨hc, hf⟩ := below_cell hB; have zz := hB.size; (try simp at zz); have HB := Lib.hid HBn; clear HBn hB)
  have k0 : w.heap.size < w5.heap.size := by omega
  have m0 : w.heap.size < w5.heap.size + 1 := by omega
  have k1 : w.heap.size + 1 < w5.heap.size := by omega
  have m1 : w.heap.size + 1 < w5.heap.size + 1 := by omega
  have k2 : w.heap.size + 1 + 1 < w5.heap.size := by omega
  have m2 : w.heap.size + 1 + 1 < w5.heap.size + 1 := by omega
  go_wp2_with fail
  refine (H4.out _).mono ?_
  rintro e w6 ⟨rfl, hB⟩
  (have HBn : Below w.heap.size w w6 := below_lift (by (first | exact HB.out | exact HB.out.drew | exact HB.out.alloc HB.out.size _ | exact (HB.out.alloc HB.out.size _).drew | exact (HB.out.alloc HB.out.size _).alloc (Nat.le_trans HB.out.size (by simp)) _ | exact ((HB.out.alloc HB.out.size _).alloc (Nat.le_trans HB.out.size (by simp)) _).alloc (Nat.le_trans HB.out.size (by simp; omega)) _)) hB; obtain ⟨hc, hf⟩ := below_cell hB; have zz := hB.size; (try simp at zz); have HB := Lib.hid HBn; clear HBn hB)
  have k0 : w.heap.size < w6.heap.size := by omega
  have m0 : w.heap.size < w6.heap.size + 1 := by omega
  have k1 : w.heap.size + 1 < w6.heap.size := by omega
  have m1 : w.heap.size + 1 < w6.heap.size + 1 := by omega
  have k2 : w.heap.size + 1 + 1 < w6.heap.size := by omega
  have m2 : w.heap.size + 1 + 1 < w6.heap.size + 1 := by omega
  go_wp2_with fail
  go_ret
  exact ⟨rfl, by (first | exact HB.out | exact HB.out.drew | exact HB.out.alloc HB.out.size _ | exact (HB.out.alloc HB.out.size _).drew | exact (HB.out.alloc HB.out.size _).alloc (Nat.le_trans HB.out.size (by simp)) _ | exact ((HB.out.alloc HB.out.size _).alloc (Nat.le_trans HB.out.size (by simp)) _).alloc (Nat.le_trans HB.out.size (by simp; omega)) _)⟩

set_option maxHeartbeats 4000000 in
theorem total_y_f_t (a b c : Lab) (y : Int) (w : World) (hh : Handle w) (h0 : CmpIs a b (-1)) (h1 : CmpIs b c y) (h2 : CmpIs b a (1)) (h3 : UnderIs a b true) (h4 : (0 : Int) ≤ y) (h5 : ∀ W, (binOp .eql 24 (.agg #[.int .i64 a.lv, .int .u64 (u a.c), .int .i64 a.ig]) (.agg #[.int .i64 b.lv, .int .u64 (u b.c), .int .i64 b.ig])).run Tryd.prog W = .ok (.bool false) W) (h6 : (a.lv == b.lv) = false) :
    Calls Tryd.prog 9 #[.agg #[.int .i64 a.lv, .int .u64 (u a.c), .int .i64 a.ig], .agg #[.int .i64 b.lv, .int .u64 (u b.c), .int .i64 b.ig], .agg #[.int .i64 c.lv, .int .u64 (u c.c), .int .i64 c.ig]] w (Yes w) := by
  have H0 := Lib.hid h0
  clear h0
  have H1 := Lib.hid h1
  clear h1
  have H2 := Lib.hid h2
  clear h2
  have H3 := Lib.hid h3
  clear h3
  have HH := Lib.hid hh
  clear hh
  have HB := Lib.hid (Below.refl w.heap.size w)
  go_enter Tryd.func9, Tryd.ntmps9
  go_wp2_with fail
  refine (shown_any _ (HH.out.up (by (first | exact HB.out | exact HB.out.drew | exact HB.out.alloc HB.out.size _ | exact (HB.out.alloc HB.out.size _).drew | exact (HB.out.alloc HB.out.size _).alloc (Nat.le_trans HB.out.size (by simp)) _ | exact ((HB.out.alloc HB.out.size _).alloc (Nat.le_trans HB.out.size (by simp)) _).alloc (Nat.le_trans HB.out.size (by simp; omega)) _)))).mono ?_
  rintro e w1 ⟨rfl, hB⟩
  (have HBn : Below w.heap.size w w1 := below_lift (by (first | exact HB.out | exact HB.out.drew | exact HB.out.alloc HB.out.size _ | exact (HB.out.alloc HB.out.size _).drew | exact (HB.out.alloc HB.out.size _).alloc (Nat.le_trans HB.out.size (by simp)) _ | exact ((HB.out.alloc HB.out.size _).alloc (Nat.le_trans HB.out.size (by simp)) _).alloc (Nat.le_trans HB.out.size (by simp; omega)) _)) hB; obtain ⟨hc, hf⟩ := below_cell hB; have zz := hB.size; (try simp at zz); have HB := Lib.hid HBn; clear HBn hB)
  have k0 : w.heap.size < w1.heap.size := by omega
  have m0 : w.heap.size < w1.heap.size + 1 := by omega
  have k1 : w.heap.size + 1 < w1.heap.size := by omega
  have m1 : w.heap.size + 1 < w1.heap.size + 1 := by omega
  have k2 : w.heap.size + 1 + 1 < w1.heap.size := by omega
  have m2 : w.heap.size + 1 + 1 < w1.heap.size + 1 := by omega
  go_wp2_with fail
  refine (H0.out _).mono ?_
  rintro e w2 ⟨rfl, hB⟩
  (have HBn : Below w.heap.size w w2 := below_lift (by (first | exact HB.out | exact HB.out.drew | exact HB.out.alloc HB.out.size _ | exact (HB.out.alloc HB.out.size _).drew | exact (HB.out.alloc HB.out.size _).alloc (Nat.le_trans HB.out.size (by simp)) _ | exact ((HB.out.alloc HB.out.size _).alloc (Nat.le_trans HB.out.size (by simp)) _).alloc (Nat.le_trans HB.out.size (by simp; omega)) _)) hB; obtain ⟨hc, hf⟩ := below_cell hB; have zz := hB.size; (try simp at zz); have HB := Lib.hid HBn; clear HBn hB)
  have k0 : w.heap.size < w2.heap.size := by omega
  have m0 : w.heap.size < w2.heap.size + 1 := by omega
  have k1 : w.heap.size + 1 < w2.heap.size := by omega
  have m1 : w.heap.size + 1 < w2.heap.size + 1 := by omega
  have k2 : w.heap.size + 1 + 1 < w2.heap.size := by omega
  have m2 : w.heap.size + 1 + 1 < w2.heap.size + 1 := by omega
  go_wp2_with fail
  refine (H1.out _).mono ?_
  rintro e w3 ⟨rfl, hB⟩
  (have HBn : Below w.heap.size w w3 := below_lift (by (first | exact HB.out | exact HB.out.drew | exact HB.out.alloc HB.out.size _ | exact (HB.out.alloc HB.out.size _).drew | exact (HB.out.alloc HB.out.size _).alloc (Nat.le_trans HB.out.size (by simp)) _ | exact ((HB.out.alloc HB.out.size _).alloc (Nat.le_trans HB.out.size (by simp)) _).alloc (Nat.le_trans HB.out.size (by simp; omega)) _)) hB; obtain ⟨hc, hf⟩ := below_cell hB; have zz := hB.size; (try simp at zz); have HB := Lib.hid HBn; clear HBn hB)
  have k0 : w.heap.size < w3.heap.size := by omega
  have m0 : w.heap.size < w3.heap.size + 1 := by omega
  have k1 : w.heap.size + 1 < w3.heap.size := by omega
  have m1 : w.heap.size + 1 < w3.heap.size + 1 := by omega
  have k2 : w.heap.size + 1 + 1 < w3.heap.size := by omega
  have m2 : w.heap.size + 1 + 1 < w3.heap.size + 1 := by omega
  go_wp2_with fail
  refine (H2.out _).mono ?_
  rintro e w4 ⟨rfl, hB⟩
  (have HBn : Below w.heap.size w w4 := below_lift (by (first | exact HB.out | exact HB.out.drew | exact HB.out.alloc HB.out.size _ | exact (HB.out.alloc HB.out.size _).drew | exact (HB.out.alloc HB.out.size _).alloc (Nat.le_trans HB.out.size (by simp)) _ | exact ((HB.out.alloc HB.out.size _).alloc (Nat.le_trans HB.out.size (by simp)) _).alloc (Nat.le_trans HB.out.size (by simp; omega)) _)) hB; obtain ⟨hc, hf⟩ := below_cell hB; have zz := hB.size; (try simp at zz); have HB := Lib.hid HBn; clear HBn hB)
  have k0 : w.heap.size < w4.heap.size := by omega
  have m0 : w.heap.size < w4.heap.size + 1 := by omega
  have k1 : w.heap.size + 1 < w4.heap.size := by omega
  have m1 : w.heap.size + 1 < w4.heap.size + 1 := by omega
  have k2 : w.heap.size + 1 + 1 < w4.heap.size := by omega
  have m2 : w.heap.size + 1 + 1 < w4.heap.size + 1 := by omega
  go_wp2_with fail
  refine (H3.out _).mono ?_
  rintro e w5 ⟨rfl, hB⟩
  (have HBn : Below w.heap.size w w5 := below_lift (by (first | exact HB.out | exact HB.out.drew | exact HB.out.alloc HB.out.size _ | exact (HB.out.alloc HB.out.size _).drew | exact (HB.out.alloc HB.out.size _).alloc (Nat.le_trans HB.out.size (by simp)) _ | exact ((HB.out.alloc HB.out.size _).alloc (Nat.le_trans HB.out.size (by simp)) _).alloc (Nat.le_trans HB.out.size (by simp; omega)) _)) hB; obtain ⟨hc, hf⟩ := below_cell hB; have zz := hB.size; (try simp at zz); have HB := Lib.hid HBn; clear HBn hB)
  have k0 : w.heap.size < w5.heap.size := by omega
  have m0 : w.heap.size < w5.heap.size + 1 := by omega
  have k1 : w.heap.size + 1 < w5.heap.size := by omega
  have m1 : w.heap.size + 1 < w5.heap.size + 1 := by omega
  have k2 : w.heap.size + 1 + 1 < w5.heap.size := by omega
  have m2 : w.heap.size + 1 + 1 < w5.heap.size + 1 := by omega
  go_wp2_with fail
  go_ret
  exact ⟨rfl, by (first | exact HB.out | exact HB.out.drew | exact HB.out.alloc HB.out.size _ | exact (HB.out.alloc HB.out.size _).drew | exact (HB.out.alloc HB.out.size _).alloc (Nat.le_trans HB.out.size (by simp)) _ | exact ((HB.out.alloc HB.out.size _).alloc (Nat.le_trans HB.out.size (by simp)) _).alloc (Nat.le_trans HB.out.size (by simp; omega)) _)⟩

set_option maxHeartbeats 4000000 in
theorem total_n_f_f (a b c : Lab) (w : World) (hh : Handle w) (h0 : CmpIs a b (-1)) (h1 : CmpIs b c (-1)) (h2 : CmpIs b a (1)) (h3 : CmpIs a c (-1)) (h4 : UnderIs a b false) (h5 : ∀ W, (binOp .eql 24 (.agg #[.int .i64 a.lv, .int .u64 (u a.c), .int .i64 a.ig]) (.agg #[.int .i64 b.lv, .int .u64 (u b.c), .int .i64 b.ig])).run Tryd.prog W = .ok (.bool false) W) (h6 : (a.lv == b.lv) = false) :
    Calls Tryd.prog 9 #[.agg #[.int .i64 a.lv, .int .u64 (u a.c), .int .i64 a.ig], .agg #[.int .i64 b.lv, .int .u64 (u b.c), .int .i64 b.ig], .agg #[.int .i64 c.lv, .int .u64 (u c.c), .int .i64 c.ig]] w (Yes w) := by
  have H0 := Lib.hid h0
  clear h0
  have H1 := Lib.hid h1
  clear h1
  have H2 := Lib.hid h2
  clear h2
  have H3 := Lib.hid h3
  clear h3
  have H4 := Lib.hid h4
  clear h4
  have HH := Lib.hid hh
  clear hh
  have HB := Lib.hid (Below.refl w.heap.size w)
  go_enter Tryd.func9, Tryd.ntmps9
  go_wp2_with fail
  refine (shown_any _ (HH.out.up (by (first | exact HB.out | exact HB.out.drew | exact HB.out.alloc HB.out.size _ | exact (HB.out.alloc HB.out.size _).drew | exact (HB.out.alloc HB.out.size _).alloc (Nat.le_trans HB.out.size (by simp)) _ | exact ((HB.out.alloc HB.out.size _).alloc (Nat.le_trans HB.out.size (by simp)) _).alloc (Nat.le_trans HB.out.size (by simp; omega)) _)))).mono ?_
  rintro e w1 ⟨rfl, hB⟩
  (have HBn : Below w.heap.size w w1 := below_lift (by (first | exact HB.out | exact HB.out.drew | exact HB.out.alloc HB.out.size _ | exact (HB.out.alloc HB.out.size _).drew | exact (HB.out.alloc HB.out.size _).alloc (Nat.le_trans HB.out.size (by simp)) _ | exact ((HB.out.alloc HB.out.size _).alloc (Nat.le_trans HB.out.size (by simp)) _).alloc (Nat.le_trans HB.out.size (by simp; omega)) _)) hB; obtain ⟨hc, hf⟩ := below_cell hB; have zz := hB.size; (try simp at zz); have HB := Lib.hid HBn; clear HBn hB)
  have k0 : w.heap.size < w1.heap.size := by omega
  have m0 : w.heap.size < w1.heap.size + 1 := by omega
  have k1 : w.heap.size + 1 < w1.heap.size := by omega
  have m1 : w.heap.size + 1 < w1.heap.size + 1 := by omega
  have k2 : w.heap.size + 1 + 1 < w1.heap.size := by omega
  have m2 : w.heap.size + 1 + 1 < w1.heap.size + 1 := by omega
  go_wp2_with fail
  refine (H0.out _).mono ?_
  rintro e w2 ⟨rfl, hB⟩
  (have HBn : Below w.heap.size w w2 := below_lift (by (first | exact HB.out | exact HB.out.drew | exact HB.out.alloc HB.out.size _ | exact (HB.out.alloc HB.out.size _).drew | exact (HB.out.alloc HB.out.size _).alloc (Nat.le_trans HB.out.size (by simp)) _ | exact ((HB.out.alloc HB.out.size _).alloc (Nat.le_trans HB.out.size (by simp)) _).alloc (Nat.le_trans HB.out.size (by simp; omega)) _)) hB; obtain ⟨hc, hf⟩ := below_cell hB; have zz := hB.size; (try simp at zz); have HB := Lib.hid HBn; clear HBn hB)
  have k0 : w.heap.size < w2.heap.size := by omega
  have m0 : w.heap.size < w2.heap.size + 1 := by omega
  have k1 : w.heap.size + 1 < w2.heap.size := by omega
  have m1 : w.heap.size + 1 < w2.heap.size + 1 := by omega
  have k2 : w.heap.size + 1 + 1 < w2.heap.size := by omega
  have m2 : w.heap.size + 1 + 1 < w2.heap.size + 1 := by omega
  go_wp2_with fail
  refine (H1.out _).mono ?_
  rintro e w3 ⟨rfl, hB⟩
  (have HBn : Below w.heap.size w w3 := below_lift (by (first | exact HB.out | exact HB.out.drew | exact HB.out.alloc HB.out.size _ | exact (HB.out.alloc HB.out.size _).drew | exact (HB.out.alloc HB.out.size _).alloc (Nat.le_trans HB.out.size (by simp)) _ | exact ((HB.out.alloc HB.out.size _).alloc (Nat.le_trans HB.out.size (by simp)) _).alloc (Nat.le_trans HB.out.size (by simp; omega)) _)) hB; obtain ⟨hc, hf⟩ := below_cell hB; have zz := hB.size; (try simp at zz); have HB := Lib.hid HBn; clear HBn hB)
  have k0 : w.heap.size < w3.heap.size := by omega
  have m0 : w.heap.size < w3.heap.size + 1 := by omega
  have k1 : w.heap.size + 1 < w3.heap.size := by omega
  have m1 : w.heap.size + 1 < w3.heap.size + 1 := by omega
  have k2 : w.heap.size + 1 + 1 < w3.heap.size := by omega
  have m2 : w.heap.size + 1 + 1 < w3.heap.size + 1 := by omega
  go_wp2_with fail
  refine (H2.out _).mono ?_
  rintro e w4 ⟨rfl, hB⟩
  (have HBn : Below w.heap.size w w4 := below_lift (by (first | exact HB.out | exact HB.out.drew | exact HB.out.alloc HB.out.size _ | exact (HB.out.alloc HB.out.size _).drew | exact (HB.out.alloc HB.out.size _).alloc (Nat.le_trans HB.out.size (by simp)) _ | exact ((HB.out.alloc HB.out.size _).alloc (Nat.le_trans HB.out.size (by simp)) _).alloc (Nat.le_trans HB.out.size (by simp; omega)) _)) hB; obtain ⟨hc, hf⟩ := below_cell hB; have zz := hB.size; (try simp at zz); have HB := Lib.hid HBn; clear HBn hB)
  have k0 : w.heap.size < w4.heap.size := by omega
  have m0 : w.heap.size < w4.heap.size + 1 := by omega
  have k1 : w.heap.size + 1 < w4.heap.size := by omega
  have m1 : w.heap.size + 1 < w4.heap.size + 1 := by omega
  have k2 : w.heap.size + 1 + 1 < w4.heap.size := by omega
  have m2 : w.heap.size + 1 + 1 < w4.heap.size + 1 := by omega
  go_wp2_with fail
  refine (H3.out _).mono ?_
  rintro e w5 ⟨rfl, hB⟩
  (have HBn : Below w.heap.size w w5 := below_lift (by (first | exact HB.out | exact HB.out.drew | exact HB.out.alloc HB.out.size _ | exact (HB.out.alloc HB.out.size _).drew | exact (HB.out.alloc HB.out.size _).alloc (Nat.le_trans HB.out.size (by simp)) _ | exact ((HB.out.alloc HB.out.size _).alloc (Nat.le_trans HB.out.size (by simp)) _).alloc (Nat.le_trans HB.out.size (by simp; omega)) _)) hB; obtain ⟨hc, hf⟩ := below_cell hB; have zz := hB.size; (try simp at zz); have HB := Lib.hid HBn; clear HBn hB)
  have k0 : w.heap.size < w5.heap.size := by omega
  have m0 : w.heap.size < w5.heap.size + 1 := by omega
  have k1 : w.heap.size + 1 < w5.heap.size := by omega
  have m1 : w.heap.size + 1 < w5.heap.size + 1 := by omega
  have k2 : w.heap.size + 1 + 1 < w5.heap.size := by omega
  have m2 : w.heap.size + 1 + 1 < w5.heap.size + 1 := by omega
  go_wp2_with fail
  refine (H4.out _).mono ?_
  rintro e w6 ⟨rfl, hB⟩
  (have HBn : Below w.heap.size w w6 := below_lift (by (first | exact HB.out | exact HB.out.drew | exact HB.out.alloc HB.out.size _ | exact (HB.out.alloc HB.out.size _).drew | exact (HB.out.alloc HB.out.size _).alloc (Nat.le_trans HB.out.size (by simp)) _ | exact ((HB.out.alloc HB.out.size _).alloc (Nat.le_trans HB.out.size (by simp)) _).alloc (Nat.le_trans HB.out.size (by simp; omega)) _)) hB; obtain ⟨hc, hf⟩ := below_cell hB; have zz := hB.size; (try simp at zz); have HB := Lib.hid HBn; clear HBn hB)
  have k0 : w.heap.size < w6.heap.size := by omega
  have m0 : w.heap.size < w6.heap.size + 1 := by omega
  have k1 : w.heap.size + 1 < w6.heap.size := by omega
  have m1 : w.heap.size + 1 < w6.heap.size + 1 := by omega
  have k2 : w.heap.size + 1 + 1 < w6.heap.size := by omega
  have m2 : w.heap.size + 1 + 1 < w6.heap.size + 1 := by omega
  go_wp2_with fail
  go_ret
  exact ⟨rfl, by (first | exact HB.out | exact HB.out.drew | exact HB.out.alloc HB.out.size _ | exact (HB.out.alloc HB.out.size _).drew | exact (HB.out.alloc HB.out.size _).alloc (Nat.le_trans HB.out.size (by simp)) _ | exact ((HB.out.alloc HB.out.size _).alloc (Nat.le_trans HB.out.size (by simp)) _).alloc (Nat.le_trans HB.out.size (by simp; omega)) _)⟩

set_option maxHeartbeats 4000000 in
theorem total_y_f_f (a b c : Lab) (y : Int) (w : World) (hh : Handle w) (h0 : CmpIs a b (-1)) (h1 : CmpIs b c y) (h2 : CmpIs b a (1)) (h3 : UnderIs a b false) (h4 : (0 : Int) ≤ y) (h5 : ∀ W, (binOp .eql 24 (.agg #[.int .i64 a.lv, .int .u64 (u a.c), .int .i64 a.ig]) (.agg #[.int .i64 b.lv, .int .u64 (u b.c), .int .i64 b.ig])).run Tryd.prog W = .ok (.bool false) W) (h6 : (a.lv == b.lv) = false) :
    Calls Tryd.prog 9 #[.agg #[.int .i64 a.lv, .int .u64 (u a.c), .int .i64 a.ig], .agg #[.int .i64 b.lv, .int .u64 (u b.c), .int .i64 b.ig], .agg #[.int .i64 c.lv, .int .u64 (u c.c), .int .i64 c.ig]] w (Yes w) := by
  have H0 := Lib.hid h0
  clear h0
  have H1 := Lib.hid h1
  clear h1
  have H2 := Lib.hid h2
  clear h2
  have H3 := Lib.hid h3
  clear h3
  have HH := Lib.hid hh
  clear hh
  have HB := Lib.hid (Below.refl w.heap.size w)
  go_enter Tryd.func9, Tryd.ntmps9
  go_wp2_with fail
  refine (shown_any _ (HH.out.up (by (first | exact HB.out | exact HB.out.drew | exact HB.out.alloc HB.out.size _ | exact (HB.out.alloc HB.out.size _).drew | exact (HB.out.alloc HB.out.size _).alloc (Nat.le_trans HB.out.size (by simp)) _ | exact ((HB.out.alloc HB.out.size _).alloc (Nat.le_trans HB.out.size (by simp)) _).alloc (Nat.le_trans HB.out.size (by simp; omega)) _)))).mono ?_
  rintro e w1 ⟨rfl, hB⟩
  (have HBn : Below w.heap.size w w1 := below_lift (by (first | exact HB.out | exact HB.out.drew | exact HB.out.alloc HB.out.size _ | exact (HB.out.alloc HB.out.size _).drew | exact (HB.out.alloc HB.out.size _).alloc (Nat.le_trans HB.out.size (by simp)) _ | exact ((HB.out.alloc HB.out.size _).alloc (Nat.le_trans HB.out.size (by simp)) _).alloc (Nat.le_trans HB.out.size (by simp; omega)) _)) hB; obtain ⟨hc, hf⟩ := below_cell hB; have zz := hB.size; (try simp at zz); have HB := Lib.hid HBn; clear HBn hB)
  have k0 : w.heap.size < w1.heap.size := by omega
  have m0 : w.heap.size < w1.heap.size + 1 := by omega
  have k1 : w.heap.size + 1 < w1.heap.size := by omega
  have m1 : w.heap.size + 1 < w1.heap.size + 1 := by omega
  have k2 : w.heap.size + 1 + 1 < w1.heap.size := by omega
  have m2 : w.heap.size + 1 + 1 < w1.heap.size + 1 := by omega
  go_wp2_with fail
  refine (H0.out _).mono ?_
  rintro e w2 ⟨rfl, hB⟩
  (have HBn : Below w.heap.size w w2 := below_lift (by (first | exact HB.out | exact HB.out.drew | exact HB.out.alloc HB.out.size _ | exact (HB.out.alloc HB.out.size _).drew | exact (HB.out.alloc HB.out.size _).alloc (Nat.le_trans HB.out.size (by simp)) _ | exact ((HB.out.alloc HB.out.size _).alloc (Nat.le_trans HB.out.size (by simp)) _).alloc (Nat.le_trans HB.out.size (by simp; omega)) _)) hB; obtain ⟨hc, hf⟩ := below_cell hB; have zz := hB.size; (try simp at zz); have HB := Lib.hid HBn; clear HBn hB)
  have k0 : w.heap.size < w2.heap.size := by omega
  have m0 : w.heap.size < w2.heap.size + 1 := by omega
  have k1 : w.heap.size + 1 < w2.heap.size := by omega
  have m1 : w.heap.size + 1 < w2.heap.size + 1 := by omega
  have k2 : w.heap.size + 1 + 1 < w2.heap.size := by omega
  have m2 : w.heap.size + 1 + 1 < w2.heap.size + 1 := by omega
  go_wp2_with fail
  refine (H1.out _).mono ?_
  rintro e w3 ⟨rfl, hB⟩
  (have HBn : Below w.heap.size w w3 := below_lift (by (first | exact HB.out | exact HB.out.drew | exact HB.out.alloc HB.out.size _ | exact (HB.out.alloc HB.out.size _).drew | exact (HB.out.alloc HB.out.size _).alloc (Nat.le_trans HB.out.size (by simp)) _ | exact ((HB.out.alloc HB.out.size _).alloc (Nat.le_trans HB.out.size (by simp)) _).alloc (Nat.le_trans HB.out.size (by simp; omega)) _)) hB; obtain ⟨hc, hf⟩ := below_cell hB; have zz := hB.size; (try simp at zz); have HB := Lib.hid HBn; clear HBn hB)
  have k0 : w.heap.size < w3.heap.size := by omega
  have m0 : w.heap.size < w3.heap.size + 1 := by omega
  have k1 : w.heap.size + 1 < w3.heap.size := by omega
  have m1 : w.heap.size + 1 < w3.heap.size + 1 := by omega
  have k2 : w.heap.size + 1 + 1 < w3.heap.size := by omega
  have m2 : w.heap.size + 1 + 1 < w3.heap.size + 1 := by omega
  go_wp2_with fail
  refine (H2.out _).mono ?_
  rintro e w4 ⟨rfl, hB⟩
  (have HBn : Below w.heap.size w w4 := below_lift (by (first | exact HB.out | exact HB.out.drew | exact HB.out.alloc HB.out.size _ | exact (HB.out.alloc HB.out.size _).drew | exact (HB.out.alloc HB.out.size _).alloc (Nat.le_trans HB.out.size (by simp)) _ | exact ((HB.out.alloc HB.out.size _).alloc (Nat.le_trans HB.out.size (by simp)) _).alloc (Nat.le_trans HB.out.size (by simp; omega)) _)) hB; obtain ⟨hc, hf⟩ := below_cell hB; have zz := hB.size; (try simp at zz); have HB := Lib.hid HBn; clear HBn hB)
  have k0 : w.heap.size < w4.heap.size := by omega
  have m0 : w.heap.size < w4.heap.size + 1 := by omega
  have k1 : w.heap.size + 1 < w4.heap.size := by omega
  have m1 : w.heap.size + 1 < w4.heap.size + 1 := by omega
  have k2 : w.heap.size + 1 + 1 < w4.heap.size := by omega
  have m2 : w.heap.size + 1 + 1 < w4.heap.size + 1 := by omega
  go_wp2_with fail
  refine (H3.out _).mono ?_
  rintro e w5 ⟨rfl, hB⟩
  (have HBn : Below w.heap.size w w5 := below_lift (by (first | exact HB.out | exact HB.out.drew | exact HB.out.alloc HB.out.size _ | exact (HB.out.alloc HB.out.size _).drew | exact (HB.out.alloc HB.out.size _).alloc (Nat.le_trans HB.out.size (by simp)) _ | exact ((HB.out.alloc HB.out.size _).alloc (Nat.le_trans HB.out.size (by simp)) _).alloc (Nat.le_trans HB.out.size (by simp; omega)) _)) hB; obtain ⟨hc, hf⟩ := below_cell hB; have zz := hB.size; (try simp at zz); have HB := Lib.hid HBn; clear HBn hB)
  have k0 : w.heap.size < w5.heap.size := by omega
  have m0 : w.heap.size < w5.heap.size + 1 := by omega
  have k1 : w.heap.size + 1 < w5.heap.size := by omega
  have m1 : w.heap.size + 1 < w5.heap.size + 1 := by omega
  have k2 : w.heap.size + 1 + 1 < w5.heap.size := by omega
  have m2 : w.heap.size + 1 + 1 < w5.heap.size + 1 := by omega
  go_wp2_with fail
  go_ret
  exact ⟨rfl, by (first | exact HB.out | exact HB.out.drew | exact HB.out.alloc HB.out.size _ | exact (HB.out.alloc HB.out.size _).drew | exact (HB.out.alloc HB.out.size _).alloc (Nat.le_trans HB.out.size (by simp)) _ | exact ((HB.out.alloc HB.out.size _).alloc (Nat.le_trans HB.out.size (by simp)) _).alloc (Nat.le_trans HB.out.size (by simp; omega)) _)⟩

set_option maxHeartbeats 4000000 in
theorem total_p_f_f (a b c : Lab) (y : Int) (w : World) (hh : Handle w) (h0 : CmpIs a b (1)) (h1 : CmpIs b c y) (h2 : CmpIs b a (-1)) (h3 : UnderIs a b false) (h4 : ∀ W, (binOp .eql 24 (.agg #[.int .i64 a.lv, .int .u64 (u a.c), .int .i64 a.ig]) (.agg #[.int .i64 b.lv, .int .u64 (u b.c), .int .i64 b.ig])).run Tryd.prog W = .ok (.bool false) W) (h5 : (a.lv == b.lv) = false) :
    Calls Tryd.prog 9 #[.agg #[.int .i64 a.lv, .int .u64 (u a.c), .int .i64 a.ig], .agg #[.int .i64 b.lv, .int .u64 (u b.c), .int .i64 b.ig], .agg #[.int .i64 c.lv, .int .u64 (u c.c), .int .i64 c.ig]] w (Yes w) := by
  have H0 := Lib.hid h0
  clear h0
  have H1 := Lib.hid h1
  clear h1
  have H2 := Lib.hid h2
  clear h2
  have H3 := Lib.hid h3
  clear h3
  have HH := Lib.hid hh
  clear hh
  have HB := Lib.hid (Below.refl w.heap.size w)
  go_enter Tryd.func9, Tryd.ntmps9
  go_wp2_with fail
  refine (shown_any _ (HH.out.up (by (first | exact HB.out | exact HB.out.drew | exact HB.out.alloc HB.out.size _ | exact (HB.out.alloc HB.out.size _).drew | exact (HB.out.alloc HB.out.size _).alloc (Nat.le_trans HB.out.size (by simp)) _ | exact ((HB.out.alloc HB.out.size _).alloc (Nat.le_trans HB.out.size (by simp)) _).alloc (Nat.le_trans HB.out.size (by simp; omega)) _)))).mono ?_
  rintro e w1 ⟨rfl, hB⟩
  (have HBn : Below w.heap.size w w1 := below_lift (by (first | exact HB.out | exact HB.out.drew | exact HB.out.alloc HB.out.size _ | exact (HB.out.alloc HB.out.size _).drew | exact (HB.out.alloc HB.out.size _).alloc (Nat.le_trans HB.out.size (by simp)) _ | exact ((HB.out.alloc HB.out.size _).alloc (Nat.le_trans HB.out.size (by simp)) _).alloc (Nat.le_trans HB.out.size (by simp; omega)) _)) hB; obtain ⟨hc, hf⟩ := below_cell hB; have zz := hB.size; (try simp at zz); have HB := Lib.hid HBn; clear HBn hB)
  have k0 : w.heap.size < w1.heap.size := by omega
  have m0 : w.heap.size < w1.heap.size + 1 := by omega
  have k1 : w.heap.size + 1 < w1.heap.size := by omega
  have m1 : w.heap.size + 1 < w1.heap.size + 1 := by omega
  have k2 : w.heap.size + 1 + 1 < w1.heap.size := by omega
  have m2 : w.heap.size + 1 + 1 < w1.heap.size + 1 := by omega
  go_wp2_with fail
  refine (H0.out _).mono ?_
  rintro e w2 ⟨rfl, hB⟩
  (have HBn : Below w.heap.size w w2 := below_lift (by (first | exact HB.out | exact HB.out.drew | exact HB.out.alloc HB.out.size _ | exact (HB.out.alloc HB.out.size _).drew | exact (HB.out.alloc HB.out.size _).alloc (Nat.le_trans HB.out.size (by simp)) _ | exact ((HB.out.alloc HB.out.size _).alloc (Nat.le_trans HB.out.size (by simp)) _).alloc (Nat.le_trans HB.out.size (by simp; omega)) _)) hB; obtain ⟨hc, hf⟩ := below_cell hB; have zz := hB.size; (try simp at zz); have HB := Lib.hid HBn; clear HBn hB)
  have k0 : w.heap.size < w2.heap.size := by omega
  have m0 : w.heap.size < w2.heap.size + 1 := by omega
  have k1 : w.heap.size + 1 < w2.heap.size := by omega
  have m1 : w.heap.size + 1 < w2.heap.size + 1 := by omega
  have k2 : w.heap.size + 1 + 1 < w2.heap.size := by omega
  have m2 : w.heap.size + 1 + 1 < w2.heap.size + 1 := by omega
  go_wp2_with fail
  refine (H1.out _).mono ?_
  rintro e w3 ⟨rfl, hB⟩
  (have HBn : Below w.heap.size w w3 := below_lift (by (first | exact HB.out | exact HB.out.drew | exact HB.out.alloc HB.out.size _ | exact (HB.out.alloc HB.out.size _).drew | exact (HB.out.alloc HB.out.size _).alloc (Nat.le_trans HB.out.size (by simp)) _ | exact ((HB.out.alloc HB.out.size _).alloc (Nat.le_trans HB.out.size (by simp)) _).alloc (Nat.le_trans HB.out.size (by simp; omega)) _)) hB; obtain ⟨hc, hf⟩ := below_cell hB; have zz := hB.size; (try simp at zz); have HB := Lib.hid HBn; clear HBn hB)
  have k0 : w.heap.size < w3.heap.size := by omega
  have m0 : w.heap.size < w3.heap.size + 1 := by omega
  have k1 : w.heap.size + 1 < w3.heap.size := by omega
  have m1 : w.heap.size + 1 < w3.heap.size + 1 := by omega
  have k2 : w.heap.size + 1 + 1 < w3.heap.size := by omega
  have m2 : w.heap.size + 1 + 1 < w3.heap.size + 1 := by omega
  go_wp2_with fail
  refine (H2.out _).mono ?_
  rintro e w4 ⟨rfl, hB⟩
  (have HBn : Below w.heap.size w w4 := below_lift (by (first | exact HB.out | exact HB.out.drew | exact HB.out.alloc HB.out.size _ | exact (HB.out.alloc HB.out.size _).drew | exact (HB.out.alloc HB.out.size _).alloc (Nat.le_trans HB.out.size (by simp)) _ | exact ((HB.out.alloc HB.out.size _).alloc (Nat.le_trans HB.out.size (by simp)) _).alloc (Nat.le_trans HB.out.size (by simp; omega)) _)) hB; obtain ⟨hc, hf⟩ := below_cell hB; have zz := hB.size; (try simp at zz); have HB := Lib.hid HBn; clear HBn hB)
  have k0 : w.heap.size < w4.heap.size := by omega
  have m0 : w.heap.size < w4.heap.size + 1 := by omega
  have k1 : w.heap.size + 1 < w4.heap.size := by omega
  have m1 : w.heap.size + 1 < w4.heap.size + 1 := by omega
  have k2 : w.heap.size + 1 + 1 < w4.heap.size := by omega
  have m2 : w.heap.size + 1 + 1 < w4.heap.size + 1 := by omega
  go_wp2_with fail
  refine (H3.out _).mono ?_
  rintro e w5 ⟨rfl, hB⟩
  (have HBn : Below w.heap.size w w5 := below_lift (by (first | exact HB.out | exact HB.out.drew | exact HB.out.alloc HB.out.size _ | exact (HB.out.alloc HB.out.size _).drew | exact (HB.out.alloc HB.out.size _).alloc (Nat.le_trans HB.out.size (by simp)) _ | exact ((HB.out.alloc HB.out.size _).alloc (Nat.le_trans HB.out.size (by simp)) _).alloc (Nat.le_trans HB.out.size (by simp; omega)) _)) hB; obtain ⟨hc, hf⟩ := below_cell hB; have zz := hB.size; (try simp at zz); have HB := Lib.hid HBn; clear HBn hB)
  have k0 : w.heap.size < w5.heap.size := by omega
  have m0 : w.heap.size < w5.heap.size + 1 := by omega
  have k1 : w.heap.size + 1 < w5.heap.size := by omega
  have m1 : w.heap.size + 1 < w5.heap.size + 1 := by omega
  have k2 : w.heap.size + 1 + 1 < w5.heap.size := by omega
  have m2 : w.heap.size + 1 + 1 < w5.heap.size + 1 := by omega
  go_wp2_with fail
  go_ret
  exact ⟨rfl, by (first | exact HB.out | exact HB.out.drew | exact HB.out.alloc HB.out.size _ | exact (HB.out.alloc HB.out.size _).drew | exact (HB.out.alloc HB.out.size _).alloc (Nat.le_trans HB.out.size (by simp)) _ | exact ((HB.out.alloc HB.out.size _).alloc (Nat.le_trans HB.out.size (by simp)) _).alloc (Nat.le_trans HB.out.size (by simp; omega)) _)⟩

set_option maxHeartbeats 4000000 in
theorem total_p_t_t (a b c : Lab) (y : Int) (w : World) (hh : Handle w) (h0 : CmpIs a b (1)) (h1 : CmpIs b c y) (h2 : CmpIs b a (-1)) (h3 : UnderIs a b true) (h4 : ∀ W, (binOp .eql 24 (.agg #[.int .i64 a.lv, .int .u64 (u a.c), .int .i64 a.ig]) (.agg #[.int .i64 b.lv, .int .u64 (u b.c), .int .i64 b.ig])).run Tryd.prog W = .ok (.bool false) W) (h5 : (a.lv == b.lv) = true) (h6 : (u a.c == u b.c) = true) :
    Calls Tryd.prog 9 #[.agg #[.int .i64 a.lv, .int .u64 (u a.c), .int .i64 a.ig], .agg #[.int .i64 b.lv, .int .u64 (u b.c), .int .i64 b.ig], .agg #[.int .i64 c.lv, .int .u64 (u c.c), .int .i64 c.ig]] w (Yes w) := by
  have H0 := Lib.hid h0
  clear h0
  have H1 := Lib.hid h1
  clear h1
  have H2 := Lib.hid h2
  clear h2
  have H3 := Lib.hid h3
  clear h3
  have HH := Lib.hid hh
  clear hh
  have HB := Lib.hid (Below.refl w.heap.size w)
  go_enter Tryd.func9, Tryd.ntmps9
  go_wp2_with fail
  refine (shown_any _ (HH.out.up (by (first | exact HB.out | exact HB.out.drew | exact HB.out.alloc HB.out.size _ | exact (HB.out.alloc HB.out.size _).drew | exact (HB.out.alloc HB.out.size _).alloc (Nat.le_trans HB.out.size (by simp)) _ | exact ((HB.out.alloc HB.out.size _).alloc (Nat.le_trans HB.out.size (by simp)) _).alloc (Nat.le_trans HB.out.size (by simp; omega)) _)))).mono ?_
  rintro e w1 ⟨rfl, hB⟩
  (have HBn : Below w.heap.size w w1 := below_lift (by (first | exact HB.out | exact HB.out.drew | exact HB.out.alloc HB.out.size _ | exact (HB.out.alloc HB.out.size _).drew | exact (HB.out.alloc HB.out.size _).alloc (Nat.le_trans HB.out.size (by simp)) _ | exact ((HB.out.alloc HB.out.size _).alloc (Nat.le_trans HB.out.size (by simp)) _).alloc (Nat.le_trans HB.out.size (by simp; omega)) _)) hB; obtain ⟨hc, hf⟩ := below_cell hB; have zz := hB.size; (try simp at zz); have HB := Lib.hid HBn; clear HBn hB)
  have k0 : w.heap.size < w1.heap.size := by omega
  have m0 : w.heap.size < w1.heap.size + 1 := by omega
  have k1 : w.heap.size + 1 < w1.heap.size := by omega
  have m1 : w.heap.size + 1 < w1.heap.size + 1 := by omega
  have k2 : w.heap.size + 1 + 1 < w1.heap.size := by omega
  have m2 : w.heap.size + 1 + 1 < w1.heap.size + 1 := by omega
  go_wp2_with fail
  refine (H0.out _).mono ?_
  rintro e w2 ⟨rfl, hB⟩
  (have HBn : Below w.heap.size w w2 := below_lift (by (first | exact HB.out | exact HB.out.drew | exact HB.out.alloc HB.out.size _ | exact (HB.out.alloc HB.out.size _).drew | exact (HB.out.alloc HB.out.size _).alloc (Nat.le_trans HB.out.size (by simp)) _ | exact ((HB.out.alloc HB.out.size _).alloc (Nat.le_trans HB.out.size (by simp)) _).alloc (Nat.le_trans HB.out.size (by simp; omega)) _)) hB; obtain ⟨hc, hf⟩ := below_cell hB; have zz := hB.size; (try simp at zz); have HB := Lib.hid HBn; clear HBn hB)
  have k0 : w.heap.size < w2.heap.size := by omega
  have m0 : w.heap.size < w2.heap.size + 1 := by omega
  have k1 : w.heap.size + 1 < w2.heap.size := by omega
  have m1 : w.heap.size + 1 < w2.heap.size + 1 := by omega
  have k2 : w.heap.size + 1 + 1 < w2.heap.size := by omega
  have m2 : w.heap.size + 1 + 1 < w2.heap.size + 1 := by omega
  go_wp2_with fail
  refine (H1.out _).mono ?_
  rintro e w3 ⟨rfl, hB⟩
  (have HBn : Below w.heap.size w w3 := below_lift (by (first | exact HB.out | exact HB.out.drew | exact HB.out.alloc HB.out.size _ | exact (HB.out.alloc HB.out.size _).drew | exact (HB.out.alloc HB.out.size _).alloc (Nat.le_trans HB.out.size (by simp)) _ | exact ((HB.out.alloc HB.out.size _).alloc (Nat.le_trans HB.out.size (by simp)) _).alloc (Nat.le_trans HB.out.size (by simp; omega)) _)) hB; obtain ⟨hc, hf⟩ := below_cell hB; have zz := hB.size; (try simp at zz); have HB := Lib.hid HBn; clear HBn hB)
  have k0 : w.heap.size < w3.heap.size := by omega
  have m0 : w.heap.size < w3.heap.size + 1 := by omega
  have k1 : w.heap.size + 1 < w3.heap.size := by omega
  have m1 : w.heap.size + 1 < w3.heap.size + 1 := by omega
  have k2 : w.heap.size + 1 + 1 < w3.heap.size := by omega
  have m2 : w.heap.size + 1 + 1 < w3.heap.size + 1 := by omega
  go_wp2_with fail
  refine (H2.out _).mono ?_
  rintro e w4 ⟨rfl, hB⟩
  (have HBn : Below w.heap.size w w4 := below_lift (by (first | exact HB.out | exact HB.out.drew | exact HB.out.alloc HB.out.size _ | exact (HB.out.alloc HB.out.size _).drew | exact (HB.out.alloc HB.out.size _).alloc (Nat.le_trans HB.out.size (by simp)) _ | exact ((HB.out.alloc HB.out.size _).alloc (Nat.le_trans HB.out.size (by simp)) _).alloc (Nat.le_trans HB.out.size (by simp; omega)) _)) hB; obtain ⟨hc, hf⟩ := below_cell hB; have zz := hB.size; (try simp at zz); have HB := Lib.hid HBn; clear HBn hB)
  have k0 : w.heap.size < w4.heap.size := by omega
  have m0 : w.heap.size < w4.heap.size + 1 := by omega
  have k1 : w.heap.size + 1 < w4.heap.size := by omega
  have m1 : w.heap.size + 1 < w4.heap.size + 1 := by omega
  have k2 : w.heap.size + 1 + 1 < w4.heap.size := by omega
  have m2 : w.heap.size + 1 + 1 < w4.heap.size + 1 := by omega
  go_wp2_with fail
  refine (H3.out _).mono ?_
  rintro e w5 ⟨rfl, hB⟩
  (have HBn : Below w.heap.size w w5 := below_lift (by (first | exact HB.out | exact HB.out.drew | exact HB.out.alloc HB.out.size _ | exact (HB.out.alloc HB.out.size _).drew | exact (HB.out.alloc HB.out.size _).alloc (Nat.le_trans HB.out.size (by simp)) _ | exact ((HB.out.alloc HB.out.size _).alloc (Nat.le_trans HB.out.size (by simp)) _).alloc (Nat.le_trans HB.out.size (by simp; omega)) _)) hB; obtain ⟨hc, hf⟩ := below_cell hB; have zz := hB.size; (try simp at zz); have HB := Lib.hid HBn; clear HBn hB)
  have k0 : w.heap.size < w5.heap.size := by omega
  have m0 : w.heap.size < w5.heap.size + 1 := by omega
  have k1 : w.heap.size + 1 < w5.heap.size := by omega
  have m1 : w.heap.size + 1 < w5.heap.size + 1 := by omega
  have k2 : w.heap.size + 1 + 1 < w5.heap.size := by omega
  have m2 : w.heap.size + 1 + 1 < w5.heap.size + 1 := by omega
  go_wp2_with fail
  go_ret
  exact ⟨rfl, by (first | exact HB.out | exact HB.out.drew | exact HB.out.alloc HB.out.size _ | exact (HB.out.alloc HB.out.size _).drew | exact (HB.out.alloc HB.out.size _).alloc (Nat.le_trans HB.out.size (by simp)) _ | exact ((HB.out.alloc HB.out.size _).alloc (Nat.le_trans HB.out.size (by simp)) _).alloc (Nat.le_trans HB.out.size (by simp; omega)) _)⟩

theorem neq_cmp {a b : Lab} (h : cmpL a b ≠ 0) : eqL a b = false := nbool fun k => h (by rw [eqL_iff.1 k, cmpL_zero]; exact ⟨rfl, rfl, rfl⟩)
theorem eq_cmp {a b : Lab} (h : cmpL a b = 0) : a = b := by rw [cmpL_zero] at h; exact Lab.ext' h.1 (u_inj h.2.1) h.2.2
theorem total_walk (a b c : Lab) (w : World) (hh : Handle w) : Calls Tryd.prog 9 #[.agg #[.int .i64 a.lv, .int .u64 (u a.c), .int .i64 a.ig], .agg #[.int .i64 b.lv, .int .u64 (u b.c), .int .i64 b.ig], .agg #[.int .i64 c.lv, .int .u64 (u c.c), .int .i64 c.ig]] w (Yes w) := by
  rcases cmpL_three a b with hx | hx | hx
  · have hba : cmpL b a = 1 := by rw [cmpL_neg] at hx; rw [cmpL_pos]; omega
    have hE := eqlIs (neq_cmp (a := a) (b := b) (by omega))
    by_cases hy : cmpL b c = -1
    · have hac : cmpL a c = -1 := by rw [cmpL_neg] at *; omega
      by_cases hp : a.lv = b.lv
      · cases hu : underL a b
        · exact total_n_t_f a b c w hh (cmpIs hx) (cmpIs hy) (cmpIs hba) (cmpIs hac) (underIs hu) hE (beq_iff_eq.2 hp)
        · exact total_n_t_t a b c w hh (cmpIs hx) (cmpIs hy) (cmpIs hba) (cmpIs hac) (underIs hu) hE (beq_iff_eq.2 hp)
      · cases hu : underL a b
        · exact total_n_f_f a b c w hh (cmpIs hx) (cmpIs hy) (cmpIs hba) (cmpIs hac) (underIs hu) hE (beq_false_of_ne hp)
        · exact total_n_f_t a b c w hh (cmpIs hx) (cmpIs hy) (cmpIs hba) (cmpIs hac) (underIs hu) hE (beq_false_of_ne hp)
    · have hy0 : 0 ≤ cmpL b c := by have := cmpL_three b c; omega
      by_cases hp : a.lv = b.lv
      · cases hu : underL a b
        · exact total_y_t_f a b c _ w hh (cmpIs hx) (cmpIs rfl) (cmpIs hba) (underIs hu) hy0 hE (beq_iff_eq.2 hp)
        · exact total_y_t_t a b c _ w hh (cmpIs hx) (cmpIs rfl) (cmpIs hba) (underIs hu) hy0 hE (beq_iff_eq.2 hp)
      · cases hu : underL a b
        · exact total_y_f_f a b c _ w hh (cmpIs hx) (cmpIs rfl) (cmpIs hba) (underIs hu) hy0 hE (beq_false_of_ne hp)
        · exact total_y_f_t a b c _ w hh (cmpIs hx) (cmpIs rfl) (cmpIs hba) (underIs hu) hy0 hE (beq_false_of_ne hp)
  · have hba : cmpL b a = 0 := by rw [cmpL_zero] at *; omega
    have hE := eqlIs (eqL_iff.2 (eq_cmp hx))
    have hp : a.lv = b.lv := (cmpL_zero.1 hx).1
    cases hu : underL a b
    · exact total_z_f a b c _ w hh (cmpIs hx) (cmpIs rfl) (cmpIs hba) (underIs hu) hE (beq_iff_eq.2 hp)
    · exact total_z_t a b c _ w hh (cmpIs hx) (cmpIs rfl) (cmpIs hba) (underIs hu) hE (beq_iff_eq.2 hp)
  · have hba : cmpL b a = -1 := by rw [cmpL_pos] at hx; rw [cmpL_neg]; omega
    have hE := eqlIs (neq_cmp (a := a) (b := b) (by omega))
    cases hu : underL a b
    · by_cases hp : a.lv = b.lv
      · exact total_p_t_f a b c _ w hh (cmpIs hx) (cmpIs rfl) (cmpIs hba) (underIs hu) hE (beq_iff_eq.2 hp)
      · exact total_p_f_f a b c _ w hh (cmpIs hx) (cmpIs rfl) (cmpIs hba) (underIs hu) hE (beq_false_of_ne hp)
    · have k := le3_iff.1 (underL_iff.1 hu).2.2
      have k2 := sub_le k.2.2
      have hq := cmpL_pos.1 hx
      have hp : a.lv = b.lv := by omega
      have hc : u a.c = u b.c := by omega
      exact total_p_t_t a b c _ w hh (cmpIs hx) (cmpIs rfl) (cmpIs hba) (underIs hu) hE (beq_iff_eq.2 hp) (beq_iff_eq.2 hc)
end Go.Proofs.YtapgeagmdiphgaaDoor
