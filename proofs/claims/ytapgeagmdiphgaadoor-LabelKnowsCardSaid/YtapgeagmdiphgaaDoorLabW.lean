/-
  THE WALKS OF THE STATEMENTS on labels (printed by wip/genlab.py): each core takes what its calls answer as an assumption over variables.
-/
import Derived.Test.YtapgeagmdiphgaaDoorLabG
namespace Go.Proofs.YtapgeagmdiphgaaDoor
open Go.RowKit

attribute [local go_sem] u_and u_or u_andNot u_add u_sub u_bit u_eq_zero u_beq

/-- what the calls answer -/
def JoinIs (a b x : Lab) (n : Int) : Prop := ∀ W, Handle W → Calls Tryd.prog 12 #[.agg #[.int .i64 a.lv, .int .u64 (u a.c), .int .i64 a.ig], .agg #[.int .i64 b.lv, .int .u64 (u b.c), .int .i64 b.ig]] W fun e w' => e = .returned (.tuple #[.agg #[.int .i64 x.lv, .int .u64 (u x.c), .int .i64 x.ig], .int .i64 n]) ∧ Below W.heap.size W w'
def MeetIs (a b x : Lab) (n : Int) : Prop := ∀ W, Handle W → Calls Tryd.prog 15 #[.agg #[.int .i64 a.lv, .int .u64 (u a.c), .int .i64 a.ig], .agg #[.int .i64 b.lv, .int .u64 (u b.c), .int .i64 b.ig]] W fun e w' => e = .returned (.tuple #[.agg #[.int .i64 x.lv, .int .u64 (u x.c), .int .i64 x.ig], .int .i64 n]) ∧ Below W.heap.size W w'
def UnderIs (a b : Lab) (r : Bool) : Prop := ∀ W, Calls Tryd.prog 14 #[.agg #[.int .i64 a.lv, .int .u64 (u a.c), .int .i64 a.ig], .agg #[.int .i64 b.lv, .int .u64 (u b.c), .int .i64 b.ig]] W fun e w' => e = .returned (.bool r) ∧ Below W.heap.size W w'
def RightIs (a : Lab) (r : Bool) : Prop := ∀ W, Calls Tryd.prog 13 #[.agg #[.int .i64 a.lv, .int .u64 (u a.c), .int .i64 a.ig]] W fun e w' => e = .returned (.bool r) ∧ Below W.heap.size W w'
theorem underIs {a b : Lab} {r : Bool} (h : underL a b = r) : UnderIs a b r := fun W => by rw [← h]; exact Under_any a b W
theorem rightIs {a : Lab} {r : Bool} (h : okL a = r) : RightIs a r := fun W => by rw [← h]; exact Right_any a W
theorem joinIs {a b : Lab} (ha : okL a = true) (hb : okL b = true) : JoinIs a b (joinL a b) 0 := fun W _ => Join_ok a b W ha hb
theorem joinNo {a b : Lab} (h : ¬ (okL a = true ∧ okL b = true)) : JoinIs a b zeroL 20 := fun W hW => Join_bad a b W (fun _ k => hW.up k) h
theorem meetIs {a b : Lab} (ha : okL a = true) (hb : okL b = true) : MeetIs a b (meetL a b) 0 := fun W _ => Meet_ok a b W ha hb
theorem meetNo {a b : Lab} (h : ¬ (okL a = true ∧ okL b = true)) : MeetIs a b zeroL 20 := fun W hW => Meet_bad a b W (fun _ k => hW.up k) h
theorem joinSome (a b : Lab) : ∃ x n, JoinIs a b x n := by
  by_cases h : okL a = true ∧ okL b = true
  · exact ⟨_, _, joinIs h.1 h.2⟩
  · exact ⟨_, _, joinNo h⟩

set_option maxHeartbeats 4000000 in
theorem joins_bad1 (a b c : Lab) (w : World) (hh : Handle w) (h0 : JoinIs a b zeroL 20) (h1 : RightIs a false) :
    Calls Tryd.prog 3 #[.agg #[.int .i64 a.lv, .int .u64 (u a.c), .int .i64 a.ig], .agg #[.int .i64 b.lv, .int .u64 (u b.c), .int .i64 b.ig], .agg #[.int .i64 c.lv, .int .u64 (u c.c), .int .i64 c.ig]] w (Yes w) := by
  have H0 := Lib.hid h0
  clear h0
  have H1 := Lib.hid h1
  clear h1
  have HH := Lib.hid hh
  clear hh
  have HB := Lib.hid (Below.refl w.heap.size w)
  go_enter Tryd.func3, Tryd.ntmps3
  go_wp2_with fail
  refine (shown_any _ (HH.out.up (by (first | exact HB.out | exact HB.out.drew | exact HB.out.alloc HB.out.size _ | exact (HB.out.alloc HB.out.size _).drew | exact (HB.out.alloc HB.out.size _).alloc (Nat.le_trans HB.out.size (by simp)) _ | exact ((HB.out.alloc HB.out.size _).alloc (Nat.le_trans HB.out.size (by simp)) _).alloc (Nat.le_trans HB.out.size (by simp; omega)) _)))).mono ?_
  rintro e w1 ⟨rfl, hB⟩
  (have HBn : Below w.heap.size w w1 := below_lift (by (first | exact HB.out | exact HB.out.drew | exact HB.out.alloc HB.out.size _ | exact (HB.out.alloc HB.out.size _).drew | exact (HB.out.alloc HB.out.size _).alloc (Nat.le_trans HB.out.size (by simp)) _ | exact ((HB.out.alloc HB.out.size _).alloc (Nat.le_trans HB.out.size (by simp)) _).alloc (Nat.le_trans HB.out.size (by simp; omega)) _)) hB; obtain ⟨hc, hf⟩ := below_cell hB; have zz := hB.size; (try simp at zz); have HB := Lib.hid HBn; clear HBn hB)
  have k0 : w.heap.size < w1.heap.size := by omega
  have m0 : w.heap.size < w1.heap.size + 1 := by omega
  have k1 : w.heap.size + 1 < w1.heap.size := by omega
  have m1 : w.heap.size + 1 < w1.heap.size + 1 := by omega
  have k2 : w.heap.size + 1 + 1 < w1.heap.size := by omega
  have m2 : w.heap.size + 1 + 1 < w1.heap.size + 1 := by omega
  go_wp2_with fail
  refine (H0.out _ (HH.out.up (by (first | exact HB.out | exact HB.out.drew | exact HB.out.alloc HB.out.size _ | exact (HB.out.alloc HB.out.size _).drew | exact (HB.out.alloc HB.out.size _).alloc (Nat.le_trans HB.out.size (by simp)) _ | exact ((HB.out.alloc HB.out.size _).alloc (Nat.le_trans HB.out.size (by simp)) _).alloc (Nat.le_trans HB.out.size (by simp; omega)) _)))).mono ?_
  rintro e w2 ⟨rfl, hB⟩
  (have HBn : Below w.heap.size w w2 := below_lift (by (first | exact HB.out | exact HB.out.drew | exact HB.out.alloc HB.out.size _ | exact (HB.out.alloc HB.out.size _).drew | exact (HB.out.alloc HB.out.size _).alloc (Nat.le_trans HB.out.size (by simp)) _ | exact ((HB.out.alloc HB.out.size _).alloc (Nat.le_trans HB.out.size (by simp)) _).alloc (Nat.le_trans HB.out.size (by simp; omega)) _)) hB; obtain ⟨hc, hf⟩ := below_cell hB; have zz := hB.size; (try simp at zz); have HB := Lib.hid HBn; clear HBn hB)
  have k0 : w.heap.size < w2.heap.size := by omega
  have m0 : w.heap.size < w2.heap.size + 1 := by omega
  have k1 : w.heap.size + 1 < w2.heap.size := by omega
  have m1 : w.heap.size + 1 < w2.heap.size + 1 := by omega
  have k2 : w.heap.size + 1 + 1 < w2.heap.size := by omega
  have m2 : w.heap.size + 1 + 1 < w2.heap.size + 1 := by omega
  go_wp2_with fail
  refine (H1.out _).mono ?_
  rintro e w3 ⟨rfl, hB⟩
  (have HBn : Below w.heap.size w w3 := below_lift (by (first | exact HB.out | exact HB.out.drew | exact HB.out.alloc HB.out.size _ | exact (HB.out.alloc HB.out.size _).drew | exact (HB.out.alloc HB.out.size _).alloc (Nat.le_trans HB.out.size (by simp)) _ | exact ((HB.out.alloc HB.out.size _).alloc (Nat.le_trans HB.out.size (by simp)) _).alloc (Nat.le_trans HB.out.size (by simp; omega)) _)) hB; obtain ⟨hc, hf⟩ := below_cell hB; have zz := hB.size; (try simp at zz); have HB := Lib.hid HBn; clear HBn hB)
  have k0 : w.heap.size < w3.heap.size := by omega
  have m0 : w.heap.size < w3.heap.size + 1 := by omega
  have k1 : w.heap.size + 1 < w3.heap.size := by omega
  have m1 : w.heap.size + 1 < w3.heap.size + 1 := by omega
  have k2 : w.heap.size + 1 + 1 < w3.heap.size := by omega
  have m2 : w.heap.size + 1 + 1 < w3.heap.size + 1 := by omega
  have k3 : w2.heap.size < w3.heap.size := by omega
  have m3 : w2.heap.size < w3.heap.size + 1 := by omega
  go_wp2_with fail
  go_ret
  exact ⟨rfl, by (first | exact HB.out | exact HB.out.drew | exact HB.out.alloc HB.out.size _ | exact (HB.out.alloc HB.out.size _).drew | exact (HB.out.alloc HB.out.size _).alloc (Nat.le_trans HB.out.size (by simp)) _ | exact ((HB.out.alloc HB.out.size _).alloc (Nat.le_trans HB.out.size (by simp)) _).alloc (Nat.le_trans HB.out.size (by simp; omega)) _)⟩

set_option maxHeartbeats 4000000 in
theorem joins_bad2 (a b c : Lab) (w : World) (hh : Handle w) (h0 : JoinIs a b zeroL 20) (h1 : RightIs a true) (h2 : RightIs b false) :
    Calls Tryd.prog 3 #[.agg #[.int .i64 a.lv, .int .u64 (u a.c), .int .i64 a.ig], .agg #[.int .i64 b.lv, .int .u64 (u b.c), .int .i64 b.ig], .agg #[.int .i64 c.lv, .int .u64 (u c.c), .int .i64 c.ig]] w (Yes w) := by
  have H0 := Lib.hid h0
  clear h0
  have H1 := Lib.hid h1
  clear h1
  have H2 := Lib.hid h2
  clear h2
  have HH := Lib.hid hh
  clear hh
  have HB := Lib.hid (Below.refl w.heap.size w)
  go_enter Tryd.func3, Tryd.ntmps3
  go_wp2_with fail
  refine (shown_any _ (HH.out.up (by (first | exact HB.out | exact HB.out.drew | exact HB.out.alloc HB.out.size _ | exact (HB.out.alloc HB.out.size _).drew | exact (HB.out.alloc HB.out.size _).alloc (Nat.le_trans HB.out.size (by simp)) _ | exact ((HB.out.alloc HB.out.size _).alloc (Nat.le_trans HB.out.size (by simp)) _).alloc (Nat.le_trans HB.out.size (by simp; omega)) _)))).mono ?_
  rintro e w1 ⟨rfl, hB⟩
  (have HBn : Below w.heap.size w w1 := below_lift (by (first | exact HB.out | exact HB.out.drew | exact HB.out.alloc HB.out.size _ | exact (HB.out.alloc HB.out.size _).drew | exact (HB.out.alloc HB.out.size _).alloc (Nat.le_trans HB.out.size (by simp)) _ | exact ((HB.out.alloc HB.out.size _).alloc (Nat.le_trans HB.out.size (by simp)) _).alloc (Nat.le_trans HB.out.size (by simp; omega)) _)) hB; obtain ⟨hc, hf⟩ := below_cell hB; have zz := hB.size; (try simp at zz); have HB := Lib.hid HBn; clear HBn hB)
  have k0 : w.heap.size < w1.heap.size := by omega
  have m0 : w.heap.size < w1.heap.size + 1 := by omega
  have k1 : w.heap.size + 1 < w1.heap.size := by omega
  have m1 : w.heap.size + 1 < w1.heap.size + 1 := by omega
  have k2 : w.heap.size + 1 + 1 < w1.heap.size := by omega
  have m2 : w.heap.size + 1 + 1 < w1.heap.size + 1 := by omega
  go_wp2_with fail
  refine (H0.out _ (HH.out.up (by (first | exact HB.out | exact HB.out.drew | exact HB.out.alloc HB.out.size _ | exact (HB.out.alloc HB.out.size _).drew | exact (HB.out.alloc HB.out.size _).alloc (Nat.le_trans HB.out.size (by simp)) _ | exact ((HB.out.alloc HB.out.size _).alloc (Nat.le_trans HB.out.size (by simp)) _).alloc (Nat.le_trans HB.out.size (by simp; omega)) _)))).mono ?_
  rintro e w2 ⟨rfl, hB⟩
  (have HBn : Below w.heap.size w w2 := below_lift (by (first | exact HB.out | exact HB.out.drew | exact HB.out.alloc HB.out.size _ | exact (HB.out.alloc HB.out.size _).drew | exact (HB.out.alloc HB.out.size _).alloc (Nat.le_trans HB.out.size (by simp)) _ | exact ((HB.out.alloc HB.out.size _).alloc (Nat.le_trans HB.out.size (by simp)) _).alloc (Nat.le_trans HB.out.size (by simp; omega)) _)) hB; obtain ⟨hc, hf⟩ := below_cell hB; have zz := hB.size; (try simp at zz); have HB := Lib.hid HBn; clear HBn hB)
  have k0 : w.heap.size < w2.heap.size := by omega
  have m0 : w.heap.size < w2.heap.size + 1 := by omega
  have k1 : w.heap.size + 1 < w2.heap.size := by omega
  have m1 : w.heap.size + 1 < w2.heap.size + 1 := by omega
  have k2 : w.heap.size + 1 + 1 < w2.heap.size := by omega
  have m2 : w.heap.size + 1 + 1 < w2.heap.size + 1 := by omega
  go_wp2_with fail
  refine (H1.out _).mono ?_
  rintro e w3 ⟨rfl, hB⟩
  (have HBn : Below w.heap.size w w3 := below_lift (by (first | exact HB.out | exact HB.out.drew | exact HB.out.alloc HB.out.size _ | exact (HB.out.alloc HB.out.size _).drew | exact (HB.out.alloc HB.out.size _).alloc (Nat.le_trans HB.out.size (by simp)) _ | exact ((HB.out.alloc HB.out.size _).alloc (Nat.le_trans HB.out.size (by simp)) _).alloc (Nat.le_trans HB.out.size (by simp; omega)) _)) hB; obtain ⟨hc, hf⟩ := below_cell hB; have zz := hB.size; (try simp at zz); have HB := Lib.hid HBn; clear HBn hB)
  have k0 : w.heap.size < w3.heap.size := by omega
  have m0 : w.heap.size < w3.heap.size + 1 := by omega
  have k1 : w.heap.size + 1 < w3.heap.size := by omega
  have m1 : w.heap.size + 1 < w3.heap.size + 1 := by omega
  have k2 : w.heap.size + 1 + 1 < w3.heap.size := by omega
  have m2 : w.heap.size + 1 + 1 < w3.heap.size + 1 := by omega
  have k3 : w2.heap.size < w3.heap.size := by omega
  have m3 : w2.heap.size < w3.heap.size + 1 := by omega
  go_wp2_with fail
  refine (H2.out _).mono ?_
  rintro e w4 ⟨rfl, hB⟩
  (have HBn : Below w.heap.size w w4 := below_lift (by (first | exact HB.out | exact HB.out.drew | exact HB.out.alloc HB.out.size _ | exact (HB.out.alloc HB.out.size _).drew | exact (HB.out.alloc HB.out.size _).alloc (Nat.le_trans HB.out.size (by simp)) _ | exact ((HB.out.alloc HB.out.size _).alloc (Nat.le_trans HB.out.size (by simp)) _).alloc (Nat.le_trans HB.out.size (by simp; omega)) _)) hB; obtain ⟨hc, hf⟩ := below_cell hB; have zz := hB.size; (try simp at zz); have HB := Lib.hid HBn; clear HBn hB)
  have k0 : w.heap.size < w4.heap.size := by omega
  have m0 : w.heap.size < w4.heap.size + 1 := by omega
  have k1 : w.heap.size + 1 < w4.heap.size := by omega
  have m1 : w.heap.size + 1 < w4.heap.size + 1 := by omega
  have k2 : w.heap.size + 1 + 1 < w4.heap.size := by omega
  have m2 : w.heap.size + 1 + 1 < w4.heap.size + 1 := by omega
  have k3 : w2.heap.size < w4.heap.size := by omega
  have m3 : w2.heap.size < w4.heap.size + 1 := by omega
  go_wp2_with fail
  go_ret
  exact ⟨rfl, by (first | exact HB.out | exact HB.out.drew | exact HB.out.alloc HB.out.size _ | exact (HB.out.alloc HB.out.size _).drew | exact (HB.out.alloc HB.out.size _).alloc (Nat.le_trans HB.out.size (by simp)) _ | exact ((HB.out.alloc HB.out.size _).alloc (Nat.le_trans HB.out.size (by simp)) _).alloc (Nat.le_trans HB.out.size (by simp; omega)) _)⟩

set_option maxHeartbeats 4000000 in
theorem joins_ok1 (a b c x : Lab) (w : World) (hh : Handle w) (h0 : JoinIs a b x 0) (h1 : UnderIs a x true) (h2 : UnderIs b x true) (h3 : UnderIs a c false) :
    Calls Tryd.prog 3 #[.agg #[.int .i64 a.lv, .int .u64 (u a.c), .int .i64 a.ig], .agg #[.int .i64 b.lv, .int .u64 (u b.c), .int .i64 b.ig], .agg #[.int .i64 c.lv, .int .u64 (u c.c), .int .i64 c.ig]] w (Yes w) := by
  have H0 := Lib.hid h0
  clear h0
  have H1 := Lib.hid h1
  clear h1
  have H2 := Lib.hid h2
  clear h2
  have H3 := Lib.hid h3
  clear h3
  have HH := Lib.hid hh
  clear hh
  have HB := Lib.hid (Below.refl w.heap.size w)
  go_enter Tryd.func3, Tryd.ntmps3
  go_wp2_with fail
  refine (shown_any _ (HH.out.up (by (first | exact HB.out | exact HB.out.drew | exact HB.out.alloc HB.out.size _ | exact (HB.out.alloc HB.out.size _).drew | exact (HB.out.alloc HB.out.size _).alloc (Nat.le_trans HB.out.size (by simp)) _ | exact ((HB.out.alloc HB.out.size _).alloc (Nat.le_trans HB.out.size (by simp)) _).alloc (Nat.le_trans HB.out.size (by simp; omega)) _)))).mono ?_
  rintro e w1 ⟨rfl, hB⟩
  (have HBn : Below w.heap.size w w1 := below_lift (by (first | exact HB.out | exact HB.out.drew | exact HB.out.alloc HB.out.size _ | exact (HB.out.alloc HB.out.size _).drew | exact (HB.out.alloc HB.out.size _).alloc (Nat.le_trans HB.out.size (by simp)) _ | exact ((HB.out.alloc HB.out.size _).alloc (Nat.le_trans HB.out.size (by simp)) _).alloc (Nat.le_trans HB.out.size (by simp; omega)) _)) hB; obtain ⟨hc, hf⟩ := below_cell hB; have zz := hB.size; (try simp at zz); have HB := Lib.hid HBn; clear HBn hB)
  have k0 : w.heap.size < w1.heap.size := by omega
  have m0 : w.heap.size < w1.heap.size + 1 := by omega
  have k1 : w.heap.size + 1 < w1.heap.size := by omega
  have m1 : w.heap.size + 1 < w1.heap.size + 1 := by omega
  have k2 : w.heap.size + 1 + 1 < w1.heap.size := by omega
  have m2 : w.heap.size + 1 + 1 < w1.heap.size + 1 := by omega
  go_wp2_with fail
  refine (H0.out _ (HH.out.up (by (first | exact HB.out | exact HB.out.drew | exact HB.out.alloc HB.out.size _ | exact (HB.out.alloc HB.out.size _).drew | exact (HB.out.alloc HB.out.size _).alloc (Nat.le_trans HB.out.size (by simp)) _ | exact ((HB.out.alloc HB.out.size _).alloc (Nat.le_trans HB.out.size (by simp)) _).alloc (Nat.le_trans HB.out.size (by simp; omega)) _)))).mono ?_
  rintro e w2 ⟨rfl, hB⟩
  (have HBn : Below w.heap.size w w2 := below_lift (by (first | exact HB.out | exact HB.out.drew | exact HB.out.alloc HB.out.size _ | exact (HB.out.alloc HB.out.size _).drew | exact (HB.out.alloc HB.out.size _).alloc (Nat.le_trans HB.out.size (by simp)) _ | exact ((HB.out.alloc HB.out.size _).alloc (Nat.le_trans HB.out.size (by simp)) _).alloc (Nat.le_trans HB.out.size (by simp; omega)) _)) hB; obtain ⟨hc, hf⟩ := below_cell hB; have zz := hB.size; (try simp at zz); have HB := Lib.hid HBn; clear HBn hB)
  have k0 : w.heap.size < w2.heap.size := by omega
  have m0 : w.heap.size < w2.heap.size + 1 := by omega
  have k1 : w.heap.size + 1 < w2.heap.size := by omega
  have m1 : w.heap.size + 1 < w2.heap.size + 1 := by omega
  have k2 : w.heap.size + 1 + 1 < w2.heap.size := by omega
  have m2 : w.heap.size + 1 + 1 < w2.heap.size + 1 := by omega
  go_wp2_with fail
  refine (H1.out _).mono ?_
  rintro e w3 ⟨rfl, hB⟩
  (have HBn : Below w.heap.size w w3 := below_lift (by (first | exact HB.out | exact HB.out.drew | exact HB.out.alloc HB.out.size _ | exact (HB.out.alloc HB.out.size _).drew | exact (HB.out.alloc HB.out.size _).alloc (Nat.le_trans HB.out.size (by simp)) _ | exact ((HB.out.alloc HB.out.size _).alloc (Nat.le_trans HB.out.size (by simp)) _).alloc (Nat.le_trans HB.out.size (by simp; omega)) _)) hB; obtain ⟨hc, hf⟩ := below_cell hB; have zz := hB.size; (try simp at zz); have HB := Lib.hid HBn; clear HBn hB)
  have k0 : w.heap.size < w3.heap.size := by omega
  have m0 : w.heap.size < w3.heap.size + 1 := by omega
  have k1 : w.heap.size + 1 < w3.heap.size := by omega
  have m1 : w.heap.size + 1 < w3.heap.size + 1 := by omega
  have k2 : w.heap.size + 1 + 1 < w3.heap.size := by omega
  have m2 : w.heap.size + 1 + 1 < w3.heap.size + 1 := by omega
  have k3 : w2.heap.size < w3.heap.size := by omega
  have m3 : w2.heap.size < w3.heap.size + 1 := by omega
  go_wp2_with fail
  refine (H2.out _).mono ?_
  rintro e w4 ⟨rfl, hB⟩
  (have HBn : Below w.heap.size w w4 := below_lift (by (first | exact HB.out | exact HB.out.drew | exact HB.out.alloc HB.out.size _ | exact (HB.out.alloc HB.out.size _).drew | exact (HB.out.alloc HB.out.size _).alloc (Nat.le_trans HB.out.size (by simp)) _ | exact ((HB.out.alloc HB.out.size _).alloc (Nat.le_trans HB.out.size (by simp)) _).alloc (Nat.le_trans HB.out.size (by simp; omega)) _)) hB; obtain ⟨hc, hf⟩ := below_cell hB; have zz := hB.size; (try simp at zz); have HB := Lib.hid HBn; clear HBn hB)
  have k0 : w.heap.size < w4.heap.size := by omega
  have m0 : w.heap.size < w4.heap.size + 1 := by omega
  have k1 : w.heap.size + 1 < w4.heap.size := by omega
  have m1 : w.heap.size + 1 < w4.heap.size + 1 := by omega
  have k2 : w.heap.size + 1 + 1 < w4.heap.size := by omega
  have m2 : w.heap.size + 1 + 1 < w4.heap.size + 1 := by omega
  have k3 : w2.heap.size < w4.heap.size := by omega
  have m3 : w2.heap.size < w4.heap.size + 1 := by omega
  go_wp2_with fail
  refine (H3.out _).mono ?_
  rintro e w5 ⟨rfl, hB⟩
  (have HBn : Below w.heap.size w w5 := below_lift (by (first | exact HB.out | exact HB.out.drew | exact HB.out.alloc HB.out.size _ | exact (HB.out.alloc HB.out.size _).drew | exact (HB.out.alloc HB.out.size _).alloc (Nat.le_trans HB.out.size (by simp)) _ | exact ((HB.out.alloc HB.out.size _).alloc (Nat.le_trans HB.out.size (by simp)) _).alloc (Nat.le_trans HB.out.size (by simp; omega)) _)) hB; obtain ⟨hc, hf⟩ := below_cell hB; have zz := hB.size; (try simp at zz); have HB := Lib.hid HBn; clear HBn hB)
  have k0 : w.heap.size < w5.heap.size := by omega
  have m0 : w.heap.size < w5.heap.size + 1 := by omega
  have k1 : w.heap.size + 1 < w5.heap.size := by omega
  have m1 : w.heap.size + 1 < w5.heap.size + 1 := by omega
  have k2 : w.heap.size + 1 + 1 < w5.heap.size := by omega
  have m2 : w.heap.size + 1 + 1 < w5.heap.size + 1 := by omega
  have k3 : w2.heap.size < w5.heap.size := by omega
  have m3 : w2.heap.size < w5.heap.size + 1 := by omega
  go_wp2_with fail
  go_ret
  exact ⟨rfl, by (first | exact HB.out | exact HB.out.drew | exact HB.out.alloc HB.out.size _ | exact (HB.out.alloc HB.out.size _).drew | exact (HB.out.alloc HB.out.size _).alloc (Nat.le_trans HB.out.size (by simp)) _ | exact ((HB.out.alloc HB.out.size _).alloc (Nat.le_trans HB.out.size (by simp)) _).alloc (Nat.le_trans HB.out.size (by simp; omega)) _)⟩

set_option maxHeartbeats 4000000 in
theorem joins_ok2 (a b c x : Lab) (w : World) (hh : Handle w) (h0 : JoinIs a b x 0) (h1 : UnderIs a x true) (h2 : UnderIs b x true) (h3 : UnderIs a c true) (h4 : UnderIs b c false) :
    Calls Tryd.prog 3 #[.agg #[.int .i64 a.lv, .int .u64 (u a.c), .int .i64 a.ig], .agg #[.int .i64 b.lv, .int .u64 (u b.c), .int .i64 b.ig], .agg #[.int .i64 c.lv, .int .u64 (u c.c), .int .i64 c.ig]] w (Yes w) := by
  have H0 := Lib.hid h0
  clear h0
  have H1 := Lib.hid h1
  clear h1
  have H2 := Lib.hid h2
  clear h2
  have H3 := Lib.hid h3
  clear h3
  have H4 := Lib.hid h4
  clear h4
  have HH := Lib.hid hh
  clear hh
  have HB := Lib.hid (Below.refl w.heap.size w)
  go_enter Tryd.func3, Tryd.ntmps3
  go_wp2_with fail
  refine (shown_any _ (HH.out.up (by (first | exact HB.out | exact HB.out.drew | exact HB.out.alloc HB.out.size _ | exact (HB.out.alloc HB.out.size _).drew | exact (HB.out.alloc HB.out.size _).alloc (Nat.le_trans HB.out.size (by simp)) _ | exact ((HB.out.alloc HB.out.size _).alloc (Nat.le_trans HB.out.size (by simp)) _).alloc (Nat.le_trans HB.out.size (by simp; omega)) _)))).mono ?_
  rintro e w1 ⟨rfl, hB⟩
  (have HBn : Below w.heap.size w w1 := below_lift (by (first | exact HB.out | exact HB.out.drew | exact HB.out.alloc HB.out.size _ | exact (HB.out.alloc HB.out.size _).drew | exact (HB.out.alloc HB.out.size _).alloc (Nat.le_trans HB.out.size (by simp)) _ | exact ((HB.out.alloc HB.out.size _).alloc (Nat.le_trans HB.out.size (by simp)) _).alloc (Nat.le_trans HB.out.size (by simp; omega)) _)) hB; obtain ⟨hc, hf⟩ := below_cell hB; have zz := hB.size; (try simp at zz); have HB := Lib.hid HBn; clear HBn hB)
  have k0 : w.heap.size < w1.heap.size := by omega
  have m0 : w.heap.size < w1.heap.size + 1 := by omega
  have k1 : w.heap.size + 1 < w1.heap.size := by omega
  have m1 : w.heap.size + 1 < w1.heap.size + 1 := by omega
  have k2 : w.heap.size + 1 + 1 < w1.heap.size := by omega
  have m2 : w.heap.size + 1 + 1 < w1.heap.size + 1 := by omega
  go_wp2_with fail
  refine (H0.out _ (HH.out.up (by (first | exact HB.out | exact HB.out.drew | exact HB.out.alloc HB.out.size _ | exact (HB.out.alloc HB.out.size _).drew | exact (HB.out.alloc HB.out.size _).alloc (Nat.le_trans HB.out.size (by simp)) _ | exact ((HB.out.alloc HB.out.size _).alloc (Nat.le_trans HB.out.size (by simp)) _).alloc (Nat.le_trans HB.out.size (by simp; omega)) _)))).mono ?_
  rintro e w2 ⟨rfl, hB⟩
  (have HBn : Below w.heap.size w w2 := below_lift (by (first | exact HB.out | exact HB.out.drew | exact HB.out.alloc HB.out.size _ | exact (HB.out.alloc HB.out.size _).drew | exact (HB.out.alloc HB.out.size _).alloc (Nat.le_trans HB.out.size (by simp)) _ | exact ((HB.out.alloc HB.out.size _).alloc (Nat.le_trans HB.out.size (by simp)) _).alloc (Nat.le_trans HB.out.size (by simp; omega)) _)) hB; obtain ⟨hc, hf⟩ := below_cell hB; have zz := hB.size; (try simp at zz); have HB := Lib.hid HBn; clear HBn hB)
  have k0 : w.heap.size < w2.heap.size := by omega
  have m0 : w.heap.size < w2.heap.size + 1 := by omega
  have k1 : w.heap.size + 1 < w2.heap.size := by omega
  have m1 : w.heap.size + 1 < w2.heap.size + 1 := by omega
  have k2 : w.heap.size + 1 + 1 < w2.heap.size := by omega
  have m2 : w.heap.size + 1 + 1 < w2.heap.size + 1 := by omega
  go_wp2_with fail
  refine (H1.out _).mono ?_
  rintro e w3 ⟨rfl, hB⟩
  (have HBn : Below w.heap.size w w3 := below_lift (by (first | exact HB.out | exact HB.out.drew | exact HB.out.alloc HB.out.size _ | exact (HB.out.alloc HB.out.size _).drew | exact (HB.out.alloc HB.out.size _).alloc (Nat.le_trans HB.out.size (by simp)) _ | exact ((HB.out.alloc HB.out.size _).alloc (Nat.le_trans HB.out.size (by simp)) _).alloc (Nat.le_trans HB.out.size (by simp; omega)) _)) hB; obtain ⟨hc, hf⟩ := below_cell hB; have zz := hB.size; (try simp at zz); have HB := Lib.hid HBn; clear HBn hB)
  have k0 : w.heap.size < w3.heap.size := by omega
  have m0 : w.heap.size < w3.heap.size + 1 := by omega
  have k1 : w.heap.size + 1 < w3.heap.size := by omega
  have m1 : w.heap.size + 1 < w3.heap.size + 1 := by omega
  have k2 : w.heap.size + 1 + 1 < w3.heap.size := by omega
  have m2 : w.heap.size + 1 + 1 < w3.heap.size + 1 := by omega
  have k3 : w2.heap.size < w3.heap.size := by omega
  have m3 : w2.heap.size < w3.heap.size + 1 := by omega
  go_wp2_with fail
  refine (H2.out _).mono ?_
  rintro e w4 ⟨rfl, hB⟩
  (have HBn : Below w.heap.size w w4 := below_lift (by (first | exact HB.out | exact HB.out.drew | exact HB.out.alloc HB.out.size _ | exact (HB.out.alloc HB.out.size _).drew | exact (HB.out.alloc HB.out.size _).alloc (Nat.le_trans HB.out.size (by simp)) _ | exact ((HB.out.alloc HB.out.size _).alloc (Nat.le_trans HB.out.size (by simp)) _).alloc (Nat.le_trans HB.out.size (by simp; omega)) _)) hB; obtain ⟨hc, hf⟩ := below_cell hB; have zz := hB.size; (try simp at zz); have HB := Lib.hid HBn; clear HBn hB)
  have k0 : w.heap.size < w4.heap.size := by omega
  have m0 : w.heap.size < w4.heap.size + 1 := by omega
  have k1 : w.heap.size + 1 < w4.heap.size := by omega
  have m1 : w.heap.size + 1 < w4.heap.size + 1 := by omega
  have k2 : w.heap.size + 1 + 1 < w4.heap.size := by omega
  have m2 : w.heap.size + 1 + 1 < w4.heap.size + 1 := by omega
  have k3 : w2.heap.size < w4.heap.size := by omega
  have m3 : w2.heap.size < w4.heap.size + 1 := by omega
  go_wp2_with fail
  refine (H3.out _).mono ?_
  rintro e w5 ⟨rfl, hB⟩
  (have HBn : Below w.heap.size w w5 := below_lift (by (first | exact HB.out | exact HB.out.drew | exact HB.out.alloc HB.out.size _ | exact (HB.out.alloc HB.out.size _).drew | exact (HB.out.alloc HB.out.size _).alloc (Nat.le_trans HB.out.size (by simp)) _ | exact ((HB.out.alloc HB.out.size _).alloc (Nat.le_trans HB.out.size (by simp)) _).alloc (Nat.le_trans HB.out.size (by simp; omega)) _)) hB; obtain ⟨hc, hf⟩ := below_cell hB; have zz := hB.size; (try simp at zz); have HB := Lib.hid HBn; clear HBn hB)
  have k0 : w.heap.size < w5.heap.size := by omega
  have m0 : w.heap.size < w5.heap.size + 1 := by omega
  have k1 : w.heap.size + 1 < w5.heap.size := by omega
  have m1 : w.heap.size + 1 < w5.heap.size + 1 := by omega
  have k2 : w.heap.size + 1 + 1 < w5.heap.size := by omega
  have m2 : w.heap.size + 1 + 1 < w5.heap.size + 1 := by omega
  have k3 : w2.heap.size < w5.heap.size := by omega
  have m3 : w2.heap.size < w5.heap.size + 1 := by omega
  go_wp2_with fail
  refine (H4.out _).mono ?_
  rintro e w6 ⟨rfl, hB⟩
  (have HBn : Below w.heap.size w w6 := below_lift (by (first | exact HB.out | exact HB.out.drew | exact HB.out.alloc HB.out.size _ | exact (HB.out.alloc HB.out.size _).drew | exact (HB.out.alloc HB.out.size _).alloc (Nat.le_trans HB.out.size (by simp)) _ | exact ((HB.out.alloc HB.out.size _).alloc (Nat.le_trans HB.out.size (by simp)) _).alloc (Nat.le_trans HB.out.size (by simp; omega)) _)) hB; obtain ⟨hc, hf⟩ := below_cell hB; have zz := hB.size; (try simp at zz); have HB := Lib.hid HBn; clear HBn hB)
  have k0 : w.heap.size < w6.heap.size := by omega
  have m0 : w.heap.size < w6.heap.size + 1 := by omega
  have k1 : w.heap.size + 1 < w6.heap.size := by omega
  have m1 : w.heap.size + 1 < w6.heap.size + 1 := by omega
  have k2 : w.heap.size + 1 + 1 < w6.heap.size := by omega
  have m2 : w.heap.size + 1 + 1 < w6.heap.size + 1 := by omega
  have k3 : w2.heap.size < w6.heap.size := by omega
  have m3 : w2.heap.size < w6.heap.size + 1 := by omega
  go_wp2_with fail
  go_ret
  exact ⟨rfl, by (first | exact HB.out | exact HB.out.drew | exact HB.out.alloc HB.out.size _ | exact (HB.out.alloc HB.out.size _).drew | exact (HB.out.alloc HB.out.size _).alloc (Nat.le_trans HB.out.size (by simp)) _ | exact ((HB.out.alloc HB.out.size _).alloc (Nat.le_trans HB.out.size (by simp)) _).alloc (Nat.le_trans HB.out.size (by simp; omega)) _)⟩

set_option maxHeartbeats 4000000 in
theorem joins_ok3 (a b c x : Lab) (w : World) (hh : Handle w) (h0 : JoinIs a b x 0) (h1 : UnderIs a x true) (h2 : UnderIs b x true) (h3 : UnderIs a c true) (h4 : UnderIs b c true) (h5 : UnderIs x c true) :
    Calls Tryd.prog 3 #[.agg #[.int .i64 a.lv, .int .u64 (u a.c), .int .i64 a.ig], .agg #[.int .i64 b.lv, .int .u64 (u b.c), .int .i64 b.ig], .agg #[.int .i64 c.lv, .int .u64 (u c.c), .int .i64 c.ig]] w (Yes w) := by
  have H0 := Lib.hid h0
  clear h0
  have H1 := Lib.hid h1
  clear h1
  have H2 := Lib.hid h2
  clear h2
  have H3 := Lib.hid h3
  clear h3
  have H4 := Lib.hid h4
  clear h4
  have H5 := Lib.hid h5
  clear h5
  have HH := Lib.hid hh
  clear hh
  have HB := Lib.hid (Below.refl w.heap.size w)
  go_enter Tryd.func3, Tryd.ntmps3
  go_wp2_with fail
  refine (shown_any _ (HH.out.up (by (first | exact HB.out | exact HB.out.drew | exact HB.out.alloc HB.out.size _ | exact (HB.out.alloc HB.out.size _).drew | exact (HB.out.alloc HB.out.size _).alloc (Nat.le_trans HB.out.size (by simp)) _ | exact ((HB.out.alloc HB.out.size _).alloc (Nat.le_trans HB.out.size (by simp)) _).alloc (Nat.le_trans HB.out.size (by simp; omega)) _)))).mono ?_
  rintro e w1 ⟨rfl, hB⟩
  (have HBn : Below w.heap.size w w1 := below_lift (by (first | exact HB.out | exact HB.out.drew | exact HB.out.alloc HB.out.size _ | exact (HB.out.alloc HB.out.size _).drew | exact (HB.out.alloc HB.out.size _).alloc (Nat.le_trans HB.out.size (by simp)) _ | exact ((HB.out.alloc HB.out.size _).alloc (Nat.le_trans HB.out.size (by simp)) _).alloc (Nat.le_trans HB.out.size (by simp; omega)) _)) hB; obtain ⟨hc, hf⟩ := below_cell hB; have zz := hB.size; (try simp at zz); have HB := Lib.hid HBn; clear HBn hB)
  have k0 : w.heap.size < w1.heap.size := by omega
  have m0 : w.heap.size < w1.heap.size + 1 := by omega
  have k1 : w.heap.size + 1 < w1.heap.size := by omega
  have m1 : w.heap.size + 1 < w1.heap.size + 1 := by omega
  have k2 : w.heap.size + 1 + 1 < w1.heap.size := by omega
  have m2 : w.heap.size + 1 + 1 < w1.heap.size + 1 := by omega
  go_wp2_with fail
  refine (H0.out _ (HH.out.up (by (first | exact HB.out | exact HB.out.drew | exact HB.out.alloc HB.out.size _ | exact (HB.out.alloc HB.out.size _).drew | exact (HB.out.alloc HB.out.size _).alloc (Nat.le_trans HB.out.size (by simp)) _ | exact ((HB.out.alloc HB.out.size _).alloc (Nat.le_trans HB.out.size (by simp)) _).alloc (Nat.le_trans HB.out.size (by simp; omega)) _)))).mono ?_
  rintro e w2 ⟨rfl, hB⟩
  (have HBn : Below w.heap.size w w2 := below_lift (by (first | exact HB.out | exact HB.out.drew | exact HB.out.alloc HB.out.size _ | exact (HB.out.alloc HB.out.size _).drew | exact (HB.out.alloc HB.out.size _).alloc (Nat.le_trans HB.out.size (by simp)) _ | exact ((HB.out.alloc HB.out.size _).alloc (Nat.le_trans HB.out.size (by simp)) _).alloc (Nat.le_trans HB.out.size (by simp; omega)) _)) hB; obtain ⟨hc, hf⟩ := below_cell hB; have zz := hB.size; (try simp at zz); have HB := Lib.hid HBn; clear HBn hB)
  have k0 : w.heap.size < w2.heap.size := by omega
  have m0 : w.heap.size < w2.heap.size + 1 := by omega
  have k1 : w.heap.size + 1 < w2.heap.size := by omega
  have m1 : w.heap.size + 1 < w2.heap.size + 1 := by omega
  have k2 : w.heap.size + 1 + 1 < w2.heap.size := by omega
  have m2 : w.heap.size + 1 + 1 < w2.heap.size + 1 := by omega
  go_wp2_with fail
  refine (H1.out _).mono ?_
  rintro e w3 ⟨rfl, hB⟩
  (have HBn : Below w.heap.size w w3 := below_lift (by (first | exact HB.out | exact HB.out.drew | exact HB.out.alloc HB.out.size _ | exact (HB.out.alloc HB.out.size _).drew | exact (HB.out.alloc HB.out.size _).alloc (Nat.le_trans HB.out.size (by simp)) _ | exact ((HB.out.alloc HB.out.size _).alloc (Nat.le_trans HB.out.size (by simp)) _).alloc (Nat.le_trans HB.out.size (by simp; omega)) _)) hB; obtain ⟨hc, hf⟩ := below_cell hB; have zz := hB.size; (try simp at zz); have HB := Lib.hid HBn; clear HBn hB)
  have k0 : w.heap.size < w3.heap.size := by omega
  have m0 : w.heap.size < w3.heap.size + 1 := by omega
  have k1 : w.heap.size + 1 < w3.heap.size := by omega
  have m1 : w.heap.size + 1 < w3.heap.size + 1 := by omega
  have k2 : w.heap.size + 1 + 1 < w3.heap.size := by omega
  have m2 : w.heap.size + 1 + 1 < w3.heap.size + 1 := by omega
  have k3 : w2.heap.size < w3.heap.size := by omega
  have m3 : w2.heap.size < w3.heap.size + 1 := by omega
  go_wp2_with fail
  refine (H2.out _).mono ?_
  rintro e w4 ⟨rfl, hB⟩
  (have HBn : Below w.heap.size w w4 := below_lift (by (first | exact HB.out | exact HB.out.drew | exact HB.out.alloc HB.out.size _ | exact (HB.out.alloc HB.out.size _).drew | exact (HB.out.alloc HB.out.size _).alloc (Nat.le_trans HB.out.size (by simp)) _ | exact ((HB.out.alloc HB.out.size _).alloc (Nat.le_trans HB.out.size (by simp)) _).alloc (Nat.le_trans HB.out.size (by simp; omega)) _)) hB; obtain ⟨hc, hf⟩ := below_cell hB; have zz := hB.size; (try simp at zz); have HB := Lib.hid HBn; clear HBn hB)
  have k0 : w.heap.size < w4.heap.size := by omega
  have m0 : w.heap.size < w4.heap.size + 1 := by omega
  have k1 : w.heap.size + 1 < w4.heap.size := by omega
  have m1 : w.heap.size + 1 < w4.heap.size + 1 := by omega
  have k2 : w.heap.size + 1 + 1 < w4.heap.size := by omega
  have m2 : w.heap.size + 1 + 1 < w4.heap.size + 1 := by omega
  have k3 : w2.heap.size < w4.heap.size := by omega
  have m3 : w2.heap.size < w4.heap.size + 1 := by omega
  go_wp2_with fail
  refine (H3.out _).mono ?_
  rintro e w5 ⟨rfl, hB⟩
  (have HBn : Below w.heap.size w w5 := below_lift (by (first | exact HB.out | exact HB.out.drew | exact HB.out.alloc HB.out.size _ | exact (HB.out.alloc HB.out.size _).drew | exact (HB.out.alloc HB.out.size _).alloc (Nat.le_trans HB.out.size (by simp)) _ | exact ((HB.out.alloc HB.out.size _).alloc (Nat.le_trans HB.out.size (by simp)) _).alloc (Nat.le_trans HB.out.size (by simp; omega)) _)) hB; obtain ⟨hc, hf⟩ := below_cell hB; have zz := hB.size; (try simp at zz); have HB := Lib.hid HBn; clear HBn hB)
  have k0 : w.heap.size < w5.heap.size := by omega
  have m0 : w.heap.size < w5.heap.size + 1 := by omega
  have k1 : w.heap.size + 1 < w5.heap.size := by omega
  have m1 : w.heap.size + 1 < w5.heap.size + 1 := by omega
  have k2 : w.heap.size + 1 + 1 < w5.heap.size := by omega
  have m2 : w.heap.size + 1 + 1 < w5.heap.size + 1 := by omega
  have k3 : w2.heap.size < w5.heap.size := by omega
  have m3 : w2.heap.size < w5.heap.size + 1 := by omega
  go_wp2_with fail
  refine (H4.out _).mono ?_
  rintro e w6 ⟨rfl, hB⟩
  (have HBn : Below w.heap.size w w6 := below_lift (by (first | exact HB.out | exact HB.out.drew | exact HB.out.alloc HB.out.size _ | exact (HB.out.alloc HB.out.size _).drew | exact (HB.out.alloc HB.out.size _).alloc (Nat.le_trans HB.out.size (by simp)) _ | exact ((HB.out.alloc HB.out.size _).alloc (Nat.le_trans HB.out.size (by simp)) _).alloc (Nat.le_trans HB.out.size (by simp; omega)) _)) hB; obtain ⟨hc, hf⟩ := below_cell hB; have zz := hB.size; (try simp at zz); have HB := Lib.hid HBn; clear HBn hB)
  have k0 : w.heap.size < w6.heap.size := by omega
  have m0 : w.heap.size < w6.heap.size + 1 := by omega
  have k1 : w.heap.size + 1 < w6.heap.size := by omega
  have m1 : w.heap.size + 1 < w6.heap.size + 1 := by omega
  have k2 : w.heap.size + 1 + 1 < w6.heap.size := by omega
  have m2 : w.heap.size + 1 + 1 < w6.heap.size + 1 := by omega
  have k3 : w2.heap.size < w6.heap.size := by omega
  have m3 : w2.heap.size < w6.heap.size + 1 := by omega
  go_wp2_with fail
  refine (H5.out _).mono ?_
  rintro e w7 ⟨rfl, hB⟩
  (have HBn : Below w.heap.size w w7 := below_lift (by (first | exact HB.out | exact HB.out.drew | exact HB.out.alloc HB.out.size _ | exact (HB.out.alloc HB.out.size _).drew | exact (HB.out.alloc HB.out.size _).alloc (Nat.le_trans HB.out.size (by simp)) _ | exact ((HB.out.alloc HB.out.size _).alloc (Nat.le_trans HB.out.size (by simp)) _).alloc (Nat.le_trans HB.out.size (by simp; omega)) _)) hB; obtain ⟨hc, hf⟩ := below_cell hB; have zz := hB.size; (try simp at zz); have HB := Lib.hid HBn; clear HBn hB)
  have k0 : w.heap.size < w7.heap.size := by omega
  have m0 : w.heap.size < w7.heap.size + 1 := by omega
  have k1 : w.heap.size + 1 < w7.heap.size := by omega
  have m1 : w.heap.size + 1 < w7.heap.size + 1 := by omega
  have k2 : w.heap.size + 1 + 1 < w7.heap.size := by omega
  have m2 : w.heap.size + 1 + 1 < w7.heap.size + 1 := by omega
  have k3 : w2.heap.size < w7.heap.size := by omega
  have m3 : w2.heap.size < w7.heap.size + 1 := by omega
  go_wp2_with fail
  go_ret
  exact ⟨rfl, by (first | exact HB.out | exact HB.out.drew | exact HB.out.alloc HB.out.size _ | exact (HB.out.alloc HB.out.size _).drew | exact (HB.out.alloc HB.out.size _).alloc (Nat.le_trans HB.out.size (by simp)) _ | exact ((HB.out.alloc HB.out.size _).alloc (Nat.le_trans HB.out.size (by simp)) _).alloc (Nat.le_trans HB.out.size (by simp; omega)) _)⟩

set_option maxHeartbeats 4000000 in
theorem meets_bad1 (a b c : Lab) (w : World) (hh : Handle w) (h0 : MeetIs a b zeroL 20) (h1 : RightIs a false) :
    Calls Tryd.prog 4 #[.agg #[.int .i64 a.lv, .int .u64 (u a.c), .int .i64 a.ig], .agg #[.int .i64 b.lv, .int .u64 (u b.c), .int .i64 b.ig], .agg #[.int .i64 c.lv, .int .u64 (u c.c), .int .i64 c.ig]] w (Yes w) := by
  have H0 := Lib.hid h0
  clear h0
  have H1 := Lib.hid h1
  clear h1
  have HH := Lib.hid hh
  clear hh
  have HB := Lib.hid (Below.refl w.heap.size w)
  go_enter Tryd.func4, Tryd.ntmps4
  go_wp2_with fail
  refine (shown_any _ (HH.out.up (by (first | exact HB.out | exact HB.out.drew | exact HB.out.alloc HB.out.size _ | exact (HB.out.alloc HB.out.size _).drew | exact (HB.out.alloc HB.out.size _).alloc (Nat.le_trans HB.out.size (by simp)) _ | exact ((HB.out.alloc HB.out.size _).alloc (Nat.le_trans HB.out.size (by simp)) _).alloc (Nat.le_trans HB.out.size (by simp; omega)) _)))).mono ?_
  rintro e w1 ⟨rfl, hB⟩
  (have HBn : Below w.heap.size w w1 := below_lift (by (first | exact HB.out | exact HB.out.drew | exact HB.out.alloc HB.out.size _ | exact (HB.out.alloc HB.out.size _).drew | exact (HB.out.alloc HB.out.size _).alloc (Nat.le_trans HB.out.size (by simp)) _ | exact ((HB.out.alloc HB.out.size _).alloc (Nat.le_trans HB.out.size (by simp)) _).alloc (Nat.le_trans HB.out.size (by simp; omega)) _)) hB; obtain ⟨hc, hf⟩ := below_cell hB; have zz := hB.size; (try simp at zz); have HB := Lib.hid HBn; clear HBn hB)
  have k0 : w.heap.size < w1.heap.size := by omega
  have m0 : w.heap.size < w1.heap.size + 1 := by omega
  have k1 : w.heap.size + 1 < w1.heap.size := by omega
  have m1 : w.heap.size + 1 < w1.heap.size + 1 := by omega
  have k2 : w.heap.size + 1 + 1 < w1.heap.size := by omega
  have m2 : w.heap.size + 1 + 1 < w1.heap.size + 1 := by omega
  go_wp2_with fail
  refine (H0.out _ (HH.out.up (by (first | exact HB.out | exact HB.out.drew | exact HB.out.alloc HB.out.size _ | exact (HB.out.alloc HB.out.size _).drew | exact (HB.out.alloc HB.out.size _).alloc (Nat.le_trans HB.out.size (by simp)) _ | exact ((HB.out.alloc HB.out.size _).alloc (Nat.le_trans HB.out.size (by simp)) _).alloc (Nat.le_trans HB.out.size (by simp; omega)) _)))).mono ?_
  rintro e w2 ⟨rfl, hB⟩
  (have HBn : Below w.heap.size w w2 := below_lift (by (first | exact HB.out | exact HB.out.drew | exact HB.out.alloc HB.out.size _ | exact (HB.out.alloc HB.out.size _).drew | exact (HB.out.alloc HB.out.size _).alloc (Nat.le_trans HB.out.size (by simp)) _ | exact ((HB.out.alloc HB.out.size _).alloc (Nat.le_trans HB.out.size (by simp)) _).alloc (Nat.le_trans HB.out.size (by simp; omega)) _)) hB; obtain ⟨hc, hf⟩ := below_cell hB; have zz := hB.size; (try simp at zz); have HB := Lib.hid HBn; clear HBn hB)
  have k0 : w.heap.size < w2.heap.size := by omega
  have m0 : w.heap.size < w2.heap.size + 1 := by omega
  have k1 : w.heap.size + 1 < w2.heap.size := by omega
  have m1 : w.heap.size + 1 < w2.heap.size + 1 := by omega
  have k2 : w.heap.size + 1 + 1 < w2.heap.size := by omega
  have m2 : w.heap.size + 1 + 1 < w2.heap.size + 1 := by omega
  go_wp2_with fail
  refine (H1.out _).mono ?_
  rintro e w3 ⟨rfl, hB⟩
  (have HBn : Below w.heap.size w w3 := below_lift (by (first | exact HB.out | exact HB.out.drew | exact HB.out.alloc HB.out.size _ | exact (HB.out.alloc HB.out.size _).drew | exact (HB.out.alloc HB.out.size _).alloc (Nat.le_trans HB.out.size (by simp)) _ | exact ((HB.out.alloc HB.out.size _).alloc (Nat.le_trans HB.out.size (by simp)) _).alloc (Nat.le_trans HB.out.size (by simp; omega)) _)) hB; obtain ⟨hc, hf⟩ := below_cell hB; have zz := hB.size; (try simp at zz); have HB := Lib.hid HBn; clear HBn hB)
  have k0 : w.heap.size < w3.heap.size := by omega
  have m0 : w.heap.size < w3.heap.size + 1 := by omega
  have k1 : w.heap.size + 1 < w3.heap.size := by omega
  have m1 : w.heap.size + 1 < w3.heap.size + 1 := by omega
  have k2 : w.heap.size + 1 + 1 < w3.heap.size := by omega
  have m2 : w.heap.size + 1 + 1 < w3.heap.size + 1 := by omega
  have k3 : w2.heap.size < w3.heap.size := by omega
  have m3 : w2.heap.size < w3.heap.size + 1 := by omega
  go_wp2_with fail
  go_ret
  exact ⟨rfl, by (first | exact HB.out | exact HB.out.drew | exact HB.out.alloc HB.out.size _ | exact (HB.out.alloc HB.out.size _).drew | exact (HB.out.alloc HB.out.size _).alloc (Nat.le_trans HB.out.size (by simp)) _ | exact ((HB.out.alloc HB.out.size _).alloc (Nat.le_trans HB.out.size (by simp)) _).alloc (Nat.le_trans HB.out.size (by simp; omega)) _)⟩

set_option maxHeartbeats 4000000 in
theorem meets_bad2 (a b c : Lab) (w : World) (hh : Handle w) (h0 : MeetIs a b zeroL 20) (h1 : RightIs a true) (h2 : RightIs b false) :
    Calls Tryd.prog 4 #[.agg #[.int .i64 a.lv, .int .u64 (u a.c), .int .i64 a.ig], .agg #[.int .i64 b.lv, .int .u64 (u b.c), .int .i64 b.ig], .agg #[.int .i64 c.lv, .int .u64 (u c.c), .int .i64 c.ig]] w (Yes w) := by
  have H0 := Lib.hid h0
  clear h0
  have H1 := Lib.hid h1
  clear h1
  have H2 := Lib.hid h2
  clear h2
  have HH := Lib.hid hh
  clear hh
  have HB := Lib.hid (Below.refl w.heap.size w)
  go_enter Tryd.func4, Tryd.ntmps4
  go_wp2_with fail
  refine (shown_any _ (HH.out.up (by (first | exact HB.out | exact HB.out.drew | exact HB.out.alloc HB.out.size _ | exact (HB.out.alloc HB.out.size _).drew | exact (HB.out.alloc HB.out.size _).alloc (Nat.le_trans HB.out.size (by simp)) _ | exact ((HB.out.alloc HB.out.size _).alloc (Nat.le_trans HB.out.size (by simp)) _).alloc (Nat.le_trans HB.out.size (by simp; omega)) _)))).mono ?_
  rintro e w1 ⟨rfl, hB⟩
  (have HBn : Below w.heap.size w w1 := below_lift (by (first | exact HB.out | exact HB.out.drew | exact HB.out.alloc HB.out.size _ | exact (HB.out.alloc HB.out.size _).drew | exact (HB.out.alloc HB.out.size _).alloc (Nat.le_trans HB.out.size (by simp)) _ | exact ((HB.out.alloc HB.out.size _).alloc (Nat.le_trans HB.out.size (by simp)) _).alloc (Nat.le_trans HB.out.size (by simp; omega)) _)) hB; obtain ⟨hc, hf⟩ := below_cell hB; have zz := hB.size; (try simp at zz); have HB := Lib.hid HBn; clear HBn hB)
  have k0 : w.heap.size < w1.heap.size := by omega
  have m0 : w.heap.size < w1.heap.size + 1 := by omega
  have k1 : w.heap.size + 1 < w1.heap.size := by omega
  have m1 : w.heap.size + 1 < w1.heap.size + 1 := by omega
  have k2 : w.heap.size + 1 + 1 < w1.heap.size := by omega
  have m2 : w.heap.size + 1 + 1 < w1.heap.size + 1 := by omega
  go_wp2_with fail
  refine (H0.out _ (HH.out.up (by (first | exact HB.out | exact HB.out.drew | exact HB.out.alloc HB.out.size _ | exact (HB.out.alloc HB.out.size _).drew | exact (HB.out.alloc HB.out.size _).alloc (Nat.le_trans HB.out.size (by simp)) _ | exact ((HB.out.alloc HB.out.size _).alloc (Nat.le_trans HB.out.size (by simp)) _).alloc (Nat.le_trans HB.out.size (by simp; omega)) _)))).mono ?_
  rintro e w2 ⟨rfl, hB⟩
  (have HBn : Below w.heap.size w w2 := below_lift (by (first | exact HB.out | exact HB.out.drew | exact HB.out.alloc HB.out.size _ | exact (HB.out.alloc HB.out.size _).drew | exact (HB.out.alloc HB.out.size _).alloc (Nat.le_trans HB.out.size (by simp)) _ | exact ((HB.out.alloc HB.out.size _).alloc (Nat.le_trans HB.out.size (by simp)) _).alloc (Nat.le_trans HB.out.size (by simp; omega)) _)) hB; obtain ⟨hc, hf⟩ := below_cell hB; have zz := hB.size; (try simp at zz); have HB := Lib.hid HBn; clear HBn hB)
  have k0 : w.heap.size < w2.heap.size := by omega
  have m0 : w.heap.size < w2.heap.size + 1 := by omega
  have k1 : w.heap.size + 1 < w2.heap.size := by omega
  have m1 : w.heap.size + 1 < w2.heap.size + 1 := by omega
  have k2 : w.heap.size + 1 + 1 < w2.heap.size := by omega
  have m2 : w.heap.size + 1 + 1 < w2.heap.size + 1 := by omega
  go_wp2_with fail
  refine (H1.out _).mono ?_
  rintro e w3 ⟨rfl, hB⟩
  (have HBn : Below w.heap.size w w3 := below_lift (by (first | exact HB.out | exact HB.out.drew | exact HB.out.alloc HB.out.size _ | exact (HB.out.alloc HB.out.size _).drew | exact (HB.out.alloc HB.out.size _).alloc (Nat.le_trans HB.out.size (by simp)) _ | exact ((HB.out.alloc HB.out.size _).alloc (Nat.le_trans HB.out.size (by simp)) _).alloc (Nat.le_trans HB.out.size (by simp; omega)) _)) hB; obtain ⟨hc, hf⟩ := below_cell hB; have zz := hB.size; (try simp at zz); have HB := Lib.hid HBn; clear HBn hB)
  have k0 : w.heap.size < w3.heap.size := by omega
  have m0 : w.heap.size < w3.heap.size + 1 := by omega
  have k1 : w.heap.size + 1 < w3.heap.size := by omega
  have m1 : w.heap.size + 1 < w3.heap.size + 1 := by omega
  have k2 : w.heap.size + 1 + 1 < w3.heap.size := by omega
  have m2 : w.heap.size + 1 + 1 < w3.heap.size + 1 := by omega
  have k3 : w2.heap.size < w3.heap.size := by omega
  have m3 : w2.heap.size < w3.heap.size + 1 := by omega
  go_wp2_with fail
  refine (H2.out _).mono ?_
  rintro e w4 ⟨rfl, hB⟩
  (have HBn : Below w.heap.size w w4 := below_lift (by (first | exact HB.out | exact HB.out.drew | exact HB.out.alloc HB.out.size _ | exact (HB.out.alloc HB.out.size _).drew | exact (HB.out.alloc HB.out.size _).alloc (Nat.le_trans HB.out.size (by simp)) _ | exact ((HB.out.alloc HB.out.size _).alloc (Nat.le_trans HB.out.size (by simp)) _).alloc (Nat.le_trans HB.out.size (by simp; omega)) _)) hB; obtain ⟨hc, hf⟩ := below_cell hB; have zz := hB.size; (try simp at zz); have HB := Lib.hid HBn; clear HBn hB)
  have k0 : w.heap.size < w4.heap.size := by omega
  have m0 : w.heap.size < w4.heap.size + 1 := by omega
  have k1 : w.heap.size + 1 < w4.heap.size := by omega
  have m1 : w.heap.size + 1 < w4.heap.size + 1 := by omega
  have k2 : w.heap.size + 1 + 1 < w4.heap.size := by omega
  have m2 : w.heap.size + 1 + 1 < w4.heap.size + 1 := by omega
  have k3 : w2.heap.size < w4.heap.size := by omega
  have m3 : w2.heap.size < w4.heap.size + 1 := by omega
  go_wp2_with fail
  go_ret
  exact ⟨rfl, by (first | exact HB.out | exact HB.out.drew | exact HB.out.alloc HB.out.size _ | exact (HB.out.alloc HB.out.size _).drew | exact (HB.out.alloc HB.out.size _).alloc (Nat.le_trans HB.out.size (by simp)) _ | exact ((HB.out.alloc HB.out.size _).alloc (Nat.le_trans HB.out.size (by simp)) _).alloc (Nat.le_trans HB.out.size (by simp; omega)) _)⟩

set_option maxHeartbeats 4000000 in
theorem meets_ok1 (a b c x : Lab) (w : World) (hh : Handle w) (h0 : MeetIs a b x 0) (h1 : UnderIs x a true) (h2 : UnderIs x b true) (h3 : UnderIs c a false) :
    Calls Tryd.prog 4 #[.agg #[.int .i64 a.lv, .int .u64 (u a.c), .int .i64 a.ig], .agg #[.int .i64 b.lv, .int .u64 (u b.c), .int .i64 b.ig], .agg #[.int .i64 c.lv, .int .u64 (u c.c), .int .i64 c.ig]] w (Yes w) := by
  have H0 := Lib.hid h0
  clear h0
  have H1 := Lib.hid h1
  clear h1
  have H2 := Lib.hid h2
  clear h2
  have H3 := Lib.hid h3
  clear h3
  have HH := Lib.hid hh
  clear hh
  have HB := Lib.hid (Below.refl w.heap.size w)
  go_enter Tryd.func4, Tryd.ntmps4
  go_wp2_with fail
  refine (shown_any _ (HH.out.up (by (first | exact HB.out | exact HB.out.drew | exact HB.out.alloc HB.out.size _ | exact (HB.out.alloc HB.out.size _).drew | exact (HB.out.alloc HB.out.size _).alloc (Nat.le_trans HB.out.size (by simp)) _ | exact ((HB.out.alloc HB.out.size _).alloc (Nat.le_trans HB.out.size (by simp)) _).alloc (Nat.le_trans HB.out.size (by simp; omega)) _)))).mono ?_
  rintro e w1 ⟨rfl, hB⟩
  (have HBn : Below w.heap.size w w1 := below_lift (by (first | exact HB.out | exact HB.out.drew | exact HB.out.alloc HB.out.size _ | exact (HB.out.alloc HB.out.size _).drew | exact (HB.out.alloc HB.out.size _).alloc (Nat.le_trans HB.out.size (by simp)) _ | exact ((HB.out.alloc HB.out.size _).alloc (Nat.le_trans HB.out.size (by simp)) _).alloc (Nat.le_trans HB.out.size (by simp; omega)) _)) hB; obtain ⟨hc, hf⟩ := below_cell hB; have zz := hB.size; (try simp at zz); have HB := Lib.hid HBn; clear HBn hB)
  have k0 : w.heap.size < w1.heap.size := by omega
  have m0 : w.heap.size < w1.heap.size + 1 := by omega
  have k1 : w.heap.size + 1 < w1.heap.size := by omega
  have m1 : w.heap.size + 1 < w1.heap.size + 1 := by omega
  have k2 : w.heap.size + 1 + 1 < w1.heap.size := by omega
  have m2 : w.heap.size + 1 + 1 < w1.heap.size + 1 := by omega
  go_wp2_with fail
  refine (H0.out _ (HH.out.up (by (first | exact HB.out | exact HB.out.drew | exact HB.out.alloc HB.out.size _ | exact (HB.out.alloc HB.out.size _).drew | exact (HB.out.alloc HB.out.size _).alloc (Nat.le_trans HB.out.size (by simp)) _ | exact ((HB.out.alloc HB.out.size _).alloc (Nat.le_trans HB.out.size (by simp)) _).alloc (Nat.le_trans HB.out.size (by simp; omega)) _)))).mono ?_
  rintro e w2 ⟨rfl, hB⟩
  (have HBn : Below w.heap.size w w2 := below_lift (by (first | exact HB.out | exact HB.out.drew | exact HB.out.alloc HB.out.size _ | exact (HB.out.alloc HB.out.size _).drew | exact (HB.out.alloc HB.out.size _).alloc (Nat.le_trans HB.out.size (by simp)) _ | exact ((HB.out.alloc HB.out.size _).alloc (Nat.le_trans HB.out.size (by simp)) _).alloc (Nat.le_trans HB.out.size (by simp; omega)) _)) hB; obtain ⟨hc, hf⟩ := below_cell hB; have zz := hB.size; (try simp at zz); have HB := Lib.hid HBn; clear HBn hB)
  have k0 : w.heap.size < w2.heap.size := by omega
  have m0 : w.heap.size < w2.heap.size + 1 := by omega
  have k1 : w.heap.size + 1 < w2.heap.size := by omega
  have m1 : w.heap.size + 1 < w2.heap.size + 1 := by omega
  have k2 : w.heap.size + 1 + 1 < w2.heap.size := by omega
  have m2 : w.heap.size + 1 + 1 < w2.heap.size + 1 := by omega
  go_wp2_with fail
  refine (H1.out _).mono ?_
  rintro e w3 ⟨rfl, hB⟩
  (have HBn : Below w.heap.size w w3 := below_lift (by (first | exact HB.out | exact HB.out.drew | exact HB.out.alloc HB.out.size _ | exact (HB.out.alloc HB.out.size _).drew | exact (HB.out.alloc HB.out.size _).alloc (Nat.le_trans HB.out.size (by simp)) _ | exact ((HB.out.alloc HB.out.size _).alloc (Nat.le_trans HB.out.size (by simp)) _).alloc (Nat.le_trans HB.out.size (by simp; omega)) _)) hB; obtain ⟨hc, hf⟩ := below_cell hB; have zz := hB.size; (try simp at zz); have HB := Lib.hid HBn; clear HBn hB)
  have k0 : w.heap.size < w3.heap.size := by omega
  have m0 : w.heap.size < w3.heap.size + 1 := by omega
  have k1 : w.heap.size + 1 < w3.heap.size := by omega
  have m1 : w.heap.size + 1 < w3.heap.size + 1 := by omega
  have k2 : w.heap.size + 1 + 1 < w3.heap.size := by omega
  have m2 : w.heap.size + 1 + 1 < w3.heap.size + 1 := by omega
  have k3 : w2.heap.size < w3.heap.size := by omega
  have m3 : w2.heap.size < w3.heap.size + 1 := by omega
  go_wp2_with fail
  refine (H2.out _).mono ?_
  rintro e w4 ⟨rfl, hB⟩
  (have HBn : Below w.heap.size w w4 := below_lift (by (first | exact HB.out | exact HB.out.drew | exact HB.out.alloc HB.out.size _ | exact (HB.out.alloc HB.out.size _).drew | exact (HB.out.alloc HB.out.size _).alloc (Nat.le_trans HB.out.size (by simp)) _ | exact ((HB.out.alloc HB.out.size _).alloc (Nat.le_trans HB.out.size (by simp)) _).alloc (Nat.le_trans HB.out.size (by simp; omega)) _)) hB; obtain ⟨hc, hf⟩ := below_cell hB; have zz := hB.size; (try simp at zz); have HB := Lib.hid HBn; clear HBn hB)
  have k0 : w.heap.size < w4.heap.size := by omega
  have m0 : w.heap.size < w4.heap.size + 1 := by omega
  have k1 : w.heap.size + 1 < w4.heap.size := by omega
  have m1 : w.heap.size + 1 < w4.heap.size + 1 := by omega
  have k2 : w.heap.size + 1 + 1 < w4.heap.size := by omega
  have m2 : w.heap.size + 1 + 1 < w4.heap.size + 1 := by omega
  have k3 : w2.heap.size < w4.heap.size := by omega
  have m3 : w2.heap.size < w4.heap.size + 1 := by omega
  go_wp2_with fail
  refine (H3.out _).mono ?_
  rintro e w5 ⟨rfl, hB⟩
  (have HBn : Below w.heap.size w w5 := below_lift (by (first | exact HB.out | exact HB.out.drew | exact HB.out.alloc HB.out.size _ | exact (HB.out.alloc HB.out.size _).drew | exact (HB.out.alloc HB.out.size _).alloc (Nat.le_trans HB.out.size (by simp)) _ | exact ((HB.out.alloc HB.out.size _).alloc (Nat.le_trans HB.out.size (by simp)) _).alloc (Nat.le_trans HB.out.size (by simp; omega)) _)) hB; obtain ⟨hc, hf⟩ := below_cell hB; have zz := hB.size; (try simp at zz); have HB := Lib.hid HBn; clear HBn hB)
  have k0 : w.heap.size < w5.heap.size := by omega
  have m0 : w.heap.size < w5.heap.size + 1 := by omega
  have k1 : w.heap.size + 1 < w5.heap.size := by omega
  have m1 : w.heap.size + 1 < w5.heap.size + 1 := by omega
  have k2 : w.heap.size + 1 + 1 < w5.heap.size := by omega
  have m2 : w.heap.size + 1 + 1 < w5.heap.size + 1 := by omega
  have k3 : w2.heap.size < w5.heap.size := by omega
  have m3 : w2.heap.size < w5.heap.size + 1 := by omega
  go_wp2_with fail
  go_ret
  exact ⟨rfl, by (first | exact HB.out | exact HB.out.drew | exact HB.out.alloc HB.out.size _ | exact (HB.out.alloc HB.out.size _).drew | exact (HB.out.alloc HB.out.size _).alloc (Nat.le_trans HB.out.size (by simp)) _ | exact ((HB.out.alloc HB.out.size _).alloc (Nat.le_trans HB.out.size (by simp)) _).alloc (Nat.le_trans HB.out.size (by simp; omega)) _)⟩

set_option maxHeartbeats 4000000 in
theorem meets_ok2 (a b c x : Lab) (w : World) (hh : Handle w) (h0 : MeetIs a b x 0) (h1 : UnderIs x a true) (h2 : UnderIs x b true) (h3 : UnderIs c a true) (h4 : UnderIs c b false) :
    Calls Tryd.prog 4 #[.agg #[.int .i64 a.lv, .int .u64 (u a.c), .int .i64 a.ig], .agg #[.int .i64 b.lv, .int .u64 (u b.c), .int .i64 b.ig], .agg #[.int .i64 c.lv, .int .u64 (u c.c), .int .i64 c.ig]] w (Yes w) := by
  have H0 := Lib.hid h0
  clear h0
  have H1 := Lib.hid h1
  clear h1
  have H2 := Lib.hid h2
  clear h2
  have H3 := Lib.hid h3
  clear h3
  have H4 := Lib.hid h4
  clear h4
  have HH := Lib.hid hh
  clear hh
  have HB := Lib.hid (Below.refl w.heap.size w)
  go_enter Tryd.func4, Tryd.ntmps4
  go_wp2_with fail
  refine (shown_any _ (HH.out.up (by (first | exact HB.out | exact HB.out.drew | exact HB.out.alloc HB.out.size _ | exact (HB.out.alloc HB.out.size _).drew | exact (HB.out.alloc HB.out.size _).alloc (Nat.le_trans HB.out.size (by simp)) _ | exact ((HB.out.alloc HB.out.size _).alloc (Nat.le_trans HB.out.size (by simp)) _).alloc (Nat.le_trans HB.out.size (by simp; omega)) _)))).mono ?_
  rintro e w1 ⟨rfl, hB⟩
  (have HBn : Below w.heap.size w w1 := below_lift (by (first | exact HB.out | exact HB.out.drew | exact HB.out.alloc HB.out.size _ | exact (HB.out.alloc HB.out.size _).drew | exact (HB.out.alloc HB.out.size _).alloc (Nat.le_trans HB.out.size (by simp)) _ | exact ((HB.out.alloc HB.out.size _).alloc (Nat.le_trans HB.out.size (by simp)) _).alloc (Nat.le_trans HB.out.size (by simp; omega)) _)) hB; obtain ⟨hc, hf⟩ := below_cell hB; have zz := hB.size; (try simp at zz); have HB := Lib.hid HBn; clear HBn hB)
  have k0 : w.heap.size < w1.heap.size := by omega
  have m0 : w.heap.size < w1.heap.size + 1 := by omega
  have k1 : w.heap.size + 1 < w1.heap.size := by omega
  have m1 : w.heap.size + 1 < w1.heap.size + 1 := by omega
  have k2 : w.heap.size + 1 + 1 < w1.heap.size := by omega
  have m2 : w.heap.size + 1 + 1 < w1.heap.size + 1 := by omega
  go_wp2_with fail
  refine (H0.out _ (HH.out.up (by (first | exact HB.out | exact HB.out.drew | exact HB.out.alloc HB.out.size _ | exact (HB.out.alloc HB.out.size _).drew | exact (HB.out.alloc HB.out.size _).alloc (Nat.le_trans HB.out.size (by simp)) _ | exact ((HB.out.alloc HB.out.size _).alloc (Nat.le_trans HB.out.size (by simp)) _).alloc (Nat.le_trans HB.out.size (by simp; omega)) _)))).mono ?_
  rintro e w2 ⟨rfl, hB⟩
  (have HBn : Below w.heap.size w w2 := below_lift (by (first | exact HB.out | exact HB.out.drew | exact HB.out.alloc HB.out.size _ | exact (HB.out.alloc HB.out.size _).drew | exact (HB.out.alloc HB.out.size _).alloc (Nat.le_trans HB.out.size (by simp)) _ | exact ((HB.out.alloc HB.out.size _).alloc (Nat.le_trans HB.out.size (by simp)) _).alloc (Nat.le_trans HB.out.size (by simp; omega)) _)) hB; obtain ⟨hc, hf⟩ := below_cell hB; have zz := hB.size; (try simp at zz); have HB := Lib.hid HBn; clear HBn hB)
  have k0 : w.heap.size < w2.heap.size := by omega
  have m0 : w.heap.size < w2.heap.size + 1 := by omega
  have k1 : w.heap.size + 1 < w2.heap.size := by omega
  have m1 : w.heap.size + 1 < w2.heap.size + 1 := by omega
  have k2 : w.heap.size + 1 + 1 < w2.heap.size := by omega
  have m2 : w.heap.size + 1 + 1 < w2.heap.size + 1 := by omega
  go_wp2_with fail
  refine (H1.out _).mono ?_
  rintro e w3 ⟨rfl, hB⟩
  (have HBn : Below w.heap.size w w3 := below_lift (by (first | exact HB.out | exact HB.out.drew | exact HB.out.alloc HB.out.size _ | exact (HB.out.alloc HB.out.size _).drew | exact (HB.out.alloc HB.out.size _).alloc (Nat.le_trans HB.out.size (by simp)) _ | exact ((HB.out.alloc HB.out.size _).alloc (Nat.le_trans HB.out.size (by simp)) _).alloc (Nat.le_trans HB.out.size (by simp; omega)) _)) hB; obtain ⟨hc, hf⟩ := below_cell hB; have zz := hB.size; (try simp at zz); have HB := Lib.hid HBn; clear HBn hB)
  have k0 : w.heap.size < w3.heap.size := by omega
  have m0 : w.heap.size < w3.heap.size + 1 := by omega
  have k1 : w.heap.size + 1 < w3.heap.size := by omega
  have m1 : w.heap.size + 1 < w3.heap.size + 1 := by omega
  have k2 : w.heap.size + 1 + 1 < w3.heap.size := by omega
  have m2 : w.heap.size + 1 + 1 < w3.heap.size + 1 := by omega
  have k3 : w2.heap.size < w3.heap.size := by omega
  have m3 : w2.heap.size < w3.heap.size + 1 := by omega
  go_wp2_with fail
  refine (H2.out _).mono ?_
  rintro e w4 ⟨rfl, hB⟩
  (have HBn : Below w.heap.size w w4 := below_lift (by (first | exact HB.out | exact HB.out.drew | exact HB.out.alloc HB.out.size _ | exact (HB.out.alloc HB.out.size _).drew | exact (HB.out.alloc HB.out.size _).alloc (Nat.le_trans HB.out.size (by simp)) _ | exact ((HB.out.alloc HB.out.size _).alloc (Nat.le_trans HB.out.size (by simp)) _).alloc (Nat.le_trans HB.out.size (by simp; omega)) _)) hB; obtain ⟨hc, hf⟩ := below_cell hB; have zz := hB.size; (try simp at zz); have HB := Lib.hid HBn; clear HBn hB)
  have k0 : w.heap.size < w4.heap.size := by omega
  have m0 : w.heap.size < w4.heap.size + 1 := by omega
  have k1 : w.heap.size + 1 < w4.heap.size := by omega
  have m1 : w.heap.size + 1 < w4.heap.size + 1 := by omega
  have k2 : w.heap.size + 1 + 1 < w4.heap.size := by omega
  have m2 : w.heap.size + 1 + 1 < w4.heap.size + 1 := by omega
  have k3 : w2.heap.size < w4.heap.size := by omega
  have m3 : w2.heap.size < w4.heap.size + 1 := by omega
  go_wp2_with fail
  refine (H3.out _).mono ?_
  rintro e w5 ⟨rfl, hB⟩
  (have HBn : Below w.heap.size w w5 := below_lift (by (first | exact HB.out | exact HB.out.drew | exact HB.out.alloc HB.out.size _ | exact (HB.out.alloc HB.out.size _).drew | exact (HB.out.alloc HB.out.size _).alloc (Nat.le_trans HB.out.size (by simp)) _ | exact ((HB.out.alloc HB.out.size _).alloc (Nat.le_trans HB.out.size (by simp)) _).alloc (Nat.le_trans HB.out.size (by simp; omega)) _)) hB; obtain ⟨hc, hf⟩ := below_cell hB; have zz := hB.size; (try simp at zz); have HB := Lib.hid HBn; clear HBn hB)
  have k0 : w.heap.size < w5.heap.size := by omega
  have m0 : w.heap.size < w5.heap.size + 1 := by omega
  have k1 : w.heap.size + 1 < w5.heap.size := by omega
  have m1 : w.heap.size + 1 < w5.heap.size + 1 := by omega
  have k2 : w.heap.size + 1 + 1 < w5.heap.size := by omega
  have m2 : w.heap.size + 1 + 1 < w5.heap.size + 1 := by omega
  have k3 : w2.heap.size < w5.heap.size := by omega
  have m3 : w2.heap.size < w5.heap.size + 1 := by omega
  go_wp2_with fail
  refine (H4.out _).mono ?_
  rintro e w6 ⟨rfl, hB⟩
  (have HBn : Below w.heap.size w w6 := below_lift (by (first | exact HB.out | exact HB.out.drew | exact HB.out.alloc HB.out.size _ | exact (HB.out.alloc HB.out.size _).drew | exact (HB.out.alloc HB.out.size _).alloc (Nat.le_trans HB.out.size (by simp)) _ | exact ((HB.out.alloc HB.out.size _).alloc (Nat.le_trans HB.out.size (by simp)) _).alloc (Nat.le_trans HB.out.size (by simp; omega)) _)) hB; obtain ⟨hc, hf⟩ := below_cell hB; have zz := hB.size; (try simp at zz); have HB := Lib.hid HBn; clear HBn hB)
  have k0 : w.heap.size < w6.heap.size := by omega
  have m0 : w.heap.size < w6.heap.size + 1 := by omega
  have k1 : w.heap.size + 1 < w6.heap.size := by omega
  have m1 : w.heap.size + 1 < w6.heap.size + 1 := by omega
  have k2 : w.heap.size + 1 + 1 < w6.heap.size := by omega
  have m2 : w.heap.size + 1 + 1 < w6.heap.size + 1 := by omega
  have k3 : w2.heap.size < w6.heap.size := by omega
  have m3 : w2.heap.size < w6.heap.size + 1 := by omega
  go_wp2_with fail
  go_ret
  exact ⟨rfl, by (first | exact HB.out | exact HB.out.drew | exact HB.out.alloc HB.out.size _ | exact (HB.out.alloc HB.out.size _).drew | exact (HB.out.alloc HB.out.size _).alloc (Nat.le_trans HB.out.size (by simp)) _ | exact ((HB.out.alloc HB.out.size _).alloc (Nat.le_trans HB.out.size (by simp)) _).alloc (Nat.le_trans HB.out.size (by simp; omega)) _)⟩

set_option maxHeartbeats 4000000 in
theorem meets_ok3 (a b c x : Lab) (w : World) (hh : Handle w) (h0 : MeetIs a b x 0) (h1 : UnderIs x a true) (h2 : UnderIs x b true) (h3 : UnderIs c a true) (h4 : UnderIs c b true) (h5 : UnderIs c x true) :
    Calls Tryd.prog 4 #[.agg #[.int .i64 a.lv, .int .u64 (u a.c), .int .i64 a.ig], .agg #[.int .i64 b.lv, .int .u64 (u b.c), .int .i64 b.ig], .agg #[.int .i64 c.lv, .int .u64 (u c.c), .int .i64 c.ig]] w (Yes w) := by
  have H0 := Lib.hid h0
  clear h0
  have H1 := Lib.hid h1
  clear h1
  have H2 := Lib.hid h2
  clear h2
  have H3 := Lib.hid h3
  clear h3
  have H4 := Lib.hid h4
  clear h4
  have H5 := Lib.hid h5
  clear h5
  have HH := Lib.hid hh
  clear hh
  have HB := Lib.hid (Below.refl w.heap.size w)
  go_enter Tryd.func4, Tryd.ntmps4
  go_wp2_with fail
  refine (shown_any _ (HH.out.up (by (first | exact HB.out | exact HB.out.drew | exact HB.out.alloc HB.out.size _ | exact (HB.out.alloc HB.out.size _).drew | exact (HB.out.alloc HB.out.size _).alloc (Nat.le_trans HB.out.size (by simp)) _ | exact ((HB.out.alloc HB.out.size _).alloc (Nat.le_trans HB.out.size (by simp)) _).alloc (Nat.le_trans HB.out.size (by simp; omega)) _)))).mono ?_
  rintro e w1 ⟨rfl, hB⟩
  (have HBn : Below w.heap.size w w1 := below_lift (by (first | exact HB.out | exact HB.out.drew | exact HB.out.alloc HB.out.size _ | exact (HB.out.alloc HB.out.size _).drew | exact (HB.out.alloc HB.out.size _).alloc (Nat.le_trans HB.out.size (by simp)) _ | exact ((HB.out.alloc HB.out.size _).alloc (Nat.le_trans HB.out.size (by simp)) _).alloc (Nat.le_trans HB.out.size (by simp; omega)) _)) hB; obtain ⟨hc, hf⟩ := below_cell hB; have zz := hB.size; (try simp at zz); have HB := Lib.hid HBn; clear HBn hB)
  have k0 : w.heap.size < w1.heap.size := by omega
  have m0 : w.heap.size < w1.heap.size + 1 := by omega
  have k1 : w.heap.size + 1 < w1.heap.size := by omega
  have m1 : w.heap.size + 1 < w1.heap.size + 1 := by omega
  have k2 : w.heap.size + 1 + 1 < w1.heap.size := by omega
  have m2 : w.heap.size + 1 + 1 < w1.heap.size + 1 := by omega
  go_wp2_with fail
  refine (H0.out _ (HH.out.up (by (first | exact HB.out | exact HB.out.drew | exact HB.out.alloc HB.out.size _ | exact (HB.out.alloc HB.out.size _).drew | exact (HB.out.alloc HB.out.size _).alloc (Nat.le_trans HB.out.size (by simp)) _ | exact ((HB.out.alloc HB.out.size _).alloc (Nat.le_trans HB.out.size (by simp)) _).alloc (Nat.le_trans HB.out.size (by simp; omega)) _)))).mono ?_
  rintro e w2 ⟨rfl, hB⟩
  (have HBn : Below w.heap.size w w2 := below_lift (by (first | exact HB.out | exact HB.out.drew | exact HB.out.alloc HB.out.size _ | exact (HB.out.alloc HB.out.size _).drew | exact (HB.out.alloc HB.out.size _).alloc (Nat.le_trans HB.out.size (by simp)) _ | exact ((HB.out.alloc HB.out.size _).alloc (Nat.le_trans HB.out.size (by simp)) _).alloc (Nat.le_trans HB.out.size (by simp; omega)) _)) hB; obtain ⟨hc, hf⟩ := below_cell hB; have zz := hB.size; (try simp at zz); have HB := Lib.hid HBn; clear HBn hB)
  have k0 : w.heap.size < w2.heap.size := by omega
  have m0 : w.heap.size < w2.heap.size + 1 := by omega
  have k1 : w.heap.size + 1 < w2.heap.size := by omega
  have m1 : w.heap.size + 1 < w2.heap.size + 1 := by omega
  have k2 : w.heap.size + 1 + 1 < w2.heap.size := by omega
  have m2 : w.heap.size + 1 + 1 < w2.heap.size + 1 := by omega
  go_wp2_with fail
  refine (H1.out _).mono ?_
  rintro e w3 ⟨rfl, hB⟩
  (have HBn : Below w.heap.size w w3 := below_lift (by (first | exact HB.out | exact HB.out.drew | exact HB.out.alloc HB.out.size _ | exact (HB.out.alloc HB.out.size _).drew | exact (HB.out.alloc HB.out.size _).alloc (Nat.le_trans HB.out.size (by simp)) _ | exact ((HB.out.alloc HB.out.size _).alloc (Nat.le_trans HB.out.size (by simp)) _).alloc (Nat.le_trans HB.out.size (by simp; omega)) _)) hB; obtain ⟨hc, hf⟩ := below_cell hB; have zz := hB.size; (try simp at zz); have HB := Lib.hid HBn; clear HBn hB)
  have k0 : w.heap.size < w3.heap.size := by omega
  have m0 : w.heap.size < w3.heap.size + 1 := by omega
  have k1 : w.heap.size + 1 < w3.heap.size := by omega
  have m1 : w.heap.size + 1 < w3.heap.size + 1 := by omega
  have k2 : w.heap.size + 1 + 1 < w3.heap.size := by omega
  have m2 : w.heap.size + 1 + 1 < w3.heap.size + 1 := by omega
  have k3 : w2.heap.size < w3.heap.size := by omega
  have m3 : w2.heap.size < w3.heap.size + 1 := by omega
  go_wp2_with fail
  refine (H2.out _).mono ?_
  rintro e w4 ⟨rfl, hB⟩
  (have HBn : Below w.heap.size w w4 := below_lift (by (first | exact HB.out | exact HB.out.drew | exact HB.out.alloc HB.out.size _ | exact (HB.out.alloc HB.out.size _).drew | exact (HB.out.alloc HB.out.size _).alloc (Nat.le_trans HB.out.size (by simp)) _ | exact ((HB.out.alloc HB.out.size _).alloc (Nat.le_trans HB.out.size (by simp)) _).alloc (Nat.le_trans HB.out.size (by simp; omega)) _)) hB; obtain ⟨hc, hf⟩ := below_cell hB; have zz := hB.size; (try simp at zz); have HB := Lib.hid HBn; clear HBn hB)
  have k0 : w.heap.size < w4.heap.size := by omega
  have m0 : w.heap.size < w4.heap.size + 1 := by omega
  have k1 : w.heap.size + 1 < w4.heap.size := by omega
  have m1 : w.heap.size + 1 < w4.heap.size + 1 := by omega
  have k2 : w.heap.size + 1 + 1 < w4.heap.size := by omega
  have m2 : w.heap.size + 1 + 1 < w4.heap.size + 1 := by omega
  have k3 : w2.heap.size < w4.heap.size := by omega
  have m3 : w2.heap.size < w4.heap.size + 1 := by omega
  go_wp2_with fail
  refine (H3.out _).mono ?_
  rintro e w5 ⟨rfl, hB⟩
  (have HBn : Below w.heap.size w w5 := below_lift (by (first | exact HB.out | exact HB.out.drew | exact HB.out.alloc HB.out.size _ | exact (HB.out.alloc HB.out.size _).drew | exact (HB.out.alloc HB.out.size _).alloc (Nat.le_trans HB.out.size (by simp)) _ | exact ((HB.out.alloc HB.out.size _).alloc (Nat.le_trans HB.out.size (by simp)) _).alloc (Nat.le_trans HB.out.size (by simp; omega)) _)) hB; obtain ⟨hc, hf⟩ := below_cell hB; have zz := hB.size; (try simp at zz); have HB := Lib.hid HBn; clear HBn hB)
  have k0 : w.heap.size < w5.heap.size := by omega
  have m0 : w.heap.size < w5.heap.size + 1 := by omega
  have k1 : w.heap.size + 1 < w5.heap.size := by omega
  have m1 : w.heap.size + 1 < w5.heap.size + 1 := by omega
  have k2 : w.heap.size + 1 + 1 < w5.heap.size := by omega
  have m2 : w.heap.size + 1 + 1 < w5.heap.size + 1 := by omega
  have k3 : w2.heap.size < w5.heap.size := by omega
  have m3 : w2.heap.size < w5.heap.size + 1 := by omega
  go_wp2_with fail
  refine (H4.out _).mono ?_
  rintro e w6 ⟨rfl, hB⟩
  (have HBn : Below w.heap.size w w6 := below_lift (by (first | exact HB.out | exact HB.out.drew | exact HB.out.alloc HB.out.size _ | exact (HB.out.alloc HB.out.size _).drew | exact (HB.out.alloc HB.out.size _).alloc (Nat.le_trans HB.out.size (by simp)) _ | exact ((HB.out.alloc HB.out.size _).alloc (Nat.le_trans HB.out.size (by simp)) _).alloc (Nat.le_trans HB.out.size (by simp; omega)) _)) hB; obtain ⟨hc, hf⟩ := below_cell hB; have zz := hB.size; (try simp at zz); have HB := Lib.hid HBn; clear HBn hB)
  have k0 : w.heap.size < w6.heap.size := by omega
  have m0 : w.heap.size < w6.heap.size + 1 := by omega
  have k1 : w.heap.size + 1 < w6.heap.size := by omega
  have m1 : w.heap.size + 1 < w6.heap.size + 1 := by omega
  have k2 : w.heap.size + 1 + 1 < w6.heap.size := by omega
  have m2 : w.heap.size + 1 + 1 < w6.heap.size + 1 := by omega
  have k3 : w2.heap.size < w6.heap.size := by omega
  have m3 : w2.heap.size < w6.heap.size + 1 := by omega
  go_wp2_with fail
  refine (H5.out _).mono ?_
  rintro e w7 ⟨rfl, hB⟩
  (have HBn : Below w.heap.size w w7 := below_lift (by (first | exact HB.out | exact HB.out.drew | exact HB.out.alloc HB.out.size _ | exact (HB.out.alloc HB.out.size _).drew | exact (HB.out.alloc HB.out.size _).alloc (Nat.le_trans HB.out.size (by simp)) _ | exact ((HB.out.alloc HB.out.size _).alloc (Nat.le_trans HB.out.size (by simp)) _).alloc (Nat.le_trans HB.out.size (by simp; omega)) _)) hB; obtain ⟨hc, hf⟩ := below_cell hB; have zz := hB.size; (try simp at zz); have HB := Lib.hid HBn; clear HBn hB)
  have k0 : w.heap.size < w7.heap.size := by omega
  have m0 : w.heap.size < w7.heap.size + 1 := by omega
  have k1 : w.heap.size + 1 < w7.heap.size := by omega
  have m1 : w.heap.size + 1 < w7.heap.size + 1 := by omega
  have k2 : w.heap.size + 1 + 1 < w7.heap.size := by omega
  have m2 : w.heap.size + 1 + 1 < w7.heap.size + 1 := by omega
  have k3 : w2.heap.size < w7.heap.size := by omega
  have m3 : w2.heap.size < w7.heap.size + 1 := by omega
  go_wp2_with fail
  go_ret
  exact ⟨rfl, by (first | exact HB.out | exact HB.out.drew | exact HB.out.alloc HB.out.size _ | exact (HB.out.alloc HB.out.size _).drew | exact (HB.out.alloc HB.out.size _).alloc (Nat.le_trans HB.out.size (by simp)) _ | exact ((HB.out.alloc HB.out.size _).alloc (Nat.le_trans HB.out.size (by simp)) _).alloc (Nat.le_trans HB.out.size (by simp; omega)) _)⟩

set_option maxHeartbeats 4000000 in
theorem turns_bad (a b c x y p z q s t r : Lab) (g m h k : Int) (w : World) (hh : Handle w) (h0 : JoinIs a b x 20) (h1 : JoinIs b a y 20) (h2 : JoinIs x c p g) (h3 : JoinIs b c z m) (h4 : JoinIs a z q h) (h5 : MeetIs a b s 20) (h6 : MeetIs b a t 20) (h7 : JoinIs a s r k) :
    Calls Tryd.prog 5 #[.agg #[.int .i64 a.lv, .int .u64 (u a.c), .int .i64 a.ig], .agg #[.int .i64 b.lv, .int .u64 (u b.c), .int .i64 b.ig], .agg #[.int .i64 c.lv, .int .u64 (u c.c), .int .i64 c.ig]] w (Yes w) := by
  have H0 := Lib.hid h0
  clear h0
  have H1 := Lib.hid h1
  clear h1
  have H2 := Lib.hid h2
  clear h2
  have H3 := Lib.hid h3
  clear h3
  have H4 := Lib.hid h4
  clear h4
  have H5 := Lib.hid h5
  clear h5
  have H6 := Lib.hid h6
  clear h6
  have H7 := Lib.hid h7
  clear h7
  have HH := Lib.hid hh
  clear hh
  have HB := Lib.hid (Below.refl w.heap.size w)
  go_enter Tryd.func5, Tryd.ntmps5
  go_wp2_with fail
  refine (shown_any _ (HH.out.up (by (first | exact HB.out | exact HB.out.drew | exact HB.out.alloc HB.out.size _ | exact (HB.out.alloc HB.out.size _).drew | exact (HB.out.alloc HB.out.size _).alloc (Nat.le_trans HB.out.size (by simp)) _ | exact ((HB.out.alloc HB.out.size _).alloc (Nat.le_trans HB.out.size (by simp)) _).alloc (Nat.le_trans HB.out.size (by simp; omega)) _)))).mono ?_
  rintro e w1 ⟨rfl, hB⟩
  (have HBn : Below w.heap.size w w1 := below_lift (by (first | exact HB.out | exact HB.out.drew | exact HB.out.alloc HB.out.size _ | exact (HB.out.alloc HB.out.size _).drew | exact (HB.out.alloc HB.out.size _).alloc (Nat.le_trans HB.out.size (by simp)) _ | exact ((HB.out.alloc HB.out.size _).alloc (Nat.le_trans HB.out.size (by simp)) _).alloc (Nat.le_trans HB.out.size (by simp; omega)) _)) hB; obtain ⟨hc, hf⟩ := below_cell hB; have zz := hB.size; (try simp at zz); have HB := Lib.hid HBn; clear HBn hB)
  have k0 : w.heap.size < w1.heap.size := by omega
  have m0 : w.heap.size < w1.heap.size + 1 := by omega
  have k1 : w.heap.size + 1 < w1.heap.size := by omega
  have m1 : w.heap.size + 1 < w1.heap.size + 1 := by omega
  have k2 : w.heap.size + 1 + 1 < w1.heap.size := by omega
  have m2 : w.heap.size + 1 + 1 < w1.heap.size + 1 := by omega
  go_wp2_with fail
  refine (H0.out _ (HH.out.up (by (first | exact HB.out | exact HB.out.drew | exact HB.out.alloc HB.out.size _ | exact (HB.out.alloc HB.out.size _).drew | exact (HB.out.alloc HB.out.size _).alloc (Nat.le_trans HB.out.size (by simp)) _ | exact ((HB.out.alloc HB.out.size _).alloc (Nat.le_trans HB.out.size (by simp)) _).alloc (Nat.le_trans HB.out.size (by simp; omega)) _)))).mono ?_
  rintro e w2 ⟨rfl, hB⟩
  (have HBn : Below w.heap.size w w2 := below_lift (by (first | exact HB.out | exact HB.out.drew | exact HB.out.alloc HB.out.size _ | exact (HB.out.alloc HB.out.size _).drew | exact (HB.out.alloc HB.out.size _).alloc (Nat.le_trans HB.out.size (by simp)) _ | exact ((HB.out.alloc HB.out.size _).alloc (Nat.le_trans HB.out.size (by simp)) _).alloc (Nat.le_trans HB.out.size (by simp; omega)) _)) hB; obtain ⟨hc, hf⟩ := below_cell hB; have zz := hB.size; (try simp at zz); have HB := Lib.hid HBn; clear HBn hB)
  have k0 : w.heap.size < w2.heap.size := by omega
  have m0 : w.heap.size < w2.heap.size + 1 := by omega
  have k1 : w.heap.size + 1 < w2.heap.size := by omega
  have m1 : w.heap.size + 1 < w2.heap.size + 1 := by omega
  have k2 : w.heap.size + 1 + 1 < w2.heap.size := by omega
  have m2 : w.heap.size + 1 + 1 < w2.heap.size + 1 := by omega
  go_wp2_with fail
  refine (H1.out _ (HH.out.up (by (first | exact HB.out | exact HB.out.drew | exact HB.out.alloc HB.out.size _ | exact (HB.out.alloc HB.out.size _).drew | exact (HB.out.alloc HB.out.size _).alloc (Nat.le_trans HB.out.size (by simp)) _ | exact ((HB.out.alloc HB.out.size _).alloc (Nat.le_trans HB.out.size (by simp)) _).alloc (Nat.le_trans HB.out.size (by simp; omega)) _)))).mono ?_
  rintro e w3 ⟨rfl, hB⟩
  (have HBn : Below w.heap.size w w3 := below_lift (by (first | exact HB.out | exact HB.out.drew | exact HB.out.alloc HB.out.size _ | exact (HB.out.alloc HB.out.size _).drew | exact (HB.out.alloc HB.out.size _).alloc (Nat.le_trans HB.out.size (by simp)) _ | exact ((HB.out.alloc HB.out.size _).alloc (Nat.le_trans HB.out.size (by simp)) _).alloc (Nat.le_trans HB.out.size (by simp; omega)) _)) hB; obtain ⟨hc, hf⟩ := below_cell hB; have zz := hB.size; (try simp at zz); have HB := Lib.hid HBn; clear HBn hB)
  have k0 : w.heap.size < w3.heap.size := by omega
  have m0 : w.heap.size < w3.heap.size + 1 := by omega
  have k1 : w.heap.size + 1 < w3.heap.size := by omega
  have m1 : w.heap.size + 1 < w3.heap.size + 1 := by omega
  have k2 : w.heap.size + 1 + 1 < w3.heap.size := by omega
  have m2 : w.heap.size + 1 + 1 < w3.heap.size + 1 := by omega
  have k3 : w2.heap.size < w3.heap.size := by omega
  have m3 : w2.heap.size < w3.heap.size + 1 := by omega
  go_wp2_with fail
  refine (H2.out _ (HH.out.up (by (first | exact HB.out | exact HB.out.drew | exact HB.out.alloc HB.out.size _ | exact (HB.out.alloc HB.out.size _).drew | exact (HB.out.alloc HB.out.size _).alloc (Nat.le_trans HB.out.size (by simp)) _ | exact ((HB.out.alloc HB.out.size _).alloc (Nat.le_trans HB.out.size (by simp)) _).alloc (Nat.le_trans HB.out.size (by simp; omega)) _)))).mono ?_
  rintro e w4 ⟨rfl, hB⟩
  (have HBn : Below w.heap.size w w4 := below_lift (by (first | exact HB.out | exact HB.out.drew | exact HB.out.alloc HB.out.size _ | exact (HB.out.alloc HB.out.size _).drew | exact (HB.out.alloc HB.out.size _).alloc (Nat.le_trans HB.out.size (by simp)) _ | exact ((HB.out.alloc HB.out.size _).alloc (Nat.le_trans HB.out.size (by simp)) _).alloc (Nat.le_trans HB.out.size (by simp; omega)) _)) hB; obtain ⟨hc, hf⟩ := below_cell hB; have zz := hB.size; (try simp at zz); have HB := Lib.hid HBn; clear HBn hB)
  have k0 : w.heap.size < w4.heap.size := by omega
  have m0 : w.heap.size < w4.heap.size + 1 := by omega
  have k1 : w.heap.size + 1 < w4.heap.size := by omega
  have m1 : w.heap.size + 1 < w4.heap.size + 1 := by omega
  have k2 : w.heap.size + 1 + 1 < w4.heap.size := by omega
  have m2 : w.heap.size + 1 + 1 < w4.heap.size + 1 := by omega
  have k3 : w2.heap.size < w4.heap.size := by omega
  have m3 : w2.heap.size < w4.heap.size + 1 := by omega
  have k4 : w3.heap.size < w4.heap.size := by omega
  have m4 : w3.heap.size < w4.heap.size + 1 := by omega
  go_wp2_with fail
  refine (H3.out _ (HH.out.up (by (first | exact HB.out | exact HB.out.drew | exact HB.out.alloc HB.out.size _ | exact (HB.out.alloc HB.out.size _).drew | exact (HB.out.alloc HB.out.size _).alloc (Nat.le_trans HB.out.size (by simp)) _ | exact ((HB.out.alloc HB.out.size _).alloc (Nat.le_trans HB.out.size (by simp)) _).alloc (Nat.le_trans HB.out.size (by simp; omega)) _)))).mono ?_
  rintro e w5 ⟨rfl, hB⟩
  (have HBn : Below w.heap.size w w5 := below_lift (by (first | exact HB.out | exact HB.out.drew | exact HB.out.alloc HB.out.size _ | exact (HB.out.alloc HB.out.size _).drew | exact (HB.out.alloc HB.out.size _).alloc (Nat.le_trans HB.out.size (by simp)) _ | exact ((HB.out.alloc HB.out.size _).alloc (Nat.le_trans HB.out.size (by simp)) _).alloc (Nat.le_trans HB.out.size (by simp; omega)) _)) hB; obtain ⟨hc, hf⟩ := below_cell hB; have zz := hB.size; (try simp at zz); have HB := Lib.hid HBn; clear HBn hB)
  have k0 : w.heap.size < w5.heap.size := by omega
  have m0 : w.heap.size < w5.heap.size + 1 := by omega
  have k1 : w.heap.size + 1 < w5.heap.size := by omega
  have m1 : w.heap.size + 1 < w5.heap.size + 1 := by omega
  have k2 : w.heap.size + 1 + 1 < w5.heap.size := by omega
  have m2 : w.heap.size + 1 + 1 < w5.heap.size + 1 := by omega
  have k3 : w2.heap.size < w5.heap.size := by omega
  have m3 : w2.heap.size < w5.heap.size + 1 := by omega
  have k4 : w3.heap.size < w5.heap.size := by omega
  have m4 : w3.heap.size < w5.heap.size + 1 := by omega
  have k5 : w4.heap.size < w5.heap.size := by omega
  have m5 : w4.heap.size < w5.heap.size + 1 := by omega
  go_wp2_with fail
  refine (H4.out _ (HH.out.up (by (first | exact HB.out | exact HB.out.drew | exact HB.out.alloc HB.out.size _ | exact (HB.out.alloc HB.out.size _).drew | exact (HB.out.alloc HB.out.size _).alloc (Nat.le_trans HB.out.size (by simp)) _ | exact ((HB.out.alloc HB.out.size _).alloc (Nat.le_trans HB.out.size (by simp)) _).alloc (Nat.le_trans HB.out.size (by simp; omega)) _)))).mono ?_
  rintro e w6 ⟨rfl, hB⟩
  (have HBn : Below w.heap.size w w6 := below_lift (by (first | exact HB.out | exact HB.out.drew | exact HB.out.alloc HB.out.size _ | exact (HB.out.alloc HB.out.size _).drew | exact (HB.out.alloc HB.out.size _).alloc (Nat.le_trans HB.out.size (by simp)) _ | exact ((HB.out.alloc HB.out.size _).alloc (Nat.le_trans HB.out.size (by simp)) _).alloc (Nat.le_trans HB.out.size (by simp; omega)) _)) hB; obtain ⟨hc, hf⟩ := below_cell hB; have zz := hB.size; (try simp at zz); have HB := Lib.hid HBn; clear HBn hB)
  have k0 : w.heap.size < w6.heap.size := by omega
  have m0 : w.heap.size < w6.heap.size + 1 := by omega
  have k1 : w.heap.size + 1 < w6.heap.size := by omega
  have m1 : w.heap.size + 1 < w6.heap.size + 1 := by omega
  have k2 : w.heap.size + 1 + 1 < w6.heap.size := by omega
  have m2 : w.heap.size + 1 + 1 < w6.heap.size + 1 := by omega
  have k3 : w2.heap.size < w6.heap.size := by omega
  have m3 : w2.heap.size < w6.heap.size + 1 := by omega
  have k4 : w3.heap.size < w6.heap.size := by omega
  have m4 : w3.heap.size < w6.heap.size + 1 := by omega
  have k5 : w4.heap.size < w6.heap.size := by omega
  have m5 : w4.heap.size < w6.heap.size + 1 := by omega
  have k6 : w5.heap.size < w6.heap.size := by omega
  have m6 : w5.heap.size < w6.heap.size + 1 := by omega
  go_wp2_with fail
  refine (H5.out _ (HH.out.up (by (first | exact HB.out | exact HB.out.drew | exact HB.out.alloc HB.out.size _ | exact (HB.out.alloc HB.out.size _).drew | exact (HB.out.alloc HB.out.size _).alloc (Nat.le_trans HB.out.size (by simp)) _ | exact ((HB.out.alloc HB.out.size _).alloc (Nat.le_trans HB.out.size (by simp)) _).alloc (Nat.le_trans HB.out.size (by simp; omega)) _)))).mono ?_
  rintro e w7 ⟨rfl, hB⟩
  (have HBn : Below w.heap.size w w7 := below_lift (by (first | exact HB.out | exact HB.out.drew | exact HB.out.alloc HB.out.size _ | exact (HB.out.alloc HB.out.size _).drew | exact (HB.out.alloc HB.out.size _).alloc (Nat.le_trans HB.out.size (by simp)) _ | exact ((HB.out.alloc HB.out.size _).alloc (Nat.le_trans HB.out.size (by simp)) _).alloc (Nat.le_trans HB.out.size (by simp; omega)) _)) hB; obtain ⟨hc, hf⟩ := below_cell hB; have zz := hB.size; (try simp at zz); have HB := Lib.hid HBn; clear HBn hB)
  have k0 : w.heap.size < w7.heap.size := by omega
  have m0 : w.heap.size < w7.heap.size + 1 := by omega
  have k1 : w.heap.size + 1 < w7.heap.size := by omega
  have m1 : w.heap.size + 1 < w7.heap.size + 1 := by omega
  have k2 : w.heap.size + 1 + 1 < w7.heap.size := by omega
  have m2 : w.heap.size + 1 + 1 < w7.heap.size + 1 := by omega
  have k3 : w2.heap.size < w7.heap.size := by omega
  have m3 : w2.heap.size < w7.heap.size + 1 := by omega
  have k4 : w3.heap.size < w7.heap.size := by omega
  have m4 : w3.heap.size < w7.heap.size + 1 := by omega
  have k5 : w4.heap.size < w7.heap.size := by omega
  have m5 : w4.heap.size < w7.heap.size + 1 := by omega
  have k6 : w5.heap.size < w7.heap.size := by omega
  have m6 : w5.heap.size < w7.heap.size + 1 := by omega
  have k7 : w6.heap.size < w7.heap.size := by omega
  have m7 : w6.heap.size < w7.heap.size + 1 := by omega
  go_wp2_with fail
  refine (H6.out _ (HH.out.up (by (first | exact HB.out | exact HB.out.drew | exact HB.out.alloc HB.out.size _ | exact (HB.out.alloc HB.out.size _).drew | exact (HB.out.alloc HB.out.size _).alloc (Nat.le_trans HB.out.size (by simp)) _ | exact ((HB.out.alloc HB.out.size _).alloc (Nat.le_trans HB.out.size (by simp)) _).alloc (Nat.le_trans HB.out.size (by simp; omega)) _)))).mono ?_
  rintro e w8 ⟨rfl, hB⟩
  (have HBn : Below w.heap.size w w8 := below_lift (by (first | exact HB.out | exact HB.out.drew | exact HB.out.alloc HB.out.size _ | exact (HB.out.alloc HB.out.size _).drew | exact (HB.out.alloc HB.out.size _).alloc (Nat.le_trans HB.out.size (by simp)) _ | exact ((HB.out.alloc HB.out.size _).alloc (Nat.le_trans HB.out.size (by simp)) _).alloc (Nat.le_trans HB.out.size (by simp; omega)) _)) hB; obtain ⟨hc, hf⟩ := below_cell hB; have zz := hB.size; (try simp at zz); have HB := Lib.hid HBn; clear HBn hB)
  have k0 : w.heap.size < w8.heap.size := by omega
  have m0 : w.heap.size < w8.heap.size + 1 := by omega
  have k1 : w.heap.size + 1 < w8.heap.size := by omega
  have m1 : w.heap.size + 1 < w8.heap.size + 1 := by omega
  have k2 : w.heap.size + 1 + 1 < w8.heap.size := by omega
  have m2 : w.heap.size + 1 + 1 < w8.heap.size + 1 := by omega
  have k3 : w2.heap.size < w8.heap.size := by omega
  have m3 : w2.heap.size < w8.heap.size + 1 := by omega
  have k4 : w3.heap.size < w8.heap.size := by omega
  have m4 : w3.heap.size < w8.heap.size + 1 := by omega
  have k5 : w4.heap.size < w8.heap.size := by omega
  have m5 : w4.heap.size < w8.heap.size + 1 := by omega
  have k6 : w5.heap.size < w8.heap.size := by omega
  have m6 : w5.heap.size < w8.heap.size + 1 := by omega
  have k7 : w6.heap.size < w8.heap.size := by omega
  have m7 : w6.heap.size < w8.heap.size + 1 := by omega
  have k8 : w7.heap.size < w8.heap.size := by omega
  have m8 : w7.heap.size < w8.heap.size + 1 := by omega
  go_wp2_with fail
  refine (H7.out _ (HH.out.up (by (first | exact HB.out | exact HB.out.drew | exact HB.out.alloc HB.out.size _ | exact (HB.out.alloc HB.out.size _).drew | exact (HB.out.alloc HB.out.size _).alloc (Nat.le_trans HB.out.size (by simp)) _ | exact ((HB.out.alloc HB.out.size _).alloc (Nat.le_trans HB.out.size (by simp)) _).alloc (Nat.le_trans HB.out.size (by simp; omega)) _)))).mono ?_
  rintro e w9 ⟨rfl, hB⟩
  (have HBn : Below w.heap.size w w9 := below_lift (by (first | exact HB.out | exact HB.out.drew | exact HB.out.alloc HB.out.size _ | exact (HB.out.alloc HB.out.size _).drew | exact (HB.out.alloc HB.out.size _).alloc (Nat.le_trans HB.out.size (by simp)) _ | exact ((HB.out.alloc HB.out.size _).alloc (Nat.le_trans HB.out.size (by simp)) _).alloc (Nat.le_trans HB.out.size (by simp; omega)) _)) hB; obtain ⟨hc, hf⟩ := below_cell hB; have zz := hB.size; (try simp at zz); have HB := Lib.hid HBn; clear HBn hB)
  have k0 : w.heap.size < w9.heap.size := by omega
  have m0 : w.heap.size < w9.heap.size + 1 := by omega
  have k1 : w.heap.size + 1 < w9.heap.size := by omega
  have m1 : w.heap.size + 1 < w9.heap.size + 1 := by omega
  have k2 : w.heap.size + 1 + 1 < w9.heap.size := by omega
  have m2 : w.heap.size + 1 + 1 < w9.heap.size + 1 := by omega
  have k3 : w2.heap.size < w9.heap.size := by omega
  have m3 : w2.heap.size < w9.heap.size + 1 := by omega
  have k4 : w3.heap.size < w9.heap.size := by omega
  have m4 : w3.heap.size < w9.heap.size + 1 := by omega
  have k5 : w4.heap.size < w9.heap.size := by omega
  have m5 : w4.heap.size < w9.heap.size + 1 := by omega
  have k6 : w5.heap.size < w9.heap.size := by omega
  have m6 : w5.heap.size < w9.heap.size + 1 := by omega
  have k7 : w6.heap.size < w9.heap.size := by omega
  have m7 : w6.heap.size < w9.heap.size + 1 := by omega
  have k8 : w7.heap.size < w9.heap.size := by omega
  have m8 : w7.heap.size < w9.heap.size + 1 := by omega
  have k9 : w8.heap.size < w9.heap.size := by omega
  have m9 : w8.heap.size < w9.heap.size + 1 := by omega
  go_wp2_with fail
  go_ret
  exact ⟨rfl, by (first | exact HB.out | exact HB.out.drew | exact HB.out.alloc HB.out.size _ | exact (HB.out.alloc HB.out.size _).drew | exact (HB.out.alloc HB.out.size _).alloc (Nat.le_trans HB.out.size (by simp)) _ | exact ((HB.out.alloc HB.out.size _).alloc (Nat.le_trans HB.out.size (by simp)) _).alloc (Nat.le_trans HB.out.size (by simp; omega)) _)⟩

set_option maxHeartbeats 4000000 in
theorem turns_ok1 (a b c x p z q s : Lab) (m h : Int) (w : World) (hh : Handle w) (h0 : JoinIs a b x 0) (h1 : JoinIs b a x 0) (h2 : JoinIs x c p 20) (h3 : JoinIs b c z m) (h4 : JoinIs a z q h) (h5 : MeetIs a b s 0) (h6 : MeetIs b a s 0) (h7 : JoinIs a s a 0) :
    Calls Tryd.prog 5 #[.agg #[.int .i64 a.lv, .int .u64 (u a.c), .int .i64 a.ig], .agg #[.int .i64 b.lv, .int .u64 (u b.c), .int .i64 b.ig], .agg #[.int .i64 c.lv, .int .u64 (u c.c), .int .i64 c.ig]] w (Yes w) := by
  have H0 := Lib.hid h0
  clear h0
  have H1 := Lib.hid h1
  clear h1
  have H2 := Lib.hid h2
  clear h2
  have H3 := Lib.hid h3
  clear h3
  have H4 := Lib.hid h4
  clear h4
  have H5 := Lib.hid h5
  clear h5
  have H6 := Lib.hid h6
  clear h6
  have H7 := Lib.hid h7
  clear h7
  have HH := Lib.hid hh
  clear hh
  have HB := Lib.hid (Below.refl w.heap.size w)
  go_enter Tryd.func5, Tryd.ntmps5
  go_wp2_with fail
  refine (shown_any _ (HH.out.up (by (first | exact HB.out | exact HB.out.drew | exact HB.out.alloc HB.out.size _ | exact (HB.out.alloc HB.out.size _).drew | exact (HB.out.alloc HB.out.size _).alloc (Nat.le_trans HB.out.size (by simp)) _ | exact ((HB.out.alloc HB.out.size _).alloc (Nat.le_trans HB.out.size (by simp)) _).alloc (Nat.le_trans HB.out.size (by simp; omega)) _)))).mono ?_
  rintro e w1 ⟨rfl, hB⟩
  (have HBn : Below w.heap.size w w1 := below_lift (by (first | exact HB.out | exact HB.out.drew | exact HB.out.alloc HB.out.size _ | exact (HB.out.alloc HB.out.size _).drew | exact (HB.out.alloc HB.out.size _).alloc (Nat.le_trans HB.out.size (by simp)) _ | exact ((HB.out.alloc HB.out.size _).alloc (Nat.le_trans HB.out.size (by simp)) _).alloc (Nat.le_trans HB.out.size (by simp; omega)) _)) hB; obtain ⟨hc, hf⟩ := below_cell hB; have zz := hB.size; (try simp at zz); have HB := Lib.hid HBn; clear HBn hB)
  have k0 : w.heap.size < w1.heap.size := by omega
  have m0 : w.heap.size < w1.heap.size + 1 := by omega
  have k1 : w.heap.size + 1 < w1.heap.size := by omega
  have m1 : w.heap.size + 1 < w1.heap.size + 1 := by omega
  have k2 : w.heap.size + 1 + 1 < w1.heap.size := by omega
  have m2 : w.heap.size + 1 + 1 < w1.heap.size + 1 := by omega
  go_wp2_with fail
  refine (H0.out _ (HH.out.up (by (first | exact HB.out | exact HB.out.drew | exact HB.out.alloc HB.out.size _ | exact (HB.out.alloc HB.out.size _).drew | exact (HB.out.alloc HB.out.size _).alloc (Nat.le_trans HB.out.size (by simp)) _ | exact ((HB.out.alloc HB.out.size _).alloc (Nat.le_trans HB.out.size (by simp)) _).alloc (Nat.le_trans HB.out.size (by simp; omega)) _)))).mono ?_
  rintro e w2 ⟨rfl, hB⟩
  (have HBn : Below w.heap.size w w2 := below_lift (by (first | exact HB.out | exact HB.out.drew | exact HB.out.alloc HB.out.size _ | exact (HB.out.alloc HB.out.size _).drew | exact (HB.out.alloc HB.out.size _).alloc (Nat.le_trans HB.out.size (by simp)) _ | exact ((HB.out.alloc HB.out.size _).alloc (Nat.le_trans HB.out.size (by simp)) _).alloc (Nat.le_trans HB.out.size (by simp; omega)) _)) hB; obtain ⟨hc, hf⟩ := below_cell hB; have zz := hB.size; (try simp at zz); have HB := Lib.hid HBn; clear HBn hB)
  have k0 : w.heap.size < w2.heap.size := by omega
  have m0 : w.heap.size < w2.heap.size + 1 := by omega
  have k1 : w.heap.size + 1 < w2.heap.size := by omega
  have m1 : w.heap.size + 1 < w2.heap.size + 1 := by omega
  have k2 : w.heap.size + 1 + 1 < w2.heap.size := by omega
  have m2 : w.heap.size + 1 + 1 < w2.heap.size + 1 := by omega
  go_wp2_with fail
  refine (H1.out _ (HH.out.up (by (first | exact HB.out | exact HB.out.drew | exact HB.out.alloc HB.out.size _ | exact (HB.out.alloc HB.out.size _).drew | exact (HB.out.alloc HB.out.size _).alloc (Nat.le_trans HB.out.size (by simp)) _ | exact ((HB.out.alloc HB.out.size _).alloc (Nat.le_trans HB.out.size (by simp)) _).alloc (Nat.le_trans HB.out.size (by simp; omega)) _)))).mono ?_
  rintro e w3 ⟨rfl, hB⟩
  (have HBn : Below w.heap.size w w3 := below_lift (by (first | exact HB.out | exact HB.out.drew | exact HB.out.alloc HB.out.size _ | exact (HB.out.alloc HB.out.size _).drew | exact (HB.out.alloc HB.out.size _).alloc (Nat.le_trans HB.out.size (by simp)) _ | exact ((HB.out.alloc HB.out.size _).alloc (Nat.le_trans HB.out.size (by simp)) _).alloc (Nat.le_trans HB.out.size (by simp; omega)) _)) hB; obtain ⟨hc, hf⟩ := below_cell hB; have zz := hB.size; (try simp at zz); have HB := Lib.hid HBn; clear HBn hB)
  have k0 : w.heap.size < w3.heap.size := by omega
  have m0 : w.heap.size < w3.heap.size + 1 := by omega
  have k1 : w.heap.size + 1 < w3.heap.size := by omega
  have m1 : w.heap.size + 1 < w3.heap.size + 1 := by omega
  have k2 : w.heap.size + 1 + 1 < w3.heap.size := by omega
  have m2 : w.heap.size + 1 + 1 < w3.heap.size + 1 := by omega
  have k3 : w2.heap.size < w3.heap.size := by omega
  have m3 : w2.heap.size < w3.heap.size + 1 := by omega
  go_wp2_with fail
  refine (H2.out _ (HH.out.up (by (first | exact HB.out | exact HB.out.drew | exact HB.out.alloc HB.out.size _ | exact (HB.out.alloc HB.out.size _).drew | exact (HB.out.alloc HB.out.size _).alloc (Nat.le_trans HB.out.size (by simp)) _ | exact ((HB.out.alloc HB.out.size _).alloc (Nat.le_trans HB.out.size (by simp)) _).alloc (Nat.le_trans HB.out.size (by simp; omega)) _)))).mono ?_
  rintro e w4 ⟨rfl, hB⟩
  (have HBn : Below w.heap.size w w4 := below_lift (by (first | exact HB.out | exact HB.out.drew | exact HB.out.alloc HB.out.size _ | exact (HB.out.alloc HB.out.size _).drew | exact (HB.out.alloc HB.out.size _).alloc (Nat.le_trans HB.out.size (by simp)) _ | exact ((HB.out.alloc HB.out.size _).alloc (Nat.le_trans HB.out.size (by simp)) _).alloc (Nat.le_trans HB.out.size (by simp; omega)) _)) hB; obtain ⟨hc, hf⟩ := below_cell hB; have zz := hB.size; (try simp at zz); have HB := Lib.hid HBn; clear HBn hB)
  have k0 : w.heap.size < w4.heap.size := by omega
  have m0 : w.heap.size < w4.heap.size + 1 := by omega
  have k1 : w.heap.size + 1 < w4.heap.size := by omega
  have m1 : w.heap.size + 1 < w4.heap.size + 1 := by omega
  have k2 : w.heap.size + 1 + 1 < w4.heap.size := by omega
  have m2 : w.heap.size + 1 + 1 < w4.heap.size + 1 := by omega
  have k3 : w2.heap.size < w4.heap.size := by omega
  have m3 : w2.heap.size < w4.heap.size + 1 := by omega
  have k4 : w3.heap.size < w4.heap.size := by omega
  have m4 : w3.heap.size < w4.heap.size + 1 := by omega
  go_wp2_with fail
  refine (H3.out _ (HH.out.up (by (first | exact HB.out | exact HB.out.drew | exact HB.out.alloc HB.out.size _ | exact (HB.out.alloc HB.out.size _).drew | exact (HB.out.alloc HB.out.size _).alloc (Nat.le_trans HB.out.size (by simp)) _ | exact ((HB.out.alloc HB.out.size _).alloc (Nat.le_trans HB.out.size (by simp)) _).alloc (Nat.le_trans HB.out.size (by simp; omega)) _)))).mono ?_
  rintro e w5 ⟨rfl, hB⟩
  (have HBn : Below w.heap.size w w5 := below_lift (by (first | exact HB.out | exact HB.out.drew | exact HB.out.alloc HB.out.size _ | exact (HB.out.alloc HB.out.size _).drew | exact (HB.out.alloc HB.out.size _).alloc (Nat.le_trans HB.out.size (by simp)) _ | exact ((HB.out.alloc HB.out.size _).alloc (Nat.le_trans HB.out.size (by simp)) _).alloc (Nat.le_trans HB.out.size (by simp; omega)) _)) hB; obtain ⟨hc, hf⟩ := below_cell hB; have zz := hB.size; (try simp at zz); have HB := Lib.hid HBn; clear HBn hB)
  have k0 : w.heap.size < w5.heap.size := by omega
  have m0 : w.heap.size < w5.heap.size + 1 := by omega
  have k1 : w.heap.size + 1 < w5.heap.size := by omega
  have m1 : w.heap.size + 1 < w5.heap.size + 1 := by omega
  have k2 : w.heap.size + 1 + 1 < w5.heap.size := by omega
  have m2 : w.heap.size + 1 + 1 < w5.heap.size + 1 := by omega
  have k3 : w2.heap.size < w5.heap.size := by omega
  have m3 : w2.heap.size < w5.heap.size + 1 := by omega
  have k4 : w3.heap.size < w5.heap.size := by omega
  have m4 : w3.heap.size < w5.heap.size + 1 := by omega
  have k5 : w4.heap.size < w5.heap.size := by omega
  have m5 : w4.heap.size < w5.heap.size + 1 := by omega
  go_wp2_with fail
  refine (H4.out _ (HH.out.up (by (first | exact HB.out | exact HB.out.drew | exact HB.out.alloc HB.out.size _ | exact (HB.out.alloc HB.out.size _).drew | exact (HB.out.alloc HB.out.size _).alloc (Nat.le_trans HB.out.size (by simp)) _ | exact ((HB.out.alloc HB.out.size _).alloc (Nat.le_trans HB.out.size (by simp)) _).alloc (Nat.le_trans HB.out.size (by simp; omega)) _)))).mono ?_
  rintro e w6 ⟨rfl, hB⟩
  (have HBn : Below w.heap.size w w6 := below_lift (by (first | exact HB.out | exact HB.out.drew | exact HB.out.alloc HB.out.size _ | exact (HB.out.alloc HB.out.size _).drew | exact (HB.out.alloc HB.out.size _).alloc (Nat.le_trans HB.out.size (by simp)) _ | exact ((HB.out.alloc HB.out.size _).alloc (Nat.le_trans HB.out.size (by simp)) _).alloc (Nat.le_trans HB.out.size (by simp; omega)) _)) hB; obtain ⟨hc, hf⟩ := below_cell hB; have zz := hB.size; (try simp at zz); have HB := Lib.hid HBn; clear HBn hB)
  have k0 : w.heap.size < w6.heap.size := by omega
  have m0 : w.heap.size < w6.heap.size + 1 := by omega
  have k1 : w.heap.size + 1 < w6.heap.size := by omega
  have m1 : w.heap.size + 1 < w6.heap.size + 1 := by omega
  have k2 : w.heap.size + 1 + 1 < w6.heap.size := by omega
  have m2 : w.heap.size + 1 + 1 < w6.heap.size + 1 := by omega
  have k3 : w2.heap.size < w6.heap.size := by omega
  have m3 : w2.heap.size < w6.heap.size + 1 := by omega
  have k4 : w3.heap.size < w6.heap.size := by omega
  have m4 : w3.heap.size < w6.heap.size + 1 := by omega
  have k5 : w4.heap.size < w6.heap.size := by omega
  have m5 : w4.heap.size < w6.heap.size + 1 := by omega
  have k6 : w5.heap.size < w6.heap.size := by omega
  have m6 : w5.heap.size < w6.heap.size + 1 := by omega
  go_wp2_with fail
  refine (H5.out _ (HH.out.up (by (first | exact HB.out | exact HB.out.drew | exact HB.out.alloc HB.out.size _ | exact (HB.out.alloc HB.out.size _).drew | exact (HB.out.alloc HB.out.size _).alloc (Nat.le_trans HB.out.size (by simp)) _ | exact ((HB.out.alloc HB.out.size _).alloc (Nat.le_trans HB.out.size (by simp)) _).alloc (Nat.le_trans HB.out.size (by simp; omega)) _)))).mono ?_
  rintro e w7 ⟨rfl, hB⟩
  (have HBn : Below w.heap.size w w7 := below_lift (by (first | exact HB.out | exact HB.out.drew | exact HB.out.alloc HB.out.size _ | exact (HB.out.alloc HB.out.size _).drew | exact (HB.out.alloc HB.out.size _).alloc (Nat.le_trans HB.out.size (by simp)) _ | exact ((HB.out.alloc HB.out.size _).alloc (Nat.le_trans HB.out.size (by simp)) _).alloc (Nat.le_trans HB.out.size (by simp; omega)) _)) hB; obtain ⟨hc, hf⟩ := below_cell hB; have zz := hB.size; (try simp at zz); have HB := Lib.hid HBn; clear HBn hB)
  have k0 : w.heap.size < w7.heap.size := by omega
  have m0 : w.heap.size < w7.heap.size + 1 := by omega
  have k1 : w.heap.size + 1 < w7.heap.size := by omega
  have m1 : w.heap.size + 1 < w7.heap.size + 1 := by omega
  have k2 : w.heap.size + 1 + 1 < w7.heap.size := by omega
  have m2 : w.heap.size + 1 + 1 < w7.heap.size + 1 := by omega
  have k3 : w2.heap.size < w7.heap.size := by omega
  have m3 : w2.heap.size < w7.heap.size + 1 := by omega
  have k4 : w3.heap.size < w7.heap.size := by omega
  have m4 : w3.heap.size < w7.heap.size + 1 := by omega
  have k5 : w4.heap.size < w7.heap.size := by omega
  have m5 : w4.heap.size < w7.heap.size + 1 := by omega
  have k6 : w5.heap.size < w7.heap.size := by omega
  have m6 : w5.heap.size < w7.heap.size + 1 := by omega
  have k7 : w6.heap.size < w7.heap.size := by omega
  have m7 : w6.heap.size < w7.heap.size + 1 := by omega
  go_wp2_with fail
  refine (H6.out _ (HH.out.up (by (first | exact HB.out | exact HB.out.drew | exact HB.out.alloc HB.out.size _ | exact (HB.out.alloc HB.out.size _).drew | exact (HB.out.alloc HB.out.size _).alloc (Nat.le_trans HB.out.size (by simp)) _ | exact ((HB.out.alloc HB.out.size _).alloc (Nat.le_trans HB.out.size (by simp)) _).alloc (Nat.le_trans HB.out.size (by simp; omega)) _)))).mono ?_
  rintro e w8 ⟨rfl, hB⟩
  (have HBn : Below w.heap.size w w8 := below_lift (by (first | exact HB.out | exact HB.out.drew | exact HB.out.alloc HB.out.size _ | exact (HB.out.alloc HB.out.size _).drew | exact (HB.out.alloc HB.out.size _).alloc (Nat.le_trans HB.out.size (by simp)) _ | exact ((HB.out.alloc HB.out.size _).alloc (Nat.le_trans HB.out.size (by simp)) _).alloc (Nat.le_trans HB.out.size (by simp; omega)) _)) hB; obtain ⟨hc, hf⟩ := below_cell hB; have zz := hB.size; (try simp at zz); have HB := Lib.hid HBn; clear HBn hB)
  have k0 : w.heap.size < w8.heap.size := by omega
  have m0 : w.heap.size < w8.heap.size + 1 := by omega
  have k1 : w.heap.size + 1 < w8.heap.size := by omega
  have m1 : w.heap.size + 1 < w8.heap.size + 1 := by omega
  have k2 : w.heap.size + 1 + 1 < w8.heap.size := by omega
  have m2 : w.heap.size + 1 + 1 < w8.heap.size + 1 := by omega
  have k3 : w2.heap.size < w8.heap.size := by omega
  have m3 : w2.heap.size < w8.heap.size + 1 := by omega
  have k4 : w3.heap.size < w8.heap.size := by omega
  have m4 : w3.heap.size < w8.heap.size + 1 := by omega
  have k5 : w4.heap.size < w8.heap.size := by omega
  have m5 : w4.heap.size < w8.heap.size + 1 := by omega
  have k6 : w5.heap.size < w8.heap.size := by omega
  have m6 : w5.heap.size < w8.heap.size + 1 := by omega
  have k7 : w6.heap.size < w8.heap.size := by omega
  have m7 : w6.heap.size < w8.heap.size + 1 := by omega
  have k8 : w7.heap.size < w8.heap.size := by omega
  have m8 : w7.heap.size < w8.heap.size + 1 := by omega
  go_wp2_with fail
  refine (H7.out _ (HH.out.up (by (first | exact HB.out | exact HB.out.drew | exact HB.out.alloc HB.out.size _ | exact (HB.out.alloc HB.out.size _).drew | exact (HB.out.alloc HB.out.size _).alloc (Nat.le_trans HB.out.size (by simp)) _ | exact ((HB.out.alloc HB.out.size _).alloc (Nat.le_trans HB.out.size (by simp)) _).alloc (Nat.le_trans HB.out.size (by simp; omega)) _)))).mono ?_
  rintro e w9 ⟨rfl, hB⟩
  (have HBn : Below w.heap.size w w9 := below_lift (by (first | exact HB.out | exact HB.out.drew | exact HB.out.alloc HB.out.size _ | exact (HB.out.alloc HB.out.size _).drew | exact (HB.out.alloc HB.out.size _).alloc (Nat.le_trans HB.out.size (by simp)) _ | exact ((HB.out.alloc HB.out.size _).alloc (Nat.le_trans HB.out.size (by simp)) _).alloc (Nat.le_trans HB.out.size (by simp; omega)) _)) hB; obtain ⟨hc, hf⟩ := below_cell hB; have zz := hB.size; (try simp at zz); have HB := Lib.hid HBn; clear HBn hB)
  have k0 : w.heap.size < w9.heap.size := by omega
  have m0 : w.heap.size < w9.heap.size + 1 := by omega
  have k1 : w.heap.size + 1 < w9.heap.size := by omega
  have m1 : w.heap.size + 1 < w9.heap.size + 1 := by omega
  have k2 : w.heap.size + 1 + 1 < w9.heap.size := by omega
  have m2 : w.heap.size + 1 + 1 < w9.heap.size + 1 := by omega
  have k3 : w2.heap.size < w9.heap.size := by omega
  have m3 : w2.heap.size < w9.heap.size + 1 := by omega
  have k4 : w3.heap.size < w9.heap.size := by omega
  have m4 : w3.heap.size < w9.heap.size + 1 := by omega
  have k5 : w4.heap.size < w9.heap.size := by omega
  have m5 : w4.heap.size < w9.heap.size + 1 := by omega
  have k6 : w5.heap.size < w9.heap.size := by omega
  have m6 : w5.heap.size < w9.heap.size + 1 := by omega
  have k7 : w6.heap.size < w9.heap.size := by omega
  have m7 : w6.heap.size < w9.heap.size + 1 := by omega
  have k8 : w7.heap.size < w9.heap.size := by omega
  have m8 : w7.heap.size < w9.heap.size + 1 := by omega
  have k9 : w8.heap.size < w9.heap.size := by omega
  have m9 : w8.heap.size < w9.heap.size + 1 := by omega
  go_wp2_with fail
  go_ret
  exact ⟨rfl, by (first | exact HB.out | exact HB.out.drew | exact HB.out.alloc HB.out.size _ | exact (HB.out.alloc HB.out.size _).drew | exact (HB.out.alloc HB.out.size _).alloc (Nat.le_trans HB.out.size (by simp)) _ | exact ((HB.out.alloc HB.out.size _).alloc (Nat.le_trans HB.out.size (by simp)) _).alloc (Nat.le_trans HB.out.size (by simp; omega)) _)⟩

set_option maxHeartbeats 4000000 in
theorem turns_ok2 (a b c x p z s : Lab) (m : Int) (w : World) (hh : Handle w) (h0 : JoinIs a b x 0) (h1 : JoinIs b a x 0) (h2 : JoinIs x c p 0) (h3 : JoinIs b c z m) (h4 : JoinIs a z p 0) (h5 : MeetIs a b s 0) (h6 : MeetIs b a s 0) (h7 : JoinIs a s a 0) :
    Calls Tryd.prog 5 #[.agg #[.int .i64 a.lv, .int .u64 (u a.c), .int .i64 a.ig], .agg #[.int .i64 b.lv, .int .u64 (u b.c), .int .i64 b.ig], .agg #[.int .i64 c.lv, .int .u64 (u c.c), .int .i64 c.ig]] w (Yes w) := by
  have H0 := Lib.hid h0
  clear h0
  have H1 := Lib.hid h1
  clear h1
  have H2 := Lib.hid h2
  clear h2
  have H3 := Lib.hid h3
  clear h3
  have H4 := Lib.hid h4
  clear h4
  have H5 := Lib.hid h5
  clear h5
  have H6 := Lib.hid h6
  clear h6
  have H7 := Lib.hid h7
  clear h7
  have HH := Lib.hid hh
  clear hh
  have HB := Lib.hid (Below.refl w.heap.size w)
  go_enter Tryd.func5, Tryd.ntmps5
  go_wp2_with fail
  refine (shown_any _ (HH.out.up (by (first | exact HB.out | exact HB.out.drew | exact HB.out.alloc HB.out.size _ | exact (HB.out.alloc HB.out.size _).drew | exact (HB.out.alloc HB.out.size _).alloc (Nat.le_trans HB.out.size (by simp)) _ | exact ((HB.out.alloc HB.out.size _).alloc (Nat.le_trans HB.out.size (by simp)) _).alloc (Nat.le_trans HB.out.size (by simp; omega)) _)))).mono ?_
  rintro e w1 ⟨rfl, hB⟩
  (have HBn : Below w.heap.size w w1 := below_lift (by (first | exact HB.out | exact HB.out.drew | exact HB.out.alloc HB.out.size _ | exact (HB.out.alloc HB.out.size _).drew | exact (HB.out.alloc HB.out.size _).alloc (Nat.le_trans HB.out.size (by simp)) _ | exact ((HB.out.alloc HB.out.size _).alloc (Nat.le_trans HB.out.size (by simp)) _).alloc (Nat.le_trans HB.out.size (by simp; omega)) _)) hB; obtain ⟨hc, hf⟩ := below_cell hB; have zz := hB.size; (try simp at zz); have HB := Lib.hid HBn; clear HBn hB)
  have k0 : w.heap.size < w1.heap.size := by omega
  have m0 : w.heap.size < w1.heap.size + 1 := by omega
  have k1 : w.heap.size + 1 < w1.heap.size := by omega
  have m1 : w.heap.size + 1 < w1.heap.size + 1 := by omega
  have k2 : w.heap.size + 1 + 1 < w1.heap.size := by omega
  have m2 : w.heap.size + 1 + 1 < w1.heap.size + 1 := by omega
  go_wp2_with fail
  refine (H0.out _ (HH.out.up (by (first | exact HB.out | exact HB.out.drew | exact HB.out.alloc HB.out.size _ | exact (HB.out.alloc HB.out.size _).drew | exact (HB.out.alloc HB.out.size _).alloc (Nat.le_trans HB.out.size (by simp)) _ | exact ((HB.out.alloc HB.out.size _).alloc (Nat.le_trans HB.out.size (by simp)) _).alloc (Nat.le_trans HB.out.size (by simp; omega)) _)))).mono ?_
  rintro e w2 ⟨rfl, hB⟩
  (have HBn : Below w.heap.size w w2 := below_lift (by (first | exact HB.out | exact HB.out.drew | exact HB.out.alloc HB.out.size _ | exact (HB.out.alloc HB.out.size _).drew | exact (HB.out.alloc HB.out.size _).alloc (Nat.le_trans HB.out.size (by simp)) _ | exact ((HB.out.alloc HB.out.size _).alloc (Nat.le_trans HB.out.size (by simp)) _).alloc (Nat.le_trans HB.out.size (by simp; omega)) _)) hB; obtain ⟨hc, hf⟩ := below_cell hB; have zz := hB.size; (try simp at zz); have HB := Lib.hid HBn; clear HBn hB)
  have k0 : w.heap.size < w2.heap.size := by omega
  have m0 : w.heap.size < w2.heap.size + 1 := by omega
  have k1 : w.heap.size + 1 < w2.heap.size := by omega
  have m1 : w.heap.size + 1 < w2.heap.size + 1 := by omega
  have k2 : w.heap.size + 1 + 1 < w2.heap.size := by omega
  have m2 : w.heap.size + 1 + 1 < w2.heap.size + 1 := by omega
  go_wp2_with fail
  refine (H1.out _ (HH.out.up (by (first | exact HB.out | exact HB.out.drew | exact HB.out.alloc HB.out.size _ | exact (HB.out.alloc HB.out.size _).drew | exact (HB.out.alloc HB.out.size _).alloc (Nat.le_trans HB.out.size (by simp)) _ | exact ((HB.out.alloc HB.out.size _).alloc (Nat.le_trans HB.out.size (by simp)) _).alloc (Nat.le_trans HB.out.size (by simp; omega)) _)))).mono ?_
  rintro e w3 ⟨rfl, hB⟩
  (have HBn : Below w.heap.size w w3 := below_lift (by (first | exact HB.out | exact HB.out.drew | exact HB.out.alloc HB.out.size _ | exact (HB.out.alloc HB.out.size _).drew | exact (HB.out.alloc HB.out.size _).alloc (Nat.le_trans HB.out.size (by simp)) _ | exact ((HB.out.alloc HB.out.size _).alloc (Nat.le_trans HB.out.size (by simp)) _).alloc (Nat.le_trans HB.out.size (by simp; omega)) _)) hB; obtain ⟨hc, hf⟩ := below_cell hB; have zz := hB.size; (try simp at zz); have HB := Lib.hid HBn; clear HBn hB)
  have k0 : w.heap.size < w3.heap.size := by omega
  have m0 : w.heap.size < w3.heap.size + 1 := by omega
  have k1 : w.heap.size + 1 < w3.heap.size := by omega
  have m1 : w.heap.size + 1 < w3.heap.size + 1 := by omega
  have k2 : w.heap.size + 1 + 1 < w3.heap.size := by omega
  have m2 : w.heap.size + 1 + 1 < w3.heap.size + 1 := by omega
  have k3 : w2.heap.size < w3.heap.size := by omega
  have m3 : w2.heap.size < w3.heap.size + 1 := by omega
  go_wp2_with fail
  refine (H2.out _ (HH.out.up (by (first | exact HB.out | exact HB.out.drew | exact HB.out.alloc HB.out.size _ | exact (HB.out.alloc HB.out.size _).drew | exact (HB.out.alloc HB.out.size _).alloc (Nat.le_trans HB.out.size (by simp)) _ | exact ((HB.out.alloc HB.out.size _).alloc (Nat.le_trans HB.out.size (by simp)) _).alloc (Nat.le_trans HB.out.size (by simp; omega)) _)))).mono ?_
  rintro e w4 ⟨rfl, hB⟩
  (have HBn : Below w.heap.size w w4 := below_lift (by (first | exact HB.out | exact HB.out.drew | exact HB.out.alloc HB.out.size _ | exact (HB.out.alloc HB.out.size _).drew | exact (HB.out.alloc HB.out.size _).alloc (Nat.le_trans HB.out.size (by simp)) _ | exact ((HB.out.alloc HB.out.size _).alloc (Nat.le_trans HB.out.size (by simp)) _).alloc (Nat.le_trans HB.out.size (by simp; omega)) _)) hB; obtain ⟨hc, hf⟩ := below_cell hB; have zz := hB.size; (try simp at zz); have HB := Lib.hid HBn; clear HBn hB)
  have k0 : w.heap.size < w4.heap.size := by omega
  have m0 : w.heap.size < w4.heap.size + 1 := by omega
  have k1 : w.heap.size + 1 < w4.heap.size := by omega
  have m1 : w.heap.size + 1 < w4.heap.size + 1 := by omega
  have k2 : w.heap.size + 1 + 1 < w4.heap.size := by omega
  have m2 : w.heap.size + 1 + 1 < w4.heap.size + 1 := by omega
  have k3 : w2.heap.size < w4.heap.size := by omega
  have m3 : w2.heap.size < w4.heap.size + 1 := by omega
  have k4 : w3.heap.size < w4.heap.size := by omega
  have m4 : w3.heap.size < w4.heap.size + 1 := by omega
  go_wp2_with fail
  refine (H3.out _ (HH.out.up (by (first | exact HB.out | exact HB.out.drew | exact HB.out.alloc HB.out.size _ | exact (HB.out.alloc HB.out.size _).drew | exact (HB.out.alloc HB.out.size _).alloc (Nat.le_trans HB.out.size (by simp)) _ | exact ((HB.out.alloc HB.out.size _).alloc (Nat.le_trans HB.out.size (by simp)) _).alloc (Nat.le_trans HB.out.size (by simp; omega)) _)))).mono ?_
  rintro e w5 ⟨rfl, hB⟩
  (have HBn : Below w.heap.size w w5 := below_lift (by (first | exact HB.out | exact HB.out.drew | exact HB.out.alloc HB.out.size _ | exact (HB.out.alloc HB.out.size _).drew | exact (HB.out.alloc HB.out.size _).alloc (Nat.le_trans HB.out.size (by simp)) _ | exact ((HB.out.alloc HB.out.size _).alloc (Nat.le_trans HB.out.size (by simp)) _).alloc (Nat.le_trans HB.out.size (by simp; omega)) _)) hB; obtain ⟨hc, hf⟩ := below_cell hB; have zz := hB.size; (try simp at zz); have HB := Lib.hid HBn; clear HBn hB)
  have k0 : w.heap.size < w5.heap.size := by omega
  have m0 : w.heap.size < w5.heap.size + 1 := by omega
  have k1 : w.heap.size + 1 < w5.heap.size := by omega
  have m1 : w.heap.size + 1 < w5.heap.size + 1 := by omega
  have k2 : w.heap.size + 1 + 1 < w5.heap.size := by omega
  have m2 : w.heap.size + 1 + 1 < w5.heap.size + 1 := by omega
  have k3 : w2.heap.size < w5.heap.size := by omega
  have m3 : w2.heap.size < w5.heap.size + 1 := by omega
  have k4 : w3.heap.size < w5.heap.size := by omega
  have m4 : w3.heap.size < w5.heap.size + 1 := by omega
  have k5 : w4.heap.size < w5.heap.size := by omega
  have m5 : w4.heap.size < w5.heap.size + 1 := by omega
  go_wp2_with fail
  refine (H4.out _ (HH.out.up (by (first | exact HB.out | exact HB.out.drew | exact HB.out.alloc HB.out.size _ | exact (HB.out.alloc HB.out.size _).drew | exact (HB.out.alloc HB.out.size _).alloc (Nat.le_trans HB.out.size (by simp)) _ | exact ((HB.out.alloc HB.out.size _).alloc (Nat.le_trans HB.out.size (by simp)) _).alloc (Nat.le_trans HB.out.size (by simp; omega)) _)))).mono ?_
  rintro e w6 ⟨rfl, hB⟩
  (have HBn : Below w.heap.size w w6 := below_lift (by (first | exact HB.out | exact HB.out.drew | exact HB.out.alloc HB.out.size _ | exact (HB.out.alloc HB.out.size _).drew | exact (HB.out.alloc HB.out.size _).alloc (Nat.le_trans HB.out.size (by simp)) _ | exact ((HB.out.alloc HB.out.size _).alloc (Nat.le_trans HB.out.size (by simp)) _).alloc (Nat.le_trans HB.out.size (by simp; omega)) _)) hB; obtain ⟨hc, hf⟩ := below_cell hB; have zz := hB.size; (try simp at zz); have HB := Lib.hid HBn; clear HBn hB)
  have k0 : w.heap.size < w6.heap.size := by omega
  have m0 : w.heap.size < w6.heap.size + 1 := by omega
  have k1 : w.heap.size + 1 < w6.heap.size := by omega
  have m1 : w.heap.size + 1 < w6.heap.size + 1 := by omega
  have k2 : w.heap.size + 1 + 1 < w6.heap.size := by omega
  have m2 : w.heap.size + 1 + 1 < w6.heap.size + 1 := by omega
  have k3 : w2.heap.size < w6.heap.size := by omega
  have m3 : w2.heap.size < w6.heap.size + 1 := by omega
  have k4 : w3.heap.size < w6.heap.size := by omega
  have m4 : w3.heap.size < w6.heap.size + 1 := by omega
  have k5 : w4.heap.size < w6.heap.size := by omega
  have m5 : w4.heap.size < w6.heap.size + 1 := by omega
  have k6 : w5.heap.size < w6.heap.size := by omega
  have m6 : w5.heap.size < w6.heap.size + 1 := by omega
  go_wp2_with fail
  refine (H5.out _ (HH.out.up (by (first | exact HB.out | exact HB.out.drew | exact HB.out.alloc HB.out.size _ | exact (HB.out.alloc HB.out.size _).drew | exact (HB.out.alloc HB.out.size _).alloc (Nat.le_trans HB.out.size (by simp)) _ | exact ((HB.out.alloc HB.out.size _).alloc (Nat.le_trans HB.out.size (by simp)) _).alloc (Nat.le_trans HB.out.size (by simp; omega)) _)))).mono ?_
  rintro e w7 ⟨rfl, hB⟩
  (have HBn : Below w.heap.size w w7 := below_lift (by (first | exact HB.out | exact HB.out.drew | exact HB.out.alloc HB.out.size _ | exact (HB.out.alloc HB.out.size _).drew | exact (HB.out.alloc HB.out.size _).alloc (Nat.le_trans HB.out.size (by simp)) _ | exact ((HB.out.alloc HB.out.size _).alloc (Nat.le_trans HB.out.size (by simp)) _).alloc (Nat.le_trans HB.out.size (by simp; omega)) _)) hB; obtain ⟨hc, hf⟩ := below_cell hB; have zz := hB.size; (try simp at zz); have HB := Lib.hid HBn; clear HBn hB)
  have k0 : w.heap.size < w7.heap.size := by omega
  have m0 : w.heap.size < w7.heap.size + 1 := by omega
  have k1 : w.heap.size + 1 < w7.heap.size := by omega
  have m1 : w.heap.size + 1 < w7.heap.size + 1 := by omega
  have k2 : w.heap.size + 1 + 1 < w7.heap.size := by omega
  have m2 : w.heap.size + 1 + 1 < w7.heap.size + 1 := by omega
  have k3 : w2.heap.size < w7.heap.size := by omega
  have m3 : w2.heap.size < w7.heap.size + 1 := by omega
  have k4 : w3.heap.size < w7.heap.size := by omega
  have m4 : w3.heap.size < w7.heap.size + 1 := by omega
  have k5 : w4.heap.size < w7.heap.size := by omega
  have m5 : w4.heap.size < w7.heap.size + 1 := by omega
  have k6 : w5.heap.size < w7.heap.size := by omega
  have m6 : w5.heap.size < w7.heap.size + 1 := by omega
  have k7 : w6.heap.size < w7.heap.size := by omega
  have m7 : w6.heap.size < w7.heap.size + 1 := by omega
  go_wp2_with fail
  refine (H6.out _ (HH.out.up (by (first | exact HB.out | exact HB.out.drew | exact HB.out.alloc HB.out.size _ | exact (HB.out.alloc HB.out.size _).drew | exact (HB.out.alloc HB.out.size _).alloc (Nat.le_trans HB.out.size (by simp)) _ | exact ((HB.out.alloc HB.out.size _).alloc (Nat.le_trans HB.out.size (by simp)) _).alloc (Nat.le_trans HB.out.size (by simp; omega)) _)))).mono ?_
  rintro e w8 ⟨rfl, hB⟩
  (have HBn : Below w.heap.size w w8 := below_lift (by (first | exact HB.out | exact HB.out.drew | exact HB.out.alloc HB.out.size _ | exact (HB.out.alloc HB.out.size _).drew | exact (HB.out.alloc HB.out.size _).alloc (Nat.le_trans HB.out.size (by simp)) _ | exact ((HB.out.alloc HB.out.size _).alloc (Nat.le_trans HB.out.size (by simp)) _).alloc (Nat.le_trans HB.out.size (by simp; omega)) _)) hB; obtain ⟨hc, hf⟩ := below_cell hB; have zz := hB.size; (try simp at zz); have HB := Lib.hid HBn; clear HBn hB)
  have k0 : w.heap.size < w8.heap.size := by omega
  have m0 : w.heap.size < w8.heap.size + 1 := by omega
  have k1 : w.heap.size + 1 < w8.heap.size := by omega
  have m1 : w.heap.size + 1 < w8.heap.size + 1 := by omega
  have k2 : w.heap.size + 1 + 1 < w8.heap.size := by omega
  have m2 : w.heap.size + 1 + 1 < w8.heap.size + 1 := by omega
  have k3 : w2.heap.size < w8.heap.size := by omega
  have m3 : w2.heap.size < w8.heap.size + 1 := by omega
  have k4 : w3.heap.size < w8.heap.size := by omega
  have m4 : w3.heap.size < w8.heap.size + 1 := by omega
  have k5 : w4.heap.size < w8.heap.size := by omega
  have m5 : w4.heap.size < w8.heap.size + 1 := by omega
  have k6 : w5.heap.size < w8.heap.size := by omega
  have m6 : w5.heap.size < w8.heap.size + 1 := by omega
  have k7 : w6.heap.size < w8.heap.size := by omega
  have m7 : w6.heap.size < w8.heap.size + 1 := by omega
  have k8 : w7.heap.size < w8.heap.size := by omega
  have m8 : w7.heap.size < w8.heap.size + 1 := by omega
  go_wp2_with fail
  refine (H7.out _ (HH.out.up (by (first | exact HB.out | exact HB.out.drew | exact HB.out.alloc HB.out.size _ | exact (HB.out.alloc HB.out.size _).drew | exact (HB.out.alloc HB.out.size _).alloc (Nat.le_trans HB.out.size (by simp)) _ | exact ((HB.out.alloc HB.out.size _).alloc (Nat.le_trans HB.out.size (by simp)) _).alloc (Nat.le_trans HB.out.size (by simp; omega)) _)))).mono ?_
  rintro e w9 ⟨rfl, hB⟩
  (have HBn : Below w.heap.size w w9 := below_lift (by (first | exact HB.out | exact HB.out.drew | exact HB.out.alloc HB.out.size _ | exact (HB.out.alloc HB.out.size _).drew | exact (HB.out.alloc HB.out.size _).alloc (Nat.le_trans HB.out.size (by simp)) _ | exact ((HB.out.alloc HB.out.size _).alloc (Nat.le_trans HB.out.size (by simp)) _).alloc (Nat.le_trans HB.out.size (by simp; omega)) _)) hB; obtain ⟨hc, hf⟩ := below_cell hB; have zz := hB.size; (try simp at zz); have HB := Lib.hid HBn; clear HBn hB)
  have k0 : w.heap.size < w9.heap.size := by omega
  have m0 : w.heap.size < w9.heap.size + 1 := by omega
  have k1 : w.heap.size + 1 < w9.heap.size := by omega
  have m1 : w.heap.size + 1 < w9.heap.size + 1 := by omega
  have k2 : w.heap.size + 1 + 1 < w9.heap.size := by omega
  have m2 : w.heap.size + 1 + 1 < w9.heap.size + 1 := by omega
  have k3 : w2.heap.size < w9.heap.size := by omega
  have m3 : w2.heap.size < w9.heap.size + 1 := by omega
  have k4 : w3.heap.size < w9.heap.size := by omega
  have m4 : w3.heap.size < w9.heap.size + 1 := by omega
  have k5 : w4.heap.size < w9.heap.size := by omega
  have m5 : w4.heap.size < w9.heap.size + 1 := by omega
  have k6 : w5.heap.size < w9.heap.size := by omega
  have m6 : w5.heap.size < w9.heap.size + 1 := by omega
  have k7 : w6.heap.size < w9.heap.size := by omega
  have m7 : w6.heap.size < w9.heap.size + 1 := by omega
  have k8 : w7.heap.size < w9.heap.size := by omega
  have m8 : w7.heap.size < w9.heap.size + 1 := by omega
  have k9 : w8.heap.size < w9.heap.size := by omega
  have m9 : w8.heap.size < w9.heap.size + 1 := by omega
  go_wp2_with fail
  go_ret
  exact ⟨rfl, by (first | exact HB.out | exact HB.out.drew | exact HB.out.alloc HB.out.size _ | exact (HB.out.alloc HB.out.size _).drew | exact (HB.out.alloc HB.out.size _).alloc (Nat.le_trans HB.out.size (by simp)) _ | exact ((HB.out.alloc HB.out.size _).alloc (Nat.le_trans HB.out.size (by simp)) _).alloc (Nat.le_trans HB.out.size (by simp; omega)) _)⟩

set_option maxHeartbeats 4000000 in
theorem under_bad (a b x y : Lab) (w : World) (hh : Handle w) (h0 : JoinIs a b x 20) (h1 : MeetIs a b y 20) (h2 : UnderIs a b false) :
    Calls Tryd.prog 6 #[.agg #[.int .i64 a.lv, .int .u64 (u a.c), .int .i64 a.ig], .agg #[.int .i64 b.lv, .int .u64 (u b.c), .int .i64 b.ig]] w (Yes w) := by
  have H0 := Lib.hid h0
  clear h0
  have H1 := Lib.hid h1
  clear h1
  have H2 := Lib.hid h2
  clear h2
  have HH := Lib.hid hh
  clear hh
  have HB := Lib.hid (Below.refl w.heap.size w)
  go_enter Tryd.func6, Tryd.ntmps6
  go_wp2_with fail
  refine (shown_any _ (HH.out.up (by (first | exact HB.out | exact HB.out.drew | exact HB.out.alloc HB.out.size _ | exact (HB.out.alloc HB.out.size _).drew | exact (HB.out.alloc HB.out.size _).alloc (Nat.le_trans HB.out.size (by simp)) _ | exact ((HB.out.alloc HB.out.size _).alloc (Nat.le_trans HB.out.size (by simp)) _).alloc (Nat.le_trans HB.out.size (by simp; omega)) _)))).mono ?_
  rintro e w1 ⟨rfl, hB⟩
  (have HBn : Below w.heap.size w w1 := below_lift (by (first | exact HB.out | exact HB.out.drew | exact HB.out.alloc HB.out.size _ | exact (HB.out.alloc HB.out.size _).drew | exact (HB.out.alloc HB.out.size _).alloc (Nat.le_trans HB.out.size (by simp)) _ | exact ((HB.out.alloc HB.out.size _).alloc (Nat.le_trans HB.out.size (by simp)) _).alloc (Nat.le_trans HB.out.size (by simp; omega)) _)) hB; obtain ⟨hc, hf⟩ := below_cell hB; have zz := hB.size; (try simp at zz); have HB := Lib.hid HBn; clear HBn hB)
  have k0 : w.heap.size < w1.heap.size := by omega
  have m0 : w.heap.size < w1.heap.size + 1 := by omega
  have k1 : w.heap.size + 1 < w1.heap.size := by omega
  have m1 : w.heap.size + 1 < w1.heap.size + 1 := by omega
  go_wp2_with fail
  refine (H0.out _ (HH.out.up (by (first | exact HB.out | exact HB.out.drew | exact HB.out.alloc HB.out.size _ | exact (HB.out.alloc HB.out.size _).drew | exact (HB.out.alloc HB.out.size _).alloc (Nat.le_trans HB.out.size (by simp)) _ | exact ((HB.out.alloc HB.out.size _).alloc (Nat.le_trans HB.out.size (by simp)) _).alloc (Nat.le_trans HB.out.size (by simp; omega)) _)))).mono ?_
  rintro e w2 ⟨rfl, hB⟩
  (have HBn : Below w.heap.size w w2 := below_lift (by (first | exact HB.out | exact HB.out.drew | exact HB.out.alloc HB.out.size _ | exact (HB.out.alloc HB.out.size _).drew | exact (HB.out.alloc HB.out.size _).alloc (Nat.le_trans HB.out.size (by simp)) _ | exact ((HB.out.alloc HB.out.size _).alloc (Nat.le_trans HB.out.size (by simp)) _).alloc (Nat.le_trans HB.out.size (by simp; omega)) _)) hB; obtain ⟨hc, hf⟩ := below_cell hB; have zz := hB.size; (try simp at zz); have HB := Lib.hid HBn; clear HBn hB)
  have k0 : w.heap.size < w2.heap.size := by omega
  have m0 : w.heap.size < w2.heap.size + 1 := by omega
  have k1 : w.heap.size + 1 < w2.heap.size := by omega
  have m1 : w.heap.size + 1 < w2.heap.size + 1 := by omega
  go_wp2_with fail
  refine (H1.out _ (HH.out.up (by (first | exact HB.out | exact HB.out.drew | exact HB.out.alloc HB.out.size _ | exact (HB.out.alloc HB.out.size _).drew | exact (HB.out.alloc HB.out.size _).alloc (Nat.le_trans HB.out.size (by simp)) _ | exact ((HB.out.alloc HB.out.size _).alloc (Nat.le_trans HB.out.size (by simp)) _).alloc (Nat.le_trans HB.out.size (by simp; omega)) _)))).mono ?_
  rintro e w3 ⟨rfl, hB⟩
  (have HBn : Below w.heap.size w w3 := below_lift (by (first | exact HB.out | exact HB.out.drew | exact HB.out.alloc HB.out.size _ | exact (HB.out.alloc HB.out.size _).drew | exact (HB.out.alloc HB.out.size _).alloc (Nat.le_trans HB.out.size (by simp)) _ | exact ((HB.out.alloc HB.out.size _).alloc (Nat.le_trans HB.out.size (by simp)) _).alloc (Nat.le_trans HB.out.size (by simp; omega)) _)) hB; obtain ⟨hc, hf⟩ := below_cell hB; have zz := hB.size; (try simp at zz); have HB := Lib.hid HBn; clear HBn hB)
  have k0 : w.heap.size < w3.heap.size := by omega
  have m0 : w.heap.size < w3.heap.size + 1 := by omega
  have k1 : w.heap.size + 1 < w3.heap.size := by omega
  have m1 : w.heap.size + 1 < w3.heap.size + 1 := by omega
  have k2 : w2.heap.size < w3.heap.size := by omega
  have m2 : w2.heap.size < w3.heap.size + 1 := by omega
  go_wp2_with fail
  refine (H2.out _).mono ?_
  rintro e w4 ⟨rfl, hB⟩
  (have HBn : Below w.heap.size w w4 := below_lift (by (first | exact HB.out | exact HB.out.drew | exact HB.out.alloc HB.out.size _ | exact (HB.out.alloc HB.out.size _).drew | exact (HB.out.alloc HB.out.size _).alloc (Nat.le_trans HB.out.size (by simp)) _ | exact ((HB.out.alloc HB.out.size _).alloc (Nat.le_trans HB.out.size (by simp)) _).alloc (Nat.le_trans HB.out.size (by simp; omega)) _)) hB; obtain ⟨hc, hf⟩ := below_cell hB; have zz := hB.size; (try simp at zz); have HB := Lib.hid HBn; clear HBn hB)
  have k0 : w.heap.size < w4.heap.size := by omega
  have m0 : w.heap.size < w4.heap.size + 1 := by omega
  have k1 : w.heap.size + 1 < w4.heap.size := by omega
  have m1 : w.heap.size + 1 < w4.heap.size + 1 := by omega
  have k2 : w2.heap.size < w4.heap.size := by omega
  have m2 : w2.heap.size < w4.heap.size + 1 := by omega
  have k3 : w3.heap.size < w4.heap.size := by omega
  have m3 : w3.heap.size < w4.heap.size + 1 := by omega
  go_wp2_with fail
  go_ret
  exact ⟨rfl, by (first | exact HB.out | exact HB.out.drew | exact HB.out.alloc HB.out.size _ | exact (HB.out.alloc HB.out.size _).drew | exact (HB.out.alloc HB.out.size _).alloc (Nat.le_trans HB.out.size (by simp)) _ | exact ((HB.out.alloc HB.out.size _).alloc (Nat.le_trans HB.out.size (by simp)) _).alloc (Nat.le_trans HB.out.size (by simp; omega)) _)⟩

set_option maxHeartbeats 4000000 in
theorem under_yes (a b : Lab) (w : World) (hh : Handle w) (h0 : JoinIs a b b 0) (h1 : MeetIs a b a 0) (h2 : UnderIs a b true) :
    Calls Tryd.prog 6 #[.agg #[.int .i64 a.lv, .int .u64 (u a.c), .int .i64 a.ig], .agg #[.int .i64 b.lv, .int .u64 (u b.c), .int .i64 b.ig]] w (Yes w) := by
  have H0 := Lib.hid h0
  clear h0
  have H1 := Lib.hid h1
  clear h1
  have H2 := Lib.hid h2
  clear h2
  have HH := Lib.hid hh
  clear hh
  have HB := Lib.hid (Below.refl w.heap.size w)
  go_enter Tryd.func6, Tryd.ntmps6
  go_wp2_with fail
  refine (shown_any _ (HH.out.up (by (first | exact HB.out | exact HB.out.drew | exact HB.out.alloc HB.out.size _ | exact (HB.out.alloc HB.out.size _).drew | exact (HB.out.alloc HB.out.size _).alloc (Nat.le_trans HB.out.size (by simp)) _ | exact ((HB.out.alloc HB.out.size _).alloc (Nat.le_trans HB.out.size (by simp)) _).alloc (Nat.le_trans HB.out.size (by simp; omega)) _)))).mono ?_
  rintro e w1 ⟨rfl, hB⟩
  (have HBn : Below w.heap.size w w1 := below_lift (by (first | exact HB.out | exact HB.out.drew | exact HB.out.alloc HB.out.size _ | exact (HB.out.alloc HB.out.size _).drew | exact (HB.out.alloc HB.out.size _).alloc (Nat.le_trans HB.out.size (by simp)) _ | exact ((HB.out.alloc HB.out.size _).alloc (Nat.le_trans HB.out.size (by simp)) _).alloc (Nat.le_trans HB.out.size (by simp; omega)) _)) hB; obtain ⟨hc, hf⟩ := below_cell hB; have zz := hB.size; (try simp at zz); have HB := Lib.hid HBn; clear HBn hB)
  have k0 : w.heap.size < w1.heap.size := by omega
  have m0 : w.heap.size < w1.heap.size + 1 := by omega
  have k1 : w.heap.size + 1 < w1.heap.size := by omega
  have m1 : w.heap.size + 1 < w1.heap.size + 1 := by omega
  go_wp2_with fail
  refine (H0.out _ (HH.out.up (by (first | exact HB.out | exact HB.out.drew | exact HB.out.alloc HB.out.size _ | exact (HB.out.alloc HB.out.size _).drew | exact (HB.out.alloc HB.out.size _).alloc (Nat.le_trans HB.out.size (by simp)) _ | exact ((HB.out.alloc HB.out.size _).alloc (Nat.le_trans HB.out.size (by simp)) _).alloc (Nat.le_trans HB.out.size (by simp; omega)) _)))).mono ?_
  rintro e w2 ⟨rfl, hB⟩
  (have HBn : Below w.heap.size w w2 := below_lift (by (first | exact HB.out | exact HB.out.drew | exact HB.out.alloc HB.out.size _ | exact (HB.out.alloc HB.out.size _).drew | exact (HB.out.alloc HB.out.size _).alloc (Nat.le_trans HB.out.size (by simp)) _ | exact ((HB.out.alloc HB.out.size _).alloc (Nat.le_trans HB.out.size (by simp)) _).alloc (Nat.le_trans HB.out.size (by simp; omega)) _)) hB; obtain ⟨hc, hf⟩ := below_cell hB; have zz := hB.size; (try simp at zz); have HB := Lib.hid HBn; clear HBn hB)
  have k0 : w.heap.size < w2.heap.size := by omega
  have m0 : w.heap.size < w2.heap.size + 1 := by omega
  have k1 : w.heap.size + 1 < w2.heap.size := by omega
  have m1 : w.heap.size + 1 < w2.heap.size + 1 := by omega
  go_wp2_with fail
  refine (H1.out _ (HH.out.up (by (first | exact HB.out | exact HB.out.drew | exact HB.out.alloc HB.out.size _ | exact (HB.out.alloc HB.out.size _).drew | exact (HB.out.alloc HB.out.size _).alloc (Nat.le_trans HB.out.size (by simp)) _ | exact ((HB.out.alloc HB.out.size _).alloc (Nat.le_trans HB.out.size (by simp)) _).alloc (Nat.le_trans HB.out.size (by simp; omega)) _)))).mono ?_
  rintro e w3 ⟨rfl, hB⟩
  (have HBn : Below w.heap.size w w3 := below_lift (by (first | exact HB.out | exact HB.out.drew | exact HB.out.alloc HB.out.size _ | exact (HB.out.alloc HB.out.size _).drew | exact (HB.out.alloc HB.out.size _).alloc (Nat.le_trans HB.out.size (by simp)) _ | exact ((HB.out.alloc HB.out.size _).alloc (Nat.le_trans HB.out.size (by simp)) _).alloc (Nat.le_trans HB.out.size (by simp; omega)) _)) hB; obtain ⟨hc, hf⟩ := below_cell hB; have zz := hB.size; (try simp at zz); have HB := Lib.hid HBn; clear HBn hB)
  have k0 : w.heap.size < w3.heap.size := by omega
  have m0 : w.heap.size < w3.heap.size + 1 := by omega
  have k1 : w.heap.size + 1 < w3.heap.size := by omega
  have m1 : w.heap.size + 1 < w3.heap.size + 1 := by omega
  have k2 : w2.heap.size < w3.heap.size := by omega
  have m2 : w2.heap.size < w3.heap.size + 1 := by omega
  go_wp2_with fail
  refine (H2.out _).mono ?_
  rintro e w4 ⟨rfl, hB⟩
  (have HBn : Below w.heap.size w w4 := below_lift (by (first | exact HB.out | exact HB.out.drew | exact HB.out.alloc HB.out.size _ | exact (HB.out.alloc HB.out.size _).drew | exact (HB.out.alloc HB.out.size _).alloc (Nat.le_trans HB.out.size (by simp)) _ | exact ((HB.out.alloc HB.out.size _).alloc (Nat.le_trans HB.out.size (by simp)) _).alloc (Nat.le_trans HB.out.size (by simp; omega)) _)) hB; obtain ⟨hc, hf⟩ := below_cell hB; have zz := hB.size; (try simp at zz); have HB := Lib.hid HBn; clear HBn hB)
  have k0 : w.heap.size < w4.heap.size := by omega
  have m0 : w.heap.size < w4.heap.size + 1 := by omega
  have k1 : w.heap.size + 1 < w4.heap.size := by omega
  have m1 : w.heap.size + 1 < w4.heap.size + 1 := by omega
  have k2 : w2.heap.size < w4.heap.size := by omega
  have m2 : w2.heap.size < w4.heap.size + 1 := by omega
  have k3 : w3.heap.size < w4.heap.size := by omega
  have m3 : w3.heap.size < w4.heap.size + 1 := by omega
  go_wp2_with fail
  go_ret
  exact ⟨rfl, by (first | exact HB.out | exact HB.out.drew | exact HB.out.alloc HB.out.size _ | exact (HB.out.alloc HB.out.size _).drew | exact (HB.out.alloc HB.out.size _).alloc (Nat.le_trans HB.out.size (by simp)) _ | exact ((HB.out.alloc HB.out.size _).alloc (Nat.le_trans HB.out.size (by simp)) _).alloc (Nat.le_trans HB.out.size (by simp; omega)) _)⟩

set_option maxHeartbeats 4000000 in
theorem under_no (a b x y : Lab) (w : World) (hh : Handle w) (h0 : JoinIs a b x 0) (h1 : MeetIs a b y 0) (h2 : UnderIs a b false) (h3 : ∀ W, (binOp .eql 24 (.agg #[.int .i64 x.lv, .int .u64 (u x.c), .int .i64 x.ig]) (.agg #[.int .i64 b.lv, .int .u64 (u b.c), .int .i64 b.ig])).run Tryd.prog W = .ok (.bool false) W) (h4 : ∀ W, (binOp .eql 24 (.agg #[.int .i64 y.lv, .int .u64 (u y.c), .int .i64 y.ig]) (.agg #[.int .i64 a.lv, .int .u64 (u a.c), .int .i64 a.ig])).run Tryd.prog W = .ok (.bool false) W) :
    Calls Tryd.prog 6 #[.agg #[.int .i64 a.lv, .int .u64 (u a.c), .int .i64 a.ig], .agg #[.int .i64 b.lv, .int .u64 (u b.c), .int .i64 b.ig]] w (Yes w) := by
  have H0 := Lib.hid h0
  clear h0
  have H1 := Lib.hid h1
  clear h1
  have H2 := Lib.hid h2
  clear h2
  have HH := Lib.hid hh
  clear hh
  have HB := Lib.hid (Below.refl w.heap.size w)
  go_enter Tryd.func6, Tryd.ntmps6
  go_wp2_with fail
  refine (shown_any _ (HH.out.up (by (first | exact HB.out | exact HB.out.drew | exact HB.out.alloc HB.out.size _ | exact (HB.out.alloc HB.out.size _).drew | exact (HB.out.alloc HB.out.size _).alloc (Nat.le_trans HB.out.size (by simp)) _ | exact ((HB.out.alloc HB.out.size _).alloc (Nat.le_trans HB.out.size (by simp)) _).alloc (Nat.le_trans HB.out.size (by simp; omega)) _)))).mono ?_
  rintro e w1 ⟨rfl, hB⟩
  (have HBn : Below w.heap.size w w1 := below_lift (by (first | exact HB.out | exact HB.out.drew | exact HB.out.alloc HB.out.size _ | exact (HB.out.alloc HB.out.size _).drew | exact (HB.out.alloc HB.out.size _).alloc (Nat.le_trans HB.out.size (by simp)) _ | exact ((HB.out.alloc HB.out.size _).alloc (Nat.le_trans HB.out.size (by simp)) _).alloc (Nat.le_trans HB.out.size (by simp; omega)) _)) hB; obtain ⟨hc, hf⟩ := below_cell hB; have zz := hB.size; (try simp at zz); have HB := Lib.hid HBn; clear HBn hB)
  have k0 : w.heap.size < w1.heap.size := by omega
  have m0 : w.heap.size < w1.heap.size + 1 := by omega
  have k1 : w.heap.size + 1 < w1.heap.size := by omega
  have m1 : w.heap.size + 1 < w1.heap.size + 1 := by omega
  go_wp2_with fail
  refine (H0.out _ (HH.out.up (by (first | exact HB.out | exact HB.out.drew | exact HB.out.alloc HB.out.size _ | exact (HB.out.alloc HB.out.size _).drew | exact (HB.out.alloc HB.out.size _).alloc (Nat.le_trans HB.out.size (by simp)) _ | exact ((HB.out.alloc HB.out.size _).alloc (Nat.le_trans HB.out.size (by simp)) _).alloc (Nat.le_trans HB.out.size (by simp; omega)) _)))).mono ?_
  rintro e w2 ⟨rfl, hB⟩
  (have HBn : Below w.heap.size w w2 := below_lift (by (first | exact HB.out | exact HB.out.drew | exact HB.out.alloc HB.out.size _ | exact (HB.out.alloc HB.out.size _).drew | exact (HB.out.alloc HB.out.size _).alloc (Nat.le_trans HB.out.size (by simp)) _ | exact ((HB.out.alloc HB.out.size _).alloc (Nat.le_trans HB.out.size (by simp)) _).alloc (Nat.le_trans HB.out.size (by simp; omega)) _)) hB; obtain ⟨hc, hf⟩ := below_cell hB; have zz := hB.size; (try simp at zz); have HB := Lib.hid HBn; clear HBn hB)
  have k0 : w.heap.size < w2.heap.size := by omega
  have m0 : w.heap.size < w2.heap.size + 1 := by omega
  have k1 : w.heap.size + 1 < w2.heap.size := by omega
  have m1 : w.heap.size + 1 < w2.heap.size + 1 := by omega
  go_wp2_with fail
  refine (H1.out _ (HH.out.up (by (first | exact HB.out | exact HB.out.drew | exact HB.out.alloc HB.out.size _ | exact (HB.out.alloc HB.out.size _).drew | exact (HB.out.alloc HB.out.size _).alloc (Nat.le_trans HB.out.size (by simp)) _ | exact ((HB.out.alloc HB.out.size _).alloc (Nat.le_trans HB.out.size (by simp)) _).alloc (Nat.le_trans HB.out.size (by simp; omega)) _)))).mono ?_
  rintro e w3 ⟨rfl, hB⟩
  (have HBn : Below w.heap.size w w3 := below_lift (by (first | exact HB.out | exact HB.out.drew | exact HB.out.alloc HB.out.size _ | exact (HB.out.alloc HB.out.size _).drew | exact (HB.out.alloc HB.out.size _).alloc (Nat.le_trans HB.out.size (by simp)) _ | exact ((HB.out.alloc HB.out.size _).alloc (Nat.le_trans HB.out.size (by simp)) _).alloc (Nat.le_trans HB.out.size (by simp; omega)) _)) hB; obtain ⟨hc, hf⟩ := below_cell hB; have zz := hB.size; (try simp at zz); have HB := Lib.hid HBn; clear HBn hB)
  have k0 : w.heap.size < w3.heap.size := by omega
  have m0 : w.heap.size < w3.heap.size + 1 := by omega
  have k1 : w.heap.size + 1 < w3.heap.size := by omega
  have m1 : w.heap.size + 1 < w3.heap.size + 1 := by omega
  have k2 : w2.heap.size < w3.heap.size := by omega
  have m2 : w2.heap.size < w3.heap.size + 1 := by omega
  go_wp2_with fail
  refine (H2.out _).mono ?_
  rintro e w4 ⟨rfl, hB⟩
  (have HBn : Below w.heap.size w w4 := below_lift (by (first | exact HB.out | exact HB.out.drew | exact HB.out.alloc HB.out.size _ | exact (HB.out.alloc HB.out.size _).drew | exact (HB.out.alloc HB.out.size _).alloc (Nat.le_trans HB.out.size (by simp)) _ | exact ((HB.out.alloc HB.out.size _).alloc (Nat.le_trans HB.out.size (by simp)) _).alloc (Nat.le_trans HB.out.size (by simp; omega)) _)) hB; obtain ⟨hc, hf⟩ := below_cell hB; have zz := hB.size; (try simp at zz); have HB := Lib.hid HBn; clear HBn hB)
  have k0 : w.heap.size < w4.heap.size := by omega
  have m0 : w.heap.size < w4.heap.size + 1 := by omega
  have k1 : w.heap.size + 1 < w4.heap.size := by omega
  have m1 : w.heap.size + 1 < w4.heap.size + 1 := by omega
  have k2 : w2.heap.size < w4.heap.size := by omega
  have m2 : w2.heap.size < w4.heap.size + 1 := by omega
  have k3 : w3.heap.size < w4.heap.size := by omega
  have m3 : w3.heap.size < w4.heap.size + 1 := by omega
  go_wp2_with fail
  go_ret
  exact ⟨rfl, by (first | exact HB.out | exact HB.out.drew | exact HB.out.alloc HB.out.size _ | exact (HB.out.alloc HB.out.size _).drew | exact (HB.out.alloc HB.out.size _).alloc (Nat.le_trans HB.out.size (by simp)) _ | exact ((HB.out.alloc HB.out.size _).alloc (Nat.le_trans HB.out.size (by simp)) _).alloc (Nat.le_trans HB.out.size (by simp; omega)) _)⟩

theorem nbool {x : Bool} (h : ¬ x = true) : x = false := by cases x <;> simp_all
theorem underL_ok {a b : Lab} (ha : okL a = true) (hb : okL b = true) : underL a b = le3 a b := by unfold underL; rw [ha, hb]; rfl
theorem joins_walk (a b c : Lab) (w : World) (hh : Handle w) : Calls Tryd.prog 3 #[.agg #[.int .i64 a.lv, .int .u64 (u a.c), .int .i64 a.ig], .agg #[.int .i64 b.lv, .int .u64 (u b.c), .int .i64 b.ig], .agg #[.int .i64 c.lv, .int .u64 (u c.c), .int .i64 c.ig]] w (Yes w) := by
  by_cases ha : okL a = true
  · by_cases hb : okL b = true
    · have hx := okL_join ha hb
      have h0 := joinIs ha hb
      have h1 := underIs (underL_iff.2 ⟨ha, hx, le3_join_l a b⟩)
      have h2 := underIs (underL_iff.2 ⟨hb, hx, le3_join_r a b⟩)
      by_cases k1 : underL a c = true
      · by_cases k2 : underL b c = true
        · have q1 := underL_iff.1 k1
          have q2 := underL_iff.1 k2
          exact joins_ok3 a b c _ w hh h0 h1 h2 (underIs k1) (underIs k2) (underIs (underL_iff.2 ⟨hx, q1.2.1, le3_join_of q1.2.2 q2.2.2⟩))
        · exact joins_ok2 a b c _ w hh h0 h1 h2 (underIs k1) (underIs (nbool k2))
      · exact joins_ok1 a b c _ w hh h0 h1 h2 (underIs (nbool k1))
    · exact joins_bad2 a b c w hh (joinNo fun h => hb h.2) (rightIs ha) (rightIs (nbool hb))
  · exact joins_bad1 a b c w hh (joinNo fun h => ha h.1) (rightIs (nbool ha))
theorem meets_walk (a b c : Lab) (w : World) (hh : Handle w) : Calls Tryd.prog 4 #[.agg #[.int .i64 a.lv, .int .u64 (u a.c), .int .i64 a.ig], .agg #[.int .i64 b.lv, .int .u64 (u b.c), .int .i64 b.ig], .agg #[.int .i64 c.lv, .int .u64 (u c.c), .int .i64 c.ig]] w (Yes w) := by
  by_cases ha : okL a = true
  · by_cases hb : okL b = true
    · have hx := okL_meet ha hb
      have h0 := meetIs ha hb
      have h1 := underIs (underL_iff.2 ⟨hx, ha, le3_meet_l a b⟩)
      have h2 := underIs (underL_iff.2 ⟨hx, hb, le3_meet_r a b⟩)
      by_cases k1 : underL c a = true
      · by_cases k2 : underL c b = true
        · have q1 := underL_iff.1 k1
          have q2 := underL_iff.1 k2
          exact meets_ok3 a b c _ w hh h0 h1 h2 (underIs k1) (underIs k2) (underIs (underL_iff.2 ⟨q1.1, hx, le3_meet_of q1.2.2 q2.2.2⟩))
        · exact meets_ok2 a b c _ w hh h0 h1 h2 (underIs k1) (underIs (nbool k2))
      · exact meets_ok1 a b c _ w hh h0 h1 h2 (underIs (nbool k1))
    · exact meets_bad2 a b c w hh (meetNo fun h => hb h.2) (rightIs ha) (rightIs (nbool hb))
  · exact meets_bad1 a b c w hh (meetNo fun h => ha h.1) (rightIs (nbool ha))
theorem turns_walk (a b c : Lab) (w : World) (hh : Handle w) : Calls Tryd.prog 5 #[.agg #[.int .i64 a.lv, .int .u64 (u a.c), .int .i64 a.ig], .agg #[.int .i64 b.lv, .int .u64 (u b.c), .int .i64 b.ig], .agg #[.int .i64 c.lv, .int .u64 (u c.c), .int .i64 c.ig]] w (Yes w) := by
  by_cases hab : okL a = true ∧ okL b = true
  · obtain ⟨ha, hb⟩ := hab
    have h0 := joinIs ha hb
    have h1 := joinIs hb ha
    rw [joinL_comm b a] at h1
    have h5 := meetIs ha hb
    have h6 := meetIs hb ha
    rw [meetL_comm b a] at h6
    have h7 := joinIs ha (okL_meet ha hb)
    rw [joinL_meet] at h7
    by_cases hc : okL c = true
    · have h2 := joinIs (okL_join ha hb) hc
      have h4 := joinIs ha (okL_join hb hc)
      rw [← joinL_assoc] at h4
      exact turns_ok2 a b c _ _ _ _ _ w hh h0 h1 h2 (joinIs hb hc) h4 h5 h6 h7
    · obtain ⟨q, h, h4⟩ := joinSome a zeroL
      exact turns_ok1 a b c _ _ _ _ _ _ _ w hh h0 h1 (joinNo fun k => hc k.2) (joinNo fun k => hc k.2) h4 h5 h6 h7
  · have hba : ¬ (okL b = true ∧ okL a = true) := fun k => hab ⟨k.2, k.1⟩
    obtain ⟨p, g, h2⟩ := joinSome zeroL c
    obtain ⟨z, m, h3⟩ := joinSome b c
    obtain ⟨q, h, h4⟩ := joinSome a z
    obtain ⟨r, k, h7⟩ := joinSome a zeroL
    exact turns_bad a b c _ _ _ _ _ _ _ _ _ _ _ _ w hh (joinNo hab) (joinNo hba) h2 h3 h4 (meetNo hab) (meetNo hba) h7
theorem eqlIs {a b : Lab} {r : Bool} (h : eqL a b = r) : ∀ W, (binOp .eql 24 (.agg #[.int .i64 a.lv, .int .u64 (u a.c), .int .i64 a.ig]) (.agg #[.int .i64 b.lv, .int .u64 (u b.c), .int .i64 b.ig])).run Tryd.prog W = .ok (.bool r) W := fun W => by rw [← h]; exact eql_lab a b W
theorem under_walk (a b : Lab) (w : World) (hh : Handle w) : Calls Tryd.prog 6 #[.agg #[.int .i64 a.lv, .int .u64 (u a.c), .int .i64 a.ig], .agg #[.int .i64 b.lv, .int .u64 (u b.c), .int .i64 b.ig]] w (Yes w) := by
  by_cases hab : okL a = true ∧ okL b = true
  · obtain ⟨ha, hb⟩ := hab
    have h0 := joinIs ha hb
    have h1 := meetIs ha hb
    by_cases hl : le3 a b = true
    · rw [le3_join_eq.1 hl] at h0
      rw [le3_meet_eq.1 hl] at h1
      exact under_yes a b w hh h0 h1 (underIs (underL_iff.2 ⟨ha, hb, hl⟩))
    · exact under_no a b _ _ w hh h0 h1 (underIs (nbool fun k => hl (underL_iff.1 k).2.2)) (eqlIs (nbool fun k => hl (le3_join_eq.2 (eqL_iff.1 k)))) (eqlIs (nbool fun k => hl (le3_meet_eq.2 (eqL_iff.1 k))))
  · exact under_bad a b _ _ w hh (joinNo hab) (meetNo hab) (underIs (nbool fun k => hab ⟨(underL_iff.1 k).1, (underL_iff.1 k).2.1⟩))
end Go.Proofs.YtapgeagmdiphgaaDoor
