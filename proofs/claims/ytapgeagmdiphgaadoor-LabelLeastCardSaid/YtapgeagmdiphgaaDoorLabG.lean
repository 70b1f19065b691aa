/-
  THE WALKS OF PACKAGE label, part five: Join, Meet of any two, Bottom, Top; plimsolllaw02.shown.
-/
import Derived.Test.YtapgeagmdiphgaaDoorLabD
import Derived.Test.YtapgeagmdiphgaaDoorLabQ
import Derived.Test.YtapgeagmdiphgaaDoorClose
namespace Go.Proofs.YtapgeagmdiphgaaDoor
open Go.RowKit

attribute [local go_sem] u_and u_or u_andNot u_add u_sub u_bit u_eq_zero u_beq

theorem Join_any (a b : Lab) (w : World) (hh : Handle w) :
    Calls Tryd.prog 12 #[.agg #[.int .i64 a.lv, .int .u64 (u a.c), .int .i64 a.ig], .agg #[.int .i64 b.lv, .int .u64 (u b.c), .int .i64 b.ig]] w fun e w' => ∃ x n, e = .returned (.tuple #[.agg #[.int .i64 x.lv, .int .u64 (u x.c), .int .i64 x.ig], .int .i64 n]) ∧ JoinS a b x n ∧ Below w.heap.size w w' := by
  by_cases h : okL a = true ∧ okL b = true
  · exact (Join_ok a b w h.1 h.2).mono fun e w' k => ⟨joinL a b, 0, k.1, .ok h.1 h.2, k.2⟩
  · exact (Join_bad a b w (fun _ k => hh.up k) h).mono fun e w' k => ⟨zeroL, 20, k.1, .bad h, k.2⟩
theorem Meet_any (a b : Lab) (w : World) (hh : Handle w) :
    Calls Tryd.prog 15 #[.agg #[.int .i64 a.lv, .int .u64 (u a.c), .int .i64 a.ig], .agg #[.int .i64 b.lv, .int .u64 (u b.c), .int .i64 b.ig]] w fun e w' => ∃ x n, e = .returned (.tuple #[.agg #[.int .i64 x.lv, .int .u64 (u x.c), .int .i64 x.ig], .int .i64 n]) ∧ MeetS a b x n ∧ Below w.heap.size w w' := by
  by_cases h : okL a = true ∧ okL b = true
  · exact (Meet_ok a b w h.1 h.2).mono fun e w' k => ⟨meetL a b, 0, k.1, .ok h.1 h.2, k.2⟩
  · exact (Meet_bad a b w (fun _ k => hh.up k) h).mono fun e w' k => ⟨zeroL, 20, k.1, .bad h, k.2⟩

set_option maxHeartbeats 4000000 in
theorem shown_any (w : World) (hh : Handle w) : Calls Tryd.prog 11 #[] w (Yes w) := by
  have j1 : ∀ W, Calls Tryd.prog 12 #[.agg #[.int .i64 3, .int .u64 1, .int .i64 5], .agg #[.int .i64 2, .int .u64 2, .int .i64 6]] W
      fun e w' => e = .returned (.tuple #[.agg #[.int .i64 3, .int .u64 3, .int .i64 5], .int .i64 0]) ∧ Below W.heap.size W w' := fun W => Join_ok ⟨3, 1#64, 5⟩ ⟨2, 2#64, 6⟩ W rfl rfl
  have j2 : ∀ W, Calls Tryd.prog 15 #[.agg #[.int .i64 3, .int .u64 1, .int .i64 5], .agg #[.int .i64 2, .int .u64 2, .int .i64 6]] W
      fun e w' => e = .returned (.tuple #[.agg #[.int .i64 2, .int .u64 0, .int .i64 6], .int .i64 0]) ∧ Below W.heap.size W w' := fun W => Meet_ok ⟨3, 1#64, 5⟩ ⟨2, 2#64, 6⟩ W rfl rfl
  have j3 : ∀ W, Handle W → Calls Tryd.prog 12 #[.agg #[.int .i64 3, .int .u64 1, .int .i64 5], .agg #[.int .i64 16, .int .u64 0, .int .i64 0]] W
      fun e w' => e = .returned (.tuple #[.agg #[.int .i64 0, .int .u64 0, .int .i64 0], .int .i64 20]) ∧ Below W.heap.size W w' := fun W hW => Join_bad ⟨3, 1#64, 5⟩ ⟨16, 0#64, 0⟩ W (fun _ k => hW.up k) (by decide)
  have j4 : ∀ W, Calls Tryd.prog 14 #[.agg #[.int .i64 2, .int .u64 2, .int .i64 6], .agg #[.int .i64 3, .int .u64 3, .int .i64 5]] W
      fun e w' => e = .returned (.bool true) ∧ Below W.heap.size W w' := fun W => Under_any ⟨2, 2#64, 6⟩ ⟨3, 3#64, 5⟩ W
  have j5 : ∀ W, Calls Tryd.prog 14 #[.agg #[.int .i64 3, .int .u64 1, .int .i64 5], .agg #[.int .i64 2, .int .u64 2, .int .i64 6]] W
      fun e w' => e = .returned (.bool false) ∧ Below W.heap.size W w' := fun W => Under_any ⟨3, 1#64, 5⟩ ⟨2, 2#64, 6⟩ W
  have J1 := Lib.hid j1
  have J2 := Lib.hid j2
  have J3 := Lib.hid j3
  have J4 := Lib.hid j4
  have J5 := Lib.hid j5
  have HH := Lib.hid hh
  clear j1 j2 j3 j4 j5 hh
  have HB := Lib.hid (Below.refl w.heap.size w)
  go_enter Tryd.func11, Tryd.ntmps11
  go_wp2_with fail
  refine (J1.out _).mono ?_
  rintro e w1 ⟨rfl, hB⟩
  (have HBn : Below w.heap.size w w1 := below_lift (by (first | exact HB.out | exact HB.out.drew | exact HB.out.alloc HB.out.size _ | exact (HB.out.alloc HB.out.size _).drew | exact (HB.out.alloc HB.out.size _).alloc (Nat.le_trans HB.out.size (by simp)) _ | exact ((HB.out.alloc HB.out.size _).alloc (Nat.le_trans HB.out.size (by simp)) _).alloc (Nat.le_trans HB.out.size (by simp; omega)) _)) hB; obtain ⟨hc, hf⟩ := below_cell hB; have zz := hB.size; (try simp at zz); have HB := Lib.hid HBn; clear HBn hB)
  have k0 : w.heap.size < w1.heap.size := by omega
  have m0 : w.heap.size < w1.heap.size + 1 := by omega
  have k1 : w.heap.size + 1 < w1.heap.size := by omega
  have m1 : w.heap.size + 1 < w1.heap.size + 1 := by omega
  go_wp2_with fail
  refine (J2.out _).mono ?_
  rintro e w2 ⟨rfl, hB⟩
  (have HBn : Below w.heap.size w w2 := below_lift (by (first | exact HB.out | exact HB.out.drew | exact HB.out.alloc HB.out.size _ | exact (HB.out.alloc HB.out.size _).drew | exact (HB.out.alloc HB.out.size _).alloc (Nat.le_trans HB.out.size (by simp)) _ | exact ((HB.out.alloc HB.out.size _).alloc (Nat.le_trans HB.out.size (by simp)) _).alloc (Nat.le_trans HB.out.size (by simp; omega)) _)) hB; obtain ⟨hc, hf⟩ := below_cell hB; have zz := hB.size; (try simp at zz); have HB := Lib.hid HBn; clear HBn hB)
  have k0 : w.heap.size < w2.heap.size := by omega
  have m0 : w.heap.size < w2.heap.size + 1 := by omega
  have k1 : w.heap.size + 1 < w2.heap.size := by omega
  have m1 : w.heap.size + 1 < w2.heap.size + 1 := by omega
  have k2 : w1.heap.size < w2.heap.size := by omega
  have m2 : w1.heap.size < w2.heap.size + 1 := by omega
  go_wp2_with fail
  refine (J3.out _ (HH.out.up (by (first | exact HB.out | exact HB.out.drew | exact HB.out.alloc HB.out.size _ | exact (HB.out.alloc HB.out.size _).drew | exact (HB.out.alloc HB.out.size _).alloc (Nat.le_trans HB.out.size (by simp)) _ | exact ((HB.out.alloc HB.out.size _).alloc (Nat.le_trans HB.out.size (by simp)) _).alloc (Nat.le_trans HB.out.size (by simp; omega)) _)))).mono ?_
  rintro e w3 ⟨rfl, hB⟩
  (have HBn : Below w.heap.size w w3 := below_lift (by (first | exact HB.out | exact HB.out.drew | exact HB.out.alloc HB.out.size _ | exact (HB.out.alloc HB.out.size _).drew | exact (HB.out.alloc HB.out.size _).alloc (Nat.le_trans HB.out.size (by simp)) _ | exact ((HB.out.alloc HB.out.size _).alloc (Nat.le_trans HB.out.size (by simp)) _).alloc (Nat.le_trans HB.out.size (by simp; omega)) _)) hB; obtain ⟨hc, hf⟩ := below_cell hB; have zz := hB.size; (try simp at zz); have HB := Lib.hid HBn; clear HBn hB)
  have k0 : w.heap.size < w3.heap.size := by omega
  have m0 : w.heap.size < w3.heap.size + 1 := by omega
  have k1 : w.heap.size + 1 < w3.heap.size := by omega
  have m1 : w.heap.size + 1 < w3.heap.size + 1 := by omega
  have k2 : w1.heap.size < w3.heap.size := by omega
  have m2 : w1.heap.size < w3.heap.size + 1 := by omega
  have k3 : w2.heap.size < w3.heap.size := by omega
  have m3 : w2.heap.size < w3.heap.size + 1 := by omega
  go_wp2_with fail
  refine (J4.out _).mono ?_
  rintro e w4 ⟨rfl, hB⟩
  (have HBn : Below w.heap.size w w4 := below_lift (by (first | exact HB.out | exact HB.out.drew | exact HB.out.alloc HB.out.size _ | exact (HB.out.alloc HB.out.size _).drew | exact (HB.out.alloc HB.out.size _).alloc (Nat.le_trans HB.out.size (by simp)) _ | exact ((HB.out.alloc HB.out.size _).alloc (Nat.le_trans HB.out.size (by simp)) _).alloc (Nat.le_trans HB.out.size (by simp; omega)) _)) hB; obtain ⟨hc, hf⟩ := below_cell hB; have zz := hB.size; (try simp at zz); have HB := Lib.hid HBn; clear HBn hB)
  have k0 : w.heap.size < w4.heap.size := by omega
  have m0 : w.heap.size < w4.heap.size + 1 := by omega
  have k1 : w.heap.size + 1 < w4.heap.size := by omega
  have m1 : w.heap.size + 1 < w4.heap.size + 1 := by omega
  have k2 : w1.heap.size < w4.heap.size := by omega
  have m2 : w1.heap.size < w4.heap.size + 1 := by omega
  have k3 : w2.heap.size < w4.heap.size := by omega
  have m3 : w2.heap.size < w4.heap.size + 1 := by omega
  have k4 : w3.heap.size < w4.heap.size := by omega
  have m4 : w3.heap.size < w4.heap.size + 1 := by omega
  go_wp2_with fail
  refine (J5.out _).mono ?_
  rintro e w5 ⟨rfl, hB⟩
  (have HBn : Below w.heap.size w w5 := below_lift (by (first | exact HB.out | exact HB.out.drew | exact HB.out.alloc HB.out.size _ | exact (HB.out.alloc HB.out.size _).drew | exact (HB.out.alloc HB.out.size _).alloc (Nat.le_trans HB.out.size (by simp)) _ | exact ((HB.out.alloc HB.out.size _).alloc (Nat.le_trans HB.out.size (by simp)) _).alloc (Nat.le_trans HB.out.size (by simp; omega)) _)) hB; obtain ⟨hc, hf⟩ := below_cell hB; have zz := hB.size; (try simp at zz); have HB := Lib.hid HBn; clear HBn hB)
  have k0 : w.heap.size < w5.heap.size := by omega
  have m0 : w.heap.size < w5.heap.size + 1 := by omega
  have k1 : w.heap.size + 1 < w5.heap.size := by omega
  have m1 : w.heap.size + 1 < w5.heap.size + 1 := by omega
  have k2 : w1.heap.size < w5.heap.size := by omega
  have m2 : w1.heap.size < w5.heap.size + 1 := by omega
  have k3 : w2.heap.size < w5.heap.size := by omega
  have m3 : w2.heap.size < w5.heap.size + 1 := by omega
  have k4 : w3.heap.size < w5.heap.size := by omega
  have m4 : w3.heap.size < w5.heap.size + 1 := by omega
  go_wp2_with fail
  go_ret
  exact ⟨rfl, HB.out⟩
end Go.Proofs.YtapgeagmdiphgaaDoor
