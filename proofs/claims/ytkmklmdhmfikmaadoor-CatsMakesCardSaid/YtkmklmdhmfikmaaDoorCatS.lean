/-
  THE WALK OF plimsolllaw01.shown: the answer that is known.
-/
import Derived.Test.YtkmklmdhmfikmaaDoorCatB
namespace Go.Proofs.YtkmklmdhmfikmaaDoor
open Go.RowKit

attribute [local go_sem] u_and u_or u_andNot u_add u_sub u_bit u_eq_zero u_beq

theorem below_lift {w w1 w2 : World} (h : Below w.heap.size w w1) (k : Below w1.heap.size w1 w2) : Below w.heap.size w w2 := h.trans (k.mono h.size)
theorem Sent.up {w w' : World} {a : Addr} (h : Sent w a) (hb : Below w.heap.size w w') : Sent w' a := h.below hb h.lt
theorem k_of3 : u (ofSet [5, 0, 5]) = 33 ∧ ofErr [5, 0, 5] = 0 := by decide +kernel
theorem k_of64 : u (ofSet [64]) = 0 ∧ ofErr [64] = 10 := by decide +kernel
theorem k_with : u (0#64 ||| bit 63) = 9223372036854775808 := by decide +kernel
theorem k_count : u 33#64 = 33 ∧ pc 33#64 = 2 := by decide +kernel
theorem k_sub : u 1#64 = 1 ∧ sub 1#64 33#64 = true := by decide +kernel

set_option maxHeartbeats 1000000 in
theorem shown_any (a : Addr) (w : World) (hs : Sent w a) :
    Calls Tryd.prog 9 #[] w fun e w' => e = .returned (.bool true) ∧ Below w.heap.size w w' := by
  have HOf := Lib.hid (Of_any (.slice (some ⟨w.heap.size, 0, none⟩) 3 3) [5, 0, 5] a (w.alloc (.cells #[.int .i64 5, .int .i64 0, .int .i64 5] 3)) (hs.alloc _)
    (.inr ⟨w.heap.size, 0, 3, rfl, by simp, by simp, by simp, fun k hk => by
      have hk3 : k < 3 := hk
      rcases k with _ | _ | _ | k
      · exact World.cell?_alloc_at _ _ _ _ (by simp)
      · exact World.cell?_alloc_at _ _ _ _ (by simp)
      · exact World.cell?_alloc_at _ _ _ _ (by simp)
      · omega⟩))
  have H1 : ∀ W, Calls Tryd.prog 14 #[.int .u64 33] W fun e w' => e = .returned (.int .i64 2) ∧ W = w' := fun W => by
    have h := Count_any 33#64 W
    rw [k_count.1, k_count.2] at h; exact h
  have H2 : ∀ W, Calls Tryd.prog 10 #[.int .u64 1, .int .u64 33] W fun e w' => e = .returned (.bool true) ∧ W = w' := fun W => by
    have h := sub_any 1#64 33#64 W
    rw [k_count.1, k_sub.1, k_sub.2] at h; exact h
  have HH1 := Lib.hid H1
  have HH2 := Lib.hid H2
  have HS := Lib.hid hs
  clear H1 H2 hs
  go_enter Tryd.func9, Tryd.ntmps9
  go_wp2_with fail
  refine HOf.out.mono ?_
  rw [k_of3.1, k_of3.2]
  rintro e w1 ⟨rfl, hB1⟩
  have hB1' : Below w.heap.size w w1 := below_lift ((Below.refl _ _).alloc (Nat.le_refl _) _) hB1
  have HB1 := Lib.hid hB1'
  clear hB1 hB1' HOf
  have HWith := With_ok 0#64 63 a w1 (HS.out.up HB1.out) (by omega)
  rw [u_zero, k_with] at HWith
  have HW := Lib.hid HWith
  clear HWith
  go_wp2_with fail
  refine HW.out.mono ?_
  rintro e w2 ⟨rfl, hB2⟩
  have HB2 := Lib.hid (below_lift HB1.out hB2)
  clear hB2 HW
  have HO2 := Of_any (.slice (some ⟨w2.heap.size, 0, none⟩) 1 1) [64] a (w2.alloc (.cells #[.int .i64 64] 3)) ((HS.out.up HB2.out).alloc _)
    (.inr ⟨w2.heap.size, 0, 1, rfl, by simp, by simp, by simp, fun k hk => by
      have hk3 : k < 1 := hk
      rcases k with _ | k
      · exact World.cell?_alloc_at _ _ _ _ (by simp)
      · omega⟩)
  rw [k_of64.1, k_of64.2] at HO2
  have HO := Lib.hid HO2
  clear HO2
  go_wp2_with fail
  refine HO.out.mono ?_
  rintro e w3 ⟨rfl, hB3⟩
  have HB3 := Lib.hid (below_lift (below_lift HB2.out ((Below.refl _ _).alloc (Nat.le_refl _) _)) hB3)
  clear hB3 HO
  go_wp2_with (first | (go_at_call 14; refine (HH1.out _).mono ?_; rintro e w' ⟨rfl, rfl⟩) | (go_at_call 10; refine (HH2.out _).mono ?_; rintro e w' ⟨rfl, rfl⟩))
  go_ret
  exact ⟨rfl, HB3.out⟩
end Go.Proofs.YtkmklmdhmfikmaaDoor
