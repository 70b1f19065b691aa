/-
  THE WALKS OF THE STATEMENTS CatsCompares, CatsParts, CatsCounts, CatsSteps.
-/
import Derived.Test.YtkmklmdhmfikmaaDoorClose
import Derived.Test.YtkmklmdhmfikmaaDoorCatS
import Derived.Test.YtkmklmdhmfikmaaDoorCatR
import Derived.Test.YtkmklmdhmfikmaaDoorCatQ
namespace Go.Proofs.YtkmklmdhmfikmaaDoor
open Go.RowKit

attribute [local go_sem] u_and u_or u_andNot u_add u_sub u_bit u_eq_zero u_beq

set_option maxHeartbeats 1000000 in
theorem compares_walk (x y : BitVec 64) (a : Addr) (w : World) (hs : Sent w a) :
    Calls Tryd.prog 3 #[.int .u64 (u x), .int .u64 (u y)] w (Yes w) := by
  have HS := Lib.hid hs
  clear hs
  go_enter Tryd.func3, Tryd.ntmps3
  go_wp2_with (first
    | (go_at_call 9; refine (shown_any a _ HS.out).mono ?_; rintro e w1 ⟨rfl, hB1⟩)
    | (go_at_call 10; refine (sub_any x y _).mono ?_; rintro e w' ⟨rfl, rfl⟩)
    | (go_at_call 11; refine (rSub_any x y _).mono ?_; rintro e w' ⟨rfl, rfl⟩)
    | (go_at_call 12; refine (less_any x y _).mono ?_; rintro e w' ⟨rfl, rfl⟩)
    | (go_at_call 13; refine (rLess_any x y _).mono ?_; rintro e w' ⟨rfl, rfl⟩)
    | (go_at_call 14; refine (Count_any x _).mono ?_; rintro e w' ⟨rfl, rfl⟩)
    | (go_at_call 15; refine (rCount_any x _).mono ?_; rintro e w2 ⟨rfl, hB2⟩))
  go_ret
  exact ⟨rfl, below_lift hB1 hB2⟩

set_option maxHeartbeats 1000000 in
theorem parts_core (x y L O : BitVec 64) (a : Addr) (w : World) (hs : Sent w a) (hL : x &&& ~~~y = L) (hO : x &&& ~~~L = O) (hsub : sub x y = (L == 0#64)) (hLx : sub L x = true) (hOy : sub O y = true) (hadd : L + O = x)
    (hpc : ((pc L : Int) + (pc O : Int)) = (pc x : Int)) (h1 : (pc L : Int) ≤ 64) (h2 : (pc O : Int) ≤ 64) :
    Calls Tryd.prog 4 #[.int .u64 (u x), .int .u64 (u y)] w (Yes w) := by
  have HS := Lib.hid hs
  clear hs
  have cL : ∀ W, Calls Tryd.prog 12 #[.int .u64 (u x), .int .u64 (u y)] W fun e w' => e = .returned (.int .u64 (u L)) ∧ W = w' := fun W => by rw [← hL]; exact less_any x y W
  have cO : ∀ W, Calls Tryd.prog 12 #[.int .u64 (u x), .int .u64 (u L)] W fun e w' => e = .returned (.int .u64 (u O)) ∧ W = w' := fun W => by rw [← hO]; exact less_any x L W
  have HL := Lib.hid cL
  have HO := Lib.hid cO
  clear cL cO hL hO
  go_enter Tryd.func4, Tryd.ntmps4
  go_wp2_with (go_at_call 9; refine (shown_any a _ HS.out).mono ?_; rintro e w1 ⟨rfl, hB1⟩)
  refine (HL.out _).mono ?_
  rintro e w' ⟨rfl, rfl⟩
  go_wp2_with fail
  refine (HO.out _).mono ?_
  rintro e w' ⟨rfl, rfl⟩
  go_wp2_with (first
    | (go_at_call 10; refine (sub_any _ _ _).mono ?_; rintro e w' ⟨rfl, rfl⟩)
    | (go_at_call 14; refine (Count_any _ _).mono ?_; rintro e w' ⟨rfl, rfl⟩))
  go_ret
  exact ⟨rfl, hB1⟩
theorem parts_walk (x y : BitVec 64) (a : Addr) (w : World) (hs : Sent w a) :
    Calls Tryd.prog 4 #[.int .u64 (u x), .int .u64 (u y)] w (Yes w) :=
  parts_core x y _ _ a w hs rfl rfl rfl (parts_sub x y).1 (parts_sub x y).2 (parts_add x y) (by have := pc_parts x y; omega) (by have := pc_le (x &&& ~~~y); omega) (by have := pc_le (x &&& ~~~(x &&& ~~~y)); omega)

set_option maxHeartbeats 1000000 in
theorem counts_bad (x : BitVec 64) (i : Int) (a : Addr) (w : World) (hs : Sent w a) (hi : ¬ (0 ≤ i ∧ i < 64)) :
    Calls Tryd.prog 5 #[.int .u64 (u x), .int .i64 i] w (Yes w) := by
  have HS := Lib.hid hs
  have hf := has_out x i (by omega)
  have HI := Lib.hid hi
  clear hs hi
  go_enter Tryd.func5, Tryd.ntmps5
  go_wp2_with (go_at_call 9; refine (shown_any a _ HS.out).mono ?_; rintro e w1 ⟨rfl, hB1⟩)
  refine (With_bad x i a _ (HS.out.up hB1) HI.out).mono ?_
  rintro e w2 ⟨rfl, hB2⟩
  have hB := below_lift hB1 hB2
  clear hB1 hB2
  go_wp2_with (go_at_call 17; refine (Has_any x i a _ (HS.out.up hB)).mono ?_; rintro e w3 ⟨rfl, hB3⟩)
  go_ret
  exact ⟨rfl, below_lift hB hB3⟩

set_option maxHeartbeats 1000000 in
theorem counts_core (x y z : BitVec 64) (i : Int) (a : Addr) (w : World) (hs : Sent w a) (hi : 0 ≤ i ∧ i < 64) (hy : x ||| bit i = y) (hz : y &&& ~~~x = z) (b : Bool) (hb : has x i = b)
    (h1 : (pc y : Int) = (pc x : Int) + (if b then 0 else 1)) (h2 : (pc z : Int) = if b then 0 else 1) (h3 : (pc x : Int) ≤ 64) (hsub : sub x y = true) :
    Calls Tryd.prog 5 #[.int .u64 (u x), .int .i64 i] w (Yes w) := by
  have HS := Lib.hid hs
  have HW : ∀ W, Sent W a → Calls Tryd.prog 16 #[.int .u64 (u x), .int .i64 i] W fun e w' => e = .returned (.tuple #[.int .u64 (u y), .int .i64 0]) ∧ Below W.heap.size W w' := fun W h => by rw [← hy]; exact With_ok x i a W h hi
  have HL : ∀ W, Calls Tryd.prog 12 #[.int .u64 (u y), .int .u64 (u x)] W fun e w' => e = .returned (.int .u64 (u z)) ∧ W = w' := fun W => by rw [← hz]; exact less_any y x W
  have HB : ∀ W, Sent W a → Calls Tryd.prog 17 #[.int .u64 (u x), .int .i64 i] W fun e w' => e = .returned (.bool b) ∧ Below W.heap.size W w' := fun W h => by rw [← hb]; exact Has_any x i a W h
  have HHW := Lib.hid HW
  have HHL := Lib.hid HL
  have HHB := Lib.hid HB
  clear HW HL HB hs hi hy hz hb
  cases b
  all_goals
    simp only [Bool.false_eq_true, if_false, if_true] at h1 h2
    have hd : ((pc x : Int) + 1 - (pc x : Int)) = 1 := by omega
    go_enter Tryd.func5, Tryd.ntmps5
    go_wp2_with (go_at_call 9; refine (shown_any a _ HS.out).mono ?_; rintro e w1 ⟨rfl, hB1⟩)
    refine (HHW.out _ (HS.out.up hB1)).mono ?_
    rintro e w2 ⟨rfl, hB2⟩
    have hB := below_lift hB1 hB2
    clear hB1 hB2
    go_wp2_with (first
      | (go_at_call 17; refine (HHB.out _ (HS.out.up hB)).mono ?_; rintro e w3 ⟨rfl, hB3⟩)
      | (go_at_call 12; refine (HHL.out _).mono ?_; rintro e w' ⟨rfl, rfl⟩)
      | (go_at_call 10; refine (sub_any _ _ _).mono ?_; rintro e w' ⟨rfl, rfl⟩)
      | (go_at_call 14; refine (Count_any _ _).mono ?_; rintro e w' ⟨rfl, rfl⟩))
    go_ret
    exact ⟨rfl, below_lift hB hB3⟩
theorem counts_walk (x : BitVec 64) (i : Int) (a : Addr) (w : World) (hs : Sent w a) :
    Calls Tryd.prog 5 #[.int .u64 (u x), .int .i64 i] w (Yes w) := by
  by_cases hi : 0 ≤ i ∧ i < 64
  · have h := pc_with x i hi.1 hi.2
    exact counts_core x _ _ i a w hs hi rfl rfl (has x i) rfl (by rw [h.1]; split <;> simp) (by rw [h.2]; split <;> simp) (by have := pc_le x; omega) (sub_with x i hi.1 hi.2)
  · exact counts_bad x i a w hs hi

/-! ### CatsSteps -/
theorem Without_any_bad (x : BitVec 64) (i : Int) (a : Addr) (w : World) (hs : Sent w a) (hi : ¬ (0 ≤ i ∧ i < 64)) :
    Calls Tryd.prog 18 #[.int .u64 (u x), .int .i64 i] w fun e w' => e = .returned (.tuple #[.int .u64 0, .int .i64 10]) ∧ Below w.heap.size w w' := Without_bad x i a w hs hi
set_option maxHeartbeats 1000000 in
theorem steps_bad (x : BitVec 64) (i k : Int) (a : Addr) (w : World) (hs : Sent w a) (hi : ¬ (0 ≤ i ∧ i < 64)) :
    Calls Tryd.prog 6 #[.int .u64 (u x), .int .i64 i, .int .i64 k] w (Yes w) := by
  have HS := Lib.hid hs
  have hf := has_out x i (by omega)
  have HI := Lib.hid hi
  have hc : i < 0 ∨ 63 < i := by omega
  clear hs hi
  by_cases h0 : i < 0
  · clear hc
    go_enter Tryd.func6, Tryd.ntmps6
    go_wp2_with (go_at_call 9; refine (shown_any a _ HS.out).mono ?_; rintro e w1 ⟨rfl, hB1⟩)
    refine (With_bad x i a _ (HS.out.up hB1) HI.out).mono ?_
    rintro e w2 ⟨rfl, hB2⟩
    have hB := below_lift hB1 hB2
    clear hB1 hB2
    go_wp2_with fail
    refine (Without_bad x i a _ (HS.out.up hB) HI.out).mono ?_
    rintro e w3 ⟨rfl, hB3⟩
    have hB' := below_lift hB hB3
    clear hB hB3
    go_wp2_with (go_at_call 17; refine (Has_any x i a _ (HS.out.up hB')).mono ?_; rintro e w4 ⟨rfl, hB4⟩)
    go_ret
    exact ⟨rfl, below_lift hB' hB4⟩
  · have h1 : 63 < i := by omega
    clear hc
    go_enter Tryd.func6, Tryd.ntmps6
    go_wp2_with (go_at_call 9; refine (shown_any a _ HS.out).mono ?_; rintro e w1 ⟨rfl, hB1⟩)
    refine (With_bad x i a _ (HS.out.up hB1) HI.out).mono ?_
    rintro e w2 ⟨rfl, hB2⟩
    have hB := below_lift hB1 hB2
    clear hB1 hB2
    go_wp2_with fail
    refine (Without_bad x i a _ (HS.out.up hB) HI.out).mono ?_
    rintro e w3 ⟨rfl, hB3⟩
    have hB' := below_lift hB hB3
    clear hB hB3
    go_wp2_with (go_at_call 17; refine (Has_any x i a _ (HS.out.up hB')).mono ?_; rintro e w4 ⟨rfl, hB4⟩)
    go_ret
    exact ⟨rfl, below_lift hB' hB4⟩
set_option maxHeartbeats 1000000 in
theorem steps_core (x y z : BitVec 64) (i k : Int) (a : Addr) (w : World) (hs : Sent w a) (hi : 0 ≤ i ∧ i < 64) (hy : x ||| bit i = y) (hz : x &&& ~~~bit i = z)
    (h1 : has y i = true) (h2 : has z i = false) (h3 : i = k ∨ (has y k = has x k ∧ has z k = has x k)) :
    Calls Tryd.prog 6 #[.int .u64 (u x), .int .i64 i, .int .i64 k] w (Yes w) := by
  have HS := Lib.hid hs
  have HW : ∀ W, Sent W a → Calls Tryd.prog 16 #[.int .u64 (u x), .int .i64 i] W fun e w' => e = .returned (.tuple #[.int .u64 (u y), .int .i64 0]) ∧ Below W.heap.size W w' := fun W h => by rw [← hy]; exact With_ok x i a W h hi
  have HL : ∀ W, Sent W a → Calls Tryd.prog 18 #[.int .u64 (u x), .int .i64 i] W fun e w' => e = .returned (.tuple #[.int .u64 (u z), .int .i64 0]) ∧ Below W.heap.size W w' := fun W h => by rw [← hz]; exact Without_ok x i a W h hi
  have HHW := Lib.hid HW
  have HHL := Lib.hid HL
  clear HW HL hs hi hy hz
  by_cases hk : i = k
  · subst hk
    clear h3
    go_enter Tryd.func6, Tryd.ntmps6
    go_wp2_with (go_at_call 9; refine (shown_any a _ HS.out).mono ?_; rintro e w1 ⟨rfl, hB1⟩)
    refine (HHW.out _ (HS.out.up hB1)).mono ?_
    rintro e w2 ⟨rfl, hB2⟩
    have hB := below_lift hB1 hB2
    clear hB1 hB2
    go_wp2_with fail
    refine (HHL.out _ (HS.out.up hB)).mono ?_
    rintro e w3 ⟨rfl, hB3⟩
    have hB' := below_lift hB hB3
    clear hB hB3
    go_wp2_with fail
    refine (Has_any _ _ a _ (HS.out.up hB')).mono ?_
    rintro e w4 ⟨rfl, hB4⟩
    have hB := below_lift hB' hB4
    clear hB' hB4
    go_wp2_with fail
    refine (Has_any _ _ a _ (HS.out.up hB)).mono ?_
    rintro e w5 ⟨rfl, hB5⟩
    have hB' := below_lift hB hB5
    clear hB hB5
    go_wp2
    go_ret
    exact ⟨rfl, hB'⟩
  · obtain ⟨h4, h5⟩ : has y k = has x k ∧ has z k = has x k := by
      rcases h3 with h3 | h3
      · exact absurd h3 hk
      · exact h3
    have hk' : (i == k) = false := beq_eq_false_iff_ne.2 hk
    clear h3 hk
    go_enter Tryd.func6, Tryd.ntmps6
    go_wp2_with (go_at_call 9; refine (shown_any a _ HS.out).mono ?_; rintro e w1 ⟨rfl, hB1⟩)
    refine (HHW.out _ (HS.out.up hB1)).mono ?_
    rintro e w2 ⟨rfl, hB2⟩
    have hB := below_lift hB1 hB2
    clear hB1 hB2
    go_wp2_with fail
    refine (HHL.out _ (HS.out.up hB)).mono ?_
    rintro e w3 ⟨rfl, hB3⟩
    have hB' := below_lift hB hB3
    clear hB hB3
    go_wp2_with fail
    refine (Has_any _ _ a _ (HS.out.up hB')).mono ?_
    rintro e w4 ⟨rfl, hB4⟩
    have hB := below_lift hB' hB4
    clear hB' hB4
    go_wp2_with fail
    refine (Has_any _ _ a _ (HS.out.up hB)).mono ?_
    rintro e w5 ⟨rfl, hB5⟩
    have hB' := below_lift hB hB5
    clear hB hB5
    go_wp2_with fail
    refine (Has_any _ _ a _ (HS.out.up hB')).mono ?_
    rintro e w4 ⟨rfl, hB4⟩
    have hB := below_lift hB' hB4
    clear hB' hB4
    go_wp2_with fail
    refine (Has_any _ _ a _ (HS.out.up hB)).mono ?_
    rintro e w5 ⟨rfl, hB5⟩
    have hB' := below_lift hB hB5
    clear hB hB5
    go_wp2_with fail
    refine (Has_any _ _ a _ (HS.out.up hB')).mono ?_
    rintro e w4 ⟨rfl, hB4⟩
    have hB := below_lift hB' hB4
    clear hB' hB4
    go_wp2_with fail
    refine (Has_any _ _ a _ (HS.out.up hB)).mono ?_
    rintro e w5 ⟨rfl, hB5⟩
    have hB' := below_lift hB hB5
    clear hB hB5
    go_wp2
    go_ret
    exact ⟨rfl, hB'⟩
theorem steps_walk (x : BitVec 64) (i k : Int) (a : Addr) (w : World) (hs : Sent w a) :
    Calls Tryd.prog 6 #[.int .u64 (u x), .int .i64 i, .int .i64 k] w (Yes w) := by
  by_cases hi : 0 ≤ i ∧ i < 64
  · refine steps_core x _ _ i k a w hs hi rfl rfl ?_ ?_ ?_
    · rw [has_or_bit _ _ _ hi.1 hi.2]; simp
    · rw [has_not_bit _ _ _ hi.1 hi.2]; simp
    · by_cases hk : i = k
      · exact .inl hk
      · have : ¬ k = i := fun e => hk e.symm
        refine .inr ⟨?_, ?_⟩
        · rw [has_or_bit _ _ _ hi.1 hi.2]; simp [this]
        · rw [has_not_bit _ _ _ hi.1 hi.2]; simp [this]
  · exact steps_bad x i k a w hs hi
end Go.Proofs.YtkmklmdhmfikmaaDoor
