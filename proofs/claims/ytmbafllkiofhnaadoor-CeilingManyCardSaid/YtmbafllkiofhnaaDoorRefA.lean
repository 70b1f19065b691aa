/-
  THE WALKS OF PACKAGE plimsollref01 that later chapters lean on: Has, Without, Sub, Less.
-/
import Derived.Test.YtmbafllkiofhnaaDoorProg
import Derived.Test.YtmbafllkiofhnaaDoorU
import Derived.Handy
import Derived.WalkSpells
import Derived.WalkLawsBesides
import Derived.WalkSmall
import Derived.Lib.Hide
import Derived.BigQuiet
import Derived.Deep.QuietTactic
namespace Go.Proofs.YtmbafllkiofhnaaDoor
open Go.RowKit

attribute [local go_sem] u_and u_or u_andNot u_add u_sub u_bit u_has and_bit u_eq_zero u_beq

theorem rHas_any (x : BitVec 64) (i : Int) (w : World) :
    Calls Tryd.prog 49 #[.int .u64 (u x), .int .i64 i] w fun e w' => e = .returned (.bool (has x i)) ∧ w = w' := by
  by_cases h0 : 0 ≤ i
  · by_cases h1 : i < 64
    · go_enter Tryd.func49, Tryd.ntmps49
      go_wp2
      go_ret
      exact ⟨rfl, rfl⟩
    · have HF := Lib.hid (has_out x i (by omega))
      go_enter Tryd.func49, Tryd.ntmps49
      go_wp2
      go_ret
      rw [HF.out]
      exact ⟨rfl, rfl⟩
  · have HF := Lib.hid (has_out x i (by omega))
    go_enter Tryd.func49, Tryd.ntmps49
    go_wp2
    go_ret
    rw [HF.out]
    exact ⟨rfl, rfl⟩
theorem rWithout_ok (x : BitVec 64) (i : Int) (w : World) (hi : 0 ≤ i ∧ i < 64) :
    Calls Tryd.prog 50 #[.int .u64 (u x), .int .i64 i] w fun e w' => e = .returned (.tuple #[.int .u64 (u (x &&& ~~~bit i)), .int .i64 0]) ∧ w = w' := by
  obtain ⟨h0, h1⟩ := hi
  by_cases h : has x i = true
  · have HF := Lib.hid (sub_bit x i h0 h1 h)
    go_enter Tryd.func50, Tryd.ntmps50
    go_wp2_with (go_at_call 49; refine (rHas_any x i _).mono ?_; rintro e w' ⟨rfl, rfl⟩)
    go_ret2
    rw [← HF.out]
    exact ⟨rfl, rfl⟩
  · have h' : has x i = false := by simpa using h
    have HF := Lib.hid (not_bit x i h0 h1 h')
    clear h
    go_enter Tryd.func50, Tryd.ntmps50
    go_wp2_with (go_at_call 49; refine (rHas_any x i _).mono ?_; rintro e w' ⟨rfl, rfl⟩)
    go_ret2
    rw [HF.out]
    exact ⟨rfl, rfl⟩
/-! ### two sets -/
/-- what of the first k categories is left -/
def lessTo (x y : BitVec 64) : Nat → BitVec 64
  | 0 => x
  | k + 1 => if has y (k : Int) then lessTo x y k &&& ~~~bit (k : Int) else lessTo x y k
theorem has_lessTo (x y : BitVec 64) (j : Nat) (hj : j < 64) : ∀ k, k ≤ 64 → has (lessTo x y k) (j : Int) = (has x (j : Int) && !(decide (j < k) && has y (j : Int)))
  | 0, _ => by simp [lessTo]
  | k + 1, hk => by
    have ih := has_lessTo x y j hj k (by omega)
    unfold lessTo
    by_cases h : has y (k : Int) = true
    · rw [if_pos h, has_not_bit _ _ _ (by omega) (by omega), ih]
      by_cases e : j = k
      · subst e; simp [h]
      · have e1 : ¬ ((j : Int) = (k : Int)) := by omega
        have e2 : (j < k + 1) ↔ (j < k) := by omega
        simp [e1, e2]
    · rw [if_neg h, ih]
      by_cases e : j = k
      · subst e; simp [h]
      · have e2 : (j < k + 1) ↔ (j < k) := by omega
        simp [e2]
theorem lessTo_all (x y : BitVec 64) : lessTo x y 64 = x &&& ~~~y := by
  refine has_ext fun k hk => ?_
  rw [has_lessTo x y k hk 64 (by omega), has_less]
  simp [hk]
theorem rLess_any (x y : BitVec 64) (w : World) :
    Calls Tryd.prog 38 #[.int .u64 (u x), .int .u64 (u y)] w fun e w' => e = .returned (.int .u64 (u (x &&& ~~~y))) ∧ w = w' := by
  go_enter Tryd.func38, Tryd.ntmps38
  go_wp2
  go_loop [0, 5] (fun s i => ∃ k : Nat, k ≤ 64 ∧ i = .int .i64 k ∧ s = .int .u64 (u (lessTo x y k))) (fun _ i => 64 - (intOf i).toNat)
  case atStart => exact ⟨0, by omega, rfl, rfl⟩
  case round =>
    obtain ⟨k, hk, rfl, rfl⟩ := hrel
    by_cases hlt : k < 64
    · by_cases hy : has y (k : Int) = true
      · have HX : Hid (lessTo x y (k + 1) = lessTo x y k &&& ~~~bit (k : Int)) := by
          show lessTo x y (k + 1) = _
          rw [lessTo, if_pos hy]
        generalize lessTo x y k = z at *
        go_wp2_with (first | (go_at_call 49; refine (rHas_any y k _).mono ?_; rintro e w' ⟨rfl, rfl⟩) | (go_at_call 50; refine (rWithout_ok z k _ (by omega)).mono ?_; rintro e w' ⟨rfl, rfl⟩))
        go_round
        case rel => exact ⟨k + 1, by omega, by go_num, by rw [HX.out]⟩
        case measure => simp [intOf]; omega
      · have hy' : has y (k : Int) = false := by simpa using hy
        have HX : Hid (lessTo x y (k + 1) = lessTo x y k) := by
          show lessTo x y (k + 1) = _
          rw [lessTo, if_neg hy]
        clear hy
        generalize lessTo x y k = z at *
        go_wp2_with (go_at_call 49; refine (rHas_any y k _).mono ?_; rintro e w' ⟨rfl, rfl⟩)
        go_round
        case rel => exact ⟨k + 1, by omega, by go_num, by rw [HX.out]⟩
        case measure => simp [intOf]; omega
    · obtain rfl : k = 64 := by omega
      have HX := Lib.hid (lessTo_all x y)
      generalize lessTo x y 64 = z at *
      go_wp2
      go_ret
      rw [HX.out]
      exact ⟨rfl, rfl⟩
theorem rSub_any (x y : BitVec 64) (w : World) :
    Calls Tryd.prog 48 #[.int .u64 (u x), .int .u64 (u y)] w fun e w' => e = .returned (.bool (sub x y)) ∧ w = w' := by
  go_enter Tryd.func48, Tryd.ntmps48
  go_wp2
  go_loop [5] (fun i => ∃ k : Nat, k ≤ 64 ∧ i = .int .i64 k ∧ ∀ j : Nat, j < k → has x (j : Int) = true → has y (j : Int) = true) (fun i => 64 - (intOf i).toNat)
  case atStart => exact ⟨0, by omega, rfl, fun j hj => by omega⟩
  case round =>
    obtain ⟨k, hk, rfl, hall⟩ := hrel
    have HA := Lib.hid hall
    clear hall
    by_cases hlt : k < 64
    · by_cases hx : has x (k : Int) = true
      · by_cases hy : has y (k : Int) = true
        · go_wp2_with (go_at_call 49; refine (rHas_any _ k _).mono ?_; rintro e w' ⟨rfl, rfl⟩)
          go_round
          case rel =>
            exact ⟨k + 1, by omega, by go_num, fun j hj hx' => by
              by_cases e : j = k
              · subst e; exact hy
              · exact HA.out j (by omega) hx'⟩
          case measure => simp [intOf]; omega
        · have hy' : has y (k : Int) = false := by simpa using hy
          clear hy
          go_wp2_with (go_at_call 49; refine (rHas_any _ k _).mono ?_; rintro e w' ⟨rfl, rfl⟩)
          go_ret
          have : sub x y = false := by
            rw [← Bool.not_eq_true, sub_iff]
            intro h
            rw [h k hlt hx] at hy'
            cases hy'
          rw [this]
          exact ⟨rfl, rfl⟩
      · have hx' : has x (k : Int) = false := by simpa using hx
        clear hx
        go_wp2_with (go_at_call 49; refine (rHas_any _ k _).mono ?_; rintro e w' ⟨rfl, rfl⟩)
        go_round
        case rel =>
          exact ⟨k + 1, by omega, by go_num, fun j hj hj' => by
            by_cases e : j = k
            · subst e; rw [hx'] at hj'; cases hj'
            · exact HA.out j (by omega) hj'⟩
        case measure => simp [intOf]; omega
    · obtain rfl : k = 64 := by omega
      have HX := Lib.hid (sub_iff.2 HA.out)
      go_wp2
      go_ret
      rw [HX.out]
      exact ⟨rfl, rfl⟩

end Go.Proofs.YtmbafllkiofhnaaDoor
