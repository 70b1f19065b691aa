/-
  THE WALKS OF PACKAGE plimsollref01 that later chapters lean on: Has, Without, Sub, Less.
-/
import Derived.Test.YtbggaijjgnjknaaDoorProg
import Derived.Test.YtbggaijjgnjknaaDoorU
import Derived.Handy
import Derived.WalkSpells
import Derived.WalkLawsBesides
import Derived.WalkSmall
import Derived.Lib.Hide
import Derived.BigQuiet
import Derived.Deep.QuietTactic
namespace Go.Proofs.YtbggaijjgnjknaaDoor
open Go.RowKit

attribute [local go_sem] u_and u_or u_andNot u_add u_sub u_bit u_has and_bit u_eq_zero u_beq

theorem rHas_any (x : BitVec 64) (i : Int) (w : World) :
    Calls Tryd.prog 64 #[.int .u64 (u x), .int .i64 i] w fun e w' => e = .returned (.bool (has x i)) ∧ w = w' := by
  by_cases h0 : 0 ≤ i
  · by_cases h1 : i < 64
    · go_enter Tryd.func64, Tryd.ntmps64
      go_wp2
      go_ret
      exact ⟨rfl, rfl⟩
    · have HF := Lib.hid (has_out x i (by omega))
      go_enter Tryd.func64, Tryd.ntmps64
      go_wp2
      go_ret
      rw [HF.out]
      exact ⟨rfl, rfl⟩
  · have HF := Lib.hid (has_out x i (by omega))
    go_enter Tryd.func64, Tryd.ntmps64
    go_wp2
    go_ret
    rw [HF.out]
    exact ⟨rfl, rfl⟩
theorem rSub_any (x y : BitVec 64) (w : World) :
    Calls Tryd.prog 56 #[.int .u64 (u x), .int .u64 (u y)] w fun e w' => e = .returned (.bool (sub x y)) ∧ w = w' := by
  go_enter Tryd.func56, Tryd.ntmps56
  go_wp2
  go_loop [5] (fun i => ∃ k : Nat, k ≤ 64 ∧ i = .int .i64 k ∧ ∀ j : Nat, j < k → has x (j : Int) = true → has y (j : Int) = true) (fun i => 64 - (intOf i).toNat)
  case atStart => exact ⟨0, by omega, rfl, fun j hj => by omega⟩
  case round =>
    obtain ⟨k, hk, rfl, hall⟩ := hrel
    have HA := Lib.hid hall
    clear hall
    by_cases hlt : k < 64
    · by_cases hx : has x (k : Int) = true
      · by_cases hy : has y (k : Int) = true
        · go_wp2_with (go_at_call 64; refine (rHas_any _ k _).mono ?_; rintro e w' ⟨rfl, rfl⟩)
          go_round
          case rel =>
            exact ⟨k + 1, by omega, by go_num, fun j hj hx' => by
              by_cases e : j = k
              · subst e; exact hy
              · exact HA.out j (by omega) hx'⟩
          case measure => simp [intOf]; omega
        · have hy' : has y (k : Int) = false := by simpa using hy
          clear hy
          go_wp2_with (go_at_call 64; refine (rHas_any _ k _).mono ?_; rintro e w' ⟨rfl, rfl⟩)
          go_ret
          have : sub x y = false := by
            rw [← Bool.not_eq_true, sub_iff]
            intro h
            rw [h k hlt hx] at hy'
            cases hy'
          rw [this]
          exact ⟨rfl, rfl⟩
      · have hx' : has x (k : Int) = false := by simpa using hx
        clear hx
        go_wp2_with (go_at_call 64; refine (rHas_any _ k _).mono ?_; rintro e w' ⟨rfl, rfl⟩)
        go_round
        case rel =>
          exact ⟨k + 1, by omega, by go_num, fun j hj hj' => by
            by_cases e : j = k
            · subst e; rw [hx'] at hj'; cases hj'
            · exact HA.out j (by omega) hj'⟩
        case measure => simp [intOf]; omega
    · obtain rfl : k = 64 := by omega
      have HX := Lib.hid (sub_iff.2 HA.out)
      go_wp2
      go_ret
      rw [HX.out]
      exact ⟨rfl, rfl⟩

end Go.Proofs.YtbggaijjgnjknaaDoor
