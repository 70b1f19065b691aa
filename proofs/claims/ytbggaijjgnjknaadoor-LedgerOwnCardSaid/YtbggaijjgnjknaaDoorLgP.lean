/-
  THE WALKS OF PACKAGE label, Compare (and cmp.Compare, cmp.Or beneath it), Bottom, Top.
-/
import Derived.Test.YtbggaijjgnjknaaDoorLabA
import Derived.Test.YtbggaijjgnjknaaDoorLabQ
namespace Go.Proofs.YtbggaijjgnjknaaDoor
open Go.RowKit

attribute [local go_sem] u_and u_or u_andNot u_add u_sub u_bit u_eq_zero u_beq

def cmpZ (x y : Int) : Int := if x < y then -1 else if y < x then 1 else 0
def orZ (x y z : Int) : Int := if x ≠ 0 then x else if y ≠ 0 then y else z
def cmpL (a b : Lab) : Int := orZ (cmpZ a.lv b.lv) (cmpZ (u a.c) (u b.c)) (cmpZ a.ig b.ig)

theorem nan_int (x : Int) (w : World) : Calls Tryd.prog 62 #[.int .i64 x] w fun e w' => e = .returned (.bool false) ∧ w = w' := by
  go_enter Tryd.func62, Tryd.ntmps62
  go_wp2
  go_ret
  exact ⟨rfl, rfl⟩
theorem nan_u64 (x : Int) (w : World) : Calls Tryd.prog 63 #[.int .u64 x] w fun e w' => e = .returned (.bool false) ∧ w = w' := by
  go_enter Tryd.func63, Tryd.ntmps63
  go_wp2
  go_ret
  exact ⟨rfl, rfl⟩
theorem cmp_int (x y : Int) (w : World) : Calls Tryd.prog 52 #[.int .i64 x, .int .i64 y] w fun e w' => e = .returned (.int .i64 (cmpZ x y)) ∧ w = w' := by
  by_cases h1 : x < y
  · have e : cmpZ x y = -1 := if_pos h1
    rw [e]; clear e
    go_enter Tryd.func52, Tryd.ntmps52
    go_wp2_with (go_at_call 62; refine (nan_int _ _).mono ?_; rintro e w1 ⟨rfl, rfl⟩)
    go_ret
    exact ⟨rfl, rfl⟩
  · by_cases h2 : y < x
    · have e : cmpZ x y = 1 := (if_neg h1).trans (if_pos h2)
      rw [e]; clear e
      go_enter Tryd.func52, Tryd.ntmps52
      go_wp2_with (go_at_call 62; refine (nan_int _ _).mono ?_; rintro e w1 ⟨rfl, rfl⟩)
      go_ret
      exact ⟨rfl, rfl⟩
    · have e : cmpZ x y = 0 := (if_neg h1).trans (if_neg h2)
      rw [e]; clear e
      go_enter Tryd.func52, Tryd.ntmps52
      go_wp2_with (go_at_call 62; refine (nan_int _ _).mono ?_; rintro e w1 ⟨rfl, rfl⟩)
      go_ret
      exact ⟨rfl, rfl⟩
theorem cmp_u64 (x y : Int) (w : World) : Calls Tryd.prog 53 #[.int .u64 x, .int .u64 y] w fun e w' => e = .returned (.int .i64 (cmpZ x y)) ∧ w = w' := by
  by_cases h1 : x < y
  · have e : cmpZ x y = -1 := if_pos h1
    rw [e]; clear e
    go_enter Tryd.func53, Tryd.ntmps53
    go_wp2_with (go_at_call 63; refine (nan_u64 _ _).mono ?_; rintro e w1 ⟨rfl, rfl⟩)
    go_ret
    exact ⟨rfl, rfl⟩
  · by_cases h2 : y < x
    · have e : cmpZ x y = 1 := (if_neg h1).trans (if_pos h2)
      rw [e]; clear e
      go_enter Tryd.func53, Tryd.ntmps53
      go_wp2_with (go_at_call 63; refine (nan_u64 _ _).mono ?_; rintro e w1 ⟨rfl, rfl⟩)
      go_ret
      exact ⟨rfl, rfl⟩
    · have e : cmpZ x y = 0 := (if_neg h1).trans (if_neg h2)
      rw [e]; clear e
      go_enter Tryd.func53, Tryd.ntmps53
      go_wp2_with (go_at_call 63; refine (nan_u64 _ _).mono ?_; rintro e w1 ⟨rfl, rfl⟩)
      go_ret
      exact ⟨rfl, rfl⟩
theorem or_all (x y z : Int) (b : Nat) (w : World) (h0 : w.cell? ⟨b, 0, none⟩ = some (.int .i64 x)) (h1 : w.cell? ⟨b, 1, none⟩ = some (.int .i64 y)) (h2 : w.cell? ⟨b, 2, none⟩ = some (.int .i64 z)) :
    Calls Tryd.prog 51 #[.slice (some ⟨b, 0, none⟩) 3 3] w fun e w' => e = .returned (.int .i64 (orZ x y z)) ∧ w = w' := by
  obtain ⟨r, hr⟩ : ∃ r, r = orZ x y z := ⟨_, rfl⟩
  rw [← hr]
  have HR := Lib.hid hr
  clear hr
  go_enter Tryd.func51, Tryd.ntmps51
  go_wp2
  go_loop [8] (fun i => ∃ k : Nat, k ≤ 3 ∧ i = .int .i64 k ∧ (0 < k → x = 0) ∧ (1 < k → y = 0) ∧ (2 < k → z = 0)) (fun i => 3 - (intOf i).toNat)
  case atStart => exact ⟨0, by omega, rfl, fun j => by omega, fun j => by omega, fun j => by omega⟩
  case round =>
    obtain ⟨k, hk, rfl, hx, hy, hz⟩ := hrel
    rcases k with _ | _ | _ | _ | k
    · by_cases hx0 : x = 0
      · subst hx0
        clear hx hy hz
        go_wp2
        go_round
        case rel => exact ⟨1, by omega, by go_num, fun j => by trivial, fun j => by omega, fun j => by omega⟩
        case measure => simp [intOf]
      · obtain rfl : r = x := HR.out.trans (if_pos hx0)
        clear hx hy hz
        go_wp2
        go_ret
        exact ⟨rfl, rfl⟩
    · obtain rfl := hx (by omega)
      by_cases hy0 : y = 0
      · subst hy0
        clear hx hy hz
        go_wp2
        go_round
        case rel => exact ⟨2, by omega, by go_num, fun j => by trivial, fun j => by trivial, fun j => by omega⟩
        case measure => simp [intOf]
      · obtain rfl : r = y := HR.out.trans ((if_neg (by simp)).trans (if_pos hy0))
        clear hx hy hz
        go_wp2
        go_ret
        exact ⟨rfl, rfl⟩
    · obtain rfl := hx (by omega)
      obtain rfl := hy (by omega)
      by_cases hz0 : z = 0
      · subst hz0
        clear hx hy hz
        go_wp2
        go_round
        case rel => exact ⟨3, by omega, by go_num, fun j => by trivial, fun j => by trivial, fun j => by trivial⟩
        case measure => simp [intOf]
      · obtain rfl : r = z := HR.out
        clear hx hy hz
        go_wp2
        go_ret
        exact ⟨rfl, rfl⟩
    · obtain rfl := hx (by omega)
      obtain rfl := hy (by omega)
      obtain rfl := hz (by omega)
      obtain rfl : r = 0 := HR.out
      clear hx hy hz
      go_wp2
      go_ret
      exact ⟨rfl, rfl⟩
    · omega

theorem detI {x v r : Int} (h : Hid (x = v)) (k : Hid (x = r)) : r = v := k.out.symm.trans h.out
theorem cmp_int_all (x y : Int) (w : World) : Calls Tryd.prog 52 #[.int .i64 x, .int .i64 y] w fun e w' => ∃ r, e = .returned (.int .i64 r) ∧ Hid (cmpZ x y = r) ∧ w = w' :=
  (cmp_int x y w).mono fun _ _ h => ⟨_, h.1, Lib.hid rfl, h.2⟩
theorem cmp_u64_all (x y : Int) (w : World) : Calls Tryd.prog 53 #[.int .u64 x, .int .u64 y] w fun e w' => ∃ r, e = .returned (.int .i64 r) ∧ Hid (cmpZ x y = r) ∧ w = w' :=
  (cmp_u64 x y w).mono fun _ _ h => ⟨_, h.1, Lib.hid rfl, h.2⟩
set_option maxRecDepth 100000 in
set_option maxHeartbeats 4000000 in
theorem Compare_core (a b : Lab) (r0 r1 r2 r : Int) (w : World) (h0 : cmpZ a.lv b.lv = r0) (h1 : cmpZ (u a.c) (u b.c) = r1) (h2 : cmpZ a.ig b.ig = r2) (h : orZ r0 r1 r2 = r) :
    Calls Tryd.prog 37 #[.agg #[.int .i64 a.lv, .int .u64 (u a.c), .int .i64 a.ig], .agg #[.int .i64 b.lv, .int .u64 (u b.c), .int .i64 b.ig]] w fun e w' => e = .returned (.int .i64 r) ∧ Below w.heap.size w w' := by
  have H0 := Lib.hid h0
  have H1 := Lib.hid h1
  have H2 := Lib.hid h2
  have H := Lib.hid h
  clear h0 h1 h2 h
  go_enter Tryd.func37, Tryd.ntmps37
  go_wp2_with fail
  go_region_held3 (fun w' => w'.cell? ⟨w.heap.size, 0, none⟩ = some (.int .i64 a.lv) ∧ w'.cell? ⟨w.heap.size, 1, none⟩ = some (.int .u64 (u a.c)) ∧ w'.cell? ⟨w.heap.size, 2, none⟩ = some (.int .i64 a.ig) ∧
        w'.cell? ⟨w.heap.size + 1, 0, none⟩ = some (.int .i64 b.lv) ∧ w'.cell? ⟨w.heap.size + 1, 1, none⟩ = some (.int .u64 (u b.c)) ∧ w'.cell? ⟨w.heap.size + 1, 2, none⟩ = some (.int .i64 b.ig))
      (go_keep)
      (first
      | (go_at_call 52; refine (cmp_int_all _ _ _).mono ?_; rintro e w1 ⟨q, rfl, hq, rfl⟩; (first | have hq' := (detI H0 hq).symm | have hq' := (detI H2 hq).symm | fail); clear hq; subst hq')
      | (go_at_call 53; refine (cmp_u64_all _ _ _).mono ?_; rintro e w1 ⟨q, rfl, hq, rfl⟩; have hq' := (detI H1 hq).symm; clear hq; subst hq')
      | (go_at_call 51; refine Calls.mono (or_all r0 r1 r2 _ _ (by rw [World.cell?_drew]; exact World.cell?_alloc_at _ _ _ _ (by simp)) (by rw [World.cell?_drew]; exact World.cell?_alloc_at _ _ _ _ (by simp)) (by rw [World.cell?_drew]; exact World.cell?_alloc_at _ _ _ _ (by simp))) ?_; rw [H.out]; rintro e w1 ⟨rfl, rfl⟩)
      | fail)
  all_goals (go_wp2; go_ret; exact ⟨rfl, by go_grown⟩)
theorem Compare_any (a b : Lab) (w : World) : Calls Tryd.prog 37 #[.agg #[.int .i64 a.lv, .int .u64 (u a.c), .int .i64 a.ig], .agg #[.int .i64 b.lv, .int .u64 (u b.c), .int .i64 b.ig]] w fun e w' => e = .returned (.int .i64 (cmpL a b)) ∧ Below w.heap.size w w' :=
  Compare_core a b _ _ _ _ w rfl rfl rfl rfl
theorem nbool {x : Bool} (h : ¬ x = true) : x = false := by cases x <;> simp_all
theorem cmpL_neg {a b : Lab} : cmpL a b = -1 ↔ (a.lv < b.lv ∨ (a.lv = b.lv ∧ (u a.c < u b.c ∨ (u a.c = u b.c ∧ a.ig < b.ig)))) := by
  unfold cmpL
  generalize u a.c = p
  generalize u b.c = q
  unfold orZ cmpZ
  repeat' split
  all_goals omega
theorem cmpL_zero {a b : Lab} : cmpL a b = 0 ↔ (a.lv = b.lv ∧ u a.c = u b.c ∧ a.ig = b.ig) := by
  unfold cmpL
  generalize u a.c = p
  generalize u b.c = q
  unfold orZ cmpZ
  repeat' split
  all_goals omega
theorem cmpL_pos {a b : Lab} : cmpL a b = 1 ↔ (b.lv < a.lv ∨ (a.lv = b.lv ∧ (u b.c < u a.c ∨ (u a.c = u b.c ∧ b.ig < a.ig)))) := by
  unfold cmpL
  generalize u a.c = p
  generalize u b.c = q
  unfold orZ cmpZ
  repeat' split
  all_goals omega
theorem cmpL_three (a b : Lab) : cmpL a b = -1 ∨ cmpL a b = 0 ∨ cmpL a b = 1 := by
  rw [cmpL_neg, cmpL_zero, cmpL_pos]; omega
theorem sub_le {x y : BitVec 64} (h : sub x y = true) : u x ≤ u y := by
  have e := congrArg BitVec.toNat (sub_and_eq.1 h)
  rw [BitVec.toNat_and] at e
  have := Nat.and_le_right (n := x.toNat) (m := y.toNat)
  unfold u; omega
theorem sub_eq_of_le {x y : BitVec 64} (h : u x = u y) : x = y := u_inj h
theorem Bottom_any (w : World) : Calls Tryd.prog 29 #[] w fun e w' => e = .returned (.agg #[.int .i64 botL.lv, .int .u64 (u botL.c), .int .i64 botL.ig]) ∧ Below w.heap.size w w' := by
  go_enter Tryd.func29, Tryd.ntmps29
  go_wp2
  go_returns
  exact ⟨rfl, by go_grown⟩
theorem less_all (W : World) : Calls Tryd.prog 40 #[.int .u64 18446744073709551615, .int .u64 0] W fun e w' => e = .returned (.int .u64 18446744073709551615) ∧ W = w' := by
  have h := less_any (BitVec.allOnes 64) 0#64 W
  rw [show u (BitVec.allOnes 64) = 18446744073709551615 by decide +kernel, show u 0#64 = 0 by decide +kernel, show u (BitVec.allOnes 64 &&& ~~~0#64) = 18446744073709551615 by decide +kernel] at h
  exact h
theorem Top_any (w : World) : Calls Tryd.prog 23 #[] w fun e w' => e = .returned (.agg #[.int .i64 topL.lv, .int .u64 (u topL.c), .int .i64 topL.ig]) ∧ Below w.heap.size w w' := by
  rw [show u topL.c = 18446744073709551615 by decide +kernel]
  go_enter Tryd.func23, Tryd.ntmps23
  go_wp2_with (go_at_call 40; refine (less_all _).mono ?_; rintro e w1 ⟨rfl, rfl⟩)
  go_returns
  exact ⟨rfl, by go_grown⟩

end Go.Proofs.YtbggaijjgnjknaaDoor
