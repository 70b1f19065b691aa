/-
  STATEMENT LedgerBack: its walk.
-/
import Derived.Test.YtbggaijjgnjknaaDoorLgO
namespace Go.Proofs.YtbggaijjgnjknaaDoor
open Go.RowKit

set_option maxRecDepth 100000 in
set_option maxHeartbeats 16000000 in
theorem back_walk (v : Value) (l : List Ln) (q : Int) (a : Lab) (n : Int) (w : World) (hh : Handle w) (hl : LnsAt w v l) :
    Calls Tryd.prog 4 #[v, .int .i64 q, .agg #[.int .i64 a.lv, .int .u64 (u a.c), .int .i64 a.ig], .int .i64 n] w (Yes w) := by
  have HH := Lib.hid hh
  have HL := Lib.hid hl
  obtain ⟨A, c, rfl, _, _, _⟩ := hl.slice
  clear hh hl
  go_enter Tryd.func4, Tryd.ntmps4
  go_wp2_with fail
  refine (shown_any _ (HH.out.up (below_alloc (Below.refl _ _) _))).mono ?_
  rintro e w1 ⟨rfl, hB⟩
  have B1 := Lib.hid (below_call (w := w) (below_alloc (Below.refl _ _) _) hB)
  have LA := Lib.hid ((Blk.new' rfl : Blk (w.alloc (.cells #[.int .i64 a.lv, .int .u64 (u a.c), .int .i64 a.ig] 25)) w.heap.size 25 #[.int .i64 a.lv, .int .u64 (u a.c), .int .i64 a.ig]).after hB)
  clear hB
  go_wp2_with fail
  refine (few_at _ l _ (HL.out.later B1.out B1.out.size)).mono ?_
  rintro e w2 ⟨p, c, L, rfl, H42, hT, rfl⟩
  have HT := Lib.hid hT
  have HLE := Lib.hid (Nat.le_trans H42.out (by decide : (42 : Nat) ≤ 900))
  clear hT HL
  have x0 := LA.out.at_ (i := 0) (v := .int .i64 a.lv) rfl
  have x1 := LA.out.at_ (i := 1) (v := .int .u64 (u a.c)) rfl
  have x2 := LA.out.at_ (i := 2) (v := .int .i64 a.ig) rfl
  go_wp2_with fail
  refine (charge_at _ L q a n _ HT.out HLE.out (HH.out.up B1.out)).mono ?_
  rintro e w2 ⟨v2, e2, L2, rfl, E2, F2, hO, hB⟩
  obtain ⟨p2, c2, rfl⟩ := hO.val
  have B2 := Lib.hid (below_call (w := w) B1.out hB)
  replace LA := Lib.hid (LA.out.after hB)
  replace HT := Lib.hid (HT.out.after hB)
  have O2 := Lib.hid hO
  clear hO x0 x1 x2
  clear hB
  by_cases z : e2 = 0
  · obtain ⟨g1, g2, g3, g4, g5⟩ := back_law HLE.out (E2.out.symm.trans z)
    obtain ⟨⟨k1, _⟩, k2, k3, k4, k5⟩ := charge_ok.1 (E2.out.symm.trans z)
    have g6 := charge_right (E2.out.symm.trans z) HLE.out
    have kr := used_range k1 a
    have ks := sum_le (right_iff.1 k1).2.1
    rw [← total_right k1] at ks
    rw [← F2.out] at g1 g2 g3 g5 g6
    have G1 := Lib.hid g1
    have G2 := Lib.hid g2
    have G3 := Lib.hid g3
    have G5 := Lib.hid g5
    have G6 := Lib.hid g6
    have KR := Lib.hid (show 0 ≤ usedLn L a ∧ usedLn L a ≤ 100000 ∧ 0 ≤ n ∧ 0 ≤ q ∧ q ≤ 100000 ∧ usedLn L a + n ≤ q ∧ 0 ≤ totalLn L ∧ totalLn L ≤ 100000 * (L.length : Int) ∧ L.length ≤ 42 from ⟨kr.1, kr.2, k4, k2, k3, g4, ks.1, ks.2, H42.out⟩)
    have HLE2 := Lib.hid (len_one F2.out H42.out)
    subst z
    clear g1 g2 g3 g4 g5 g6 k1 k2 k3 k4 k5 kr ks E2 F2
    have x0 := LA.out.at_ (i := 0) (v := .int .i64 a.lv) rfl
    have x1 := LA.out.at_ (i := 1) (v := .int .u64 (u a.c)) rfl
    have x2 := LA.out.at_ (i := 2) (v := .int .i64 a.ig) rfl
    go_wp2_with fail
    refine (refund_at _ L2 a n _ O2.out.lns HLE2.out (HH.out.up B2.out)).mono ?_
    rintro e w3 ⟨v3, e3, L3, rfl, E3, F3, hO, hB⟩
    obtain ⟨p3, c3, rfl⟩ := hO.val
    rw [G1.out] at E3
    rw [G2.out] at F3
    obtain rfl : e3 = 0 := E3.out
    clear E3
    have B3 := Lib.hid (below_call (w := w) B2.out hB)
    replace LA := Lib.hid (LA.out.after hB)
    replace HT := Lib.hid (HT.out.after hB)
    replace O2 := Lib.hid (O2.out.after hB)
    have O3 := Lib.hid hO
    clear hO x0 x1 x2
    clear hB
    go_wp2_with fail
    refine wp_region_gen2 (S := fun W => Blk W w.heap.size 25 #[.int .i64 a.lv, .int .u64 (u a.c), .int .i64 a.ig]) (N := fun W => Below w3.heap.size w3 W) (by kernel_rfl) LA.out.drew (Below.refl _ _).drew (fun w4 hS hN => ?_)
    have B4 := Lib.hid (below_call (w := w) B3.out hN)
    replace LA := Lib.hid (LA.out.after hN)
    replace HT := Lib.hid (HT.out.after hN)
    replace O2 := Lib.hid (O2.out.after hN)
    replace O3 := Lib.hid (O3.out.after hN)
    clear hN
    refine wpAnyH_take (i := 0) (v := ?_) (op_at rfl) (by kernel_rfl) (by kernel_rfl) (by kernel_rfl) (fun _ _ _ h => h) (Or.inl ⟨by rfl, ?_⟩) hS ?_; rotate_left; focus ((intro w' hSw; clear hSw; go_simp) <;> with_reducible rfl)
    try simp only [Act.put, List.setIfInBounds_toArray, List.set_cons_zero, List.set_cons_succ]
    refine wpAnyH_take (i := 1) (v := ?_) (op_at rfl) (by kernel_rfl) (by kernel_rfl) (by kernel_rfl) (fun _ _ _ h => h) (Or.inl ⟨by rfl, ?_⟩) hS ?_; rotate_left; focus ((intro w' hSw; clear hSw; go_simp) <;> with_reducible rfl)
    try simp only [Act.put, List.setIfInBounds_toArray, List.set_cons_zero, List.set_cons_succ]
    refine wpAnyH_take (i := 2) (v := ?_) (op_at rfl) (by kernel_rfl) (by kernel_rfl) (by kernel_rfl) (fun _ _ _ h => h) (Or.inl ⟨by rfl, ?_⟩) hS ?_; rotate_left; focus ((intro w' hSw; clear hSw; go_simp) <;> with_reducible rfl)
    try simp only [Act.put, List.setIfInBounds_toArray, List.set_cons_zero, List.set_cons_succ]
    refine wpAnyH_take (i := 3) (v := ?_) (op_at rfl) (by kernel_rfl) (by kernel_rfl) (by kernel_rfl) (fun _ _ _ h => h) (Or.inl ⟨by rfl, ?_⟩) hS ?_; rotate_left; focus ((intro w' hSw; clear hSw; go_simp) <;> with_reducible rfl)
    try simp only [Act.put, List.setIfInBounds_toArray, List.set_cons_zero, List.set_cons_succ]
    refine wpAnyH_take (i := 4) (v := ?_) (op_at rfl) (by kernel_rfl) (by kernel_rfl) (by kernel_rfl) (fun _ _ _ h => h) (Or.inl ⟨by rfl, ?_⟩) hS ?_; rotate_left; focus ((intro w' hSw; clear hSw; go_simp) <;> with_reducible rfl)
    try simp only [Act.put, List.setIfInBounds_toArray, List.set_cons_zero, List.set_cons_succ]
    refine wpAnyH_take (i := 5) (v := ?_) (op_at rfl) (by kernel_rfl) (by kernel_rfl) (by kernel_rfl) (fun _ _ _ h => h) (Or.inl ⟨by rfl, ?_⟩) hS ?_; rotate_left; focus ((intro w' hSw; clear hSw; go_simp) <;> with_reducible rfl)
    try simp only [Act.put, List.setIfInBounds_toArray, List.set_cons_zero, List.set_cons_succ]
    refine wpAnyH_take (i := 6) (v := ?_) (op_at rfl) (by kernel_rfl) (by kernel_rfl) (by kernel_rfl) (fun _ _ _ h => h) (Or.inl ⟨by rfl, ?_⟩) hS ?_; rotate_left; focus ((intro w' hSw; clear hSw; go_simp) <;> with_reducible rfl)
    try simp only [Act.put, List.setIfInBounds_toArray, List.set_cons_zero, List.set_cons_succ]
    refine wpAnyH_take (i := 7) (v := ?_) (op_at rfl) (by kernel_rfl) (by kernel_rfl) (by kernel_rfl) (fun _ _ _ h => h) (Or.inl ⟨by rfl, ?_⟩) hS ?_; rotate_left; focus ((intro w' hSw; clear hSw; go_simp) <;> with_reducible rfl)
    try simp only [Act.put, List.setIfInBounds_toArray, List.set_cons_zero, List.set_cons_succ]
    refine wpAnyH_ready (rs := [8]) (by kernel_rfl) (by simp) ?_
    refine (AllReadyH.cons (op_at rfl) (fun K hK => ?_) AllReadyH.nil)
    go_simp
    refine (same_yes _ _ L3 L _ O3.out.lns HT.out F3.out).mono ?_
    rintro e w5 ⟨rfl, hB⟩
    have B5 := Lib.hid (below_call (w := w) B4.out hB)
    replace LA := Lib.hid (LA.out.after hB)
    replace HT := Lib.hid (HT.out.after hB)
    replace O2 := Lib.hid (O2.out.after hB)
    replace O3 := Lib.hid (O3.out.after hB)
    refine hK.out _ _ LA.out (fun hS => ?_)
    clear hK K hB
    try simp only [Act.put, List.setIfInBounds_toArray, List.set_cons_zero, List.set_cons_succ]
    refine wpAnyH_take (i := 9) (v := ?_) (op_at rfl) (by kernel_rfl) (by kernel_rfl) (by kernel_rfl) (fun _ _ _ h => h) (Or.inl ⟨by rfl, ?_⟩) hS ?_; rotate_left; focus ((intro w' hSw; clear hSw; go_simp) <;> with_reducible rfl)
    try simp only [Act.put, List.setIfInBounds_toArray, List.set_cons_zero, List.set_cons_succ]
    refine wpAnyH_take (i := 10) (v := ?_) (op_at rfl) (by kernel_rfl) (by kernel_rfl) (by kernel_rfl) (fun _ _ _ h => h) (Or.inl ⟨by rfl, ?_⟩) hS ?_; rotate_left; focus ((intro w' hSw; clear hSw; go_simp) <;> with_reducible rfl)
    try simp only [Act.put, List.setIfInBounds_toArray, List.set_cons_zero, List.set_cons_succ]
    refine wpAnyH_take (i := 11) (v := ?_) (op_at rfl) (by kernel_rfl) (by kernel_rfl) (by kernel_rfl) (fun _ _ _ h => h) (Or.inl ⟨by rfl, ?_⟩) hS ?_; rotate_left; focus ((intro w' hSw; clear hSw; go_simp) <;> with_reducible rfl)
    try simp only [Act.put, List.setIfInBounds_toArray, List.set_cons_zero, List.set_cons_succ]
    refine wpAnyH_ready (rs := [12]) (by kernel_rfl) (by simp) ?_
    refine (AllReadyH.cons (op_at rfl) (fun K hK => ?_) AllReadyH.nil)
    go_simp
    refine (right_yes _ L2 _ O2.out.lns G6.out).mono ?_
    rintro e w6 ⟨rfl, hB⟩
    have B6 := Lib.hid (below_call (w := w) B5.out hB)
    replace LA := Lib.hid (LA.out.after hB)
    replace HT := Lib.hid (HT.out.after hB)
    replace O2 := Lib.hid (O2.out.after hB)
    replace O3 := Lib.hid (O3.out.after hB)
    refine hK.out _ _ LA.out (fun hS => ?_)
    clear hK K hB
    try simp only [Act.put, List.setIfInBounds_toArray, List.set_cons_zero, List.set_cons_succ]
    refine wpAnyH_take (i := 13) (v := ?_) (op_at rfl) (by kernel_rfl) (by kernel_rfl) (by kernel_rfl) (fun _ _ _ h => h) (Or.inl ⟨by rfl, ?_⟩) hS ?_; rotate_left; focus ((intro w' hSw; clear hSw; go_simp) <;> with_reducible rfl)
    try simp only [Act.put, List.setIfInBounds_toArray, List.set_cons_zero, List.set_cons_succ]
    refine wpAnyH_take (i := 14) (v := ?_) (op_at rfl) (by kernel_rfl) (by kernel_rfl) (by kernel_rfl) (fun _ _ _ h => h) (Or.inl ⟨by rfl, ?_⟩) hS ?_; rotate_left; focus ((intro w' hSw; clear hSw; go_simp) <;> with_reducible rfl)
    try simp only [Act.put, List.setIfInBounds_toArray, List.set_cons_zero, List.set_cons_succ]
    refine wpAnyH_take (i := 15) (v := ?_) (op_at rfl) (by kernel_rfl) (by kernel_rfl) (by kernel_rfl) (fun _ _ _ h => h) (Or.inl ⟨by rfl, ?_⟩) hS ?_; rotate_left; focus ((intro w' hSw; clear hSw; go_simp) <;> with_reducible rfl)
    try simp only [Act.put, List.setIfInBounds_toArray, List.set_cons_zero, List.set_cons_succ]
    refine wpAnyH_take (i := 16) (v := ?_) (op_at rfl) (by kernel_rfl) (by kernel_rfl) (by kernel_rfl) (fun _ _ _ h => h) (Or.inl ⟨by rfl, ?_⟩) hS ?_; rotate_left; focus ((intro w' hSw; have c0 := hSw.at_ (i := 0) (v := .int .i64 a.lv) rfl; have c1 := hSw.at_ (i := 1) (v := .int .u64 (u a.c)) rfl; have c2 := hSw.at_ (i := 2) (v := .int .i64 a.ig) rfl; clear hSw; go_simp) <;> with_reducible rfl)
    try simp only [Act.put, List.setIfInBounds_toArray, List.set_cons_zero, List.set_cons_succ]
    refine wpAnyH_take (i := 18) (v := ?_) (op_at rfl) (by kernel_rfl) (by kernel_rfl) (by kernel_rfl) (fun _ _ _ h => h) (Or.inl ⟨by rfl, ?_⟩) hS ?_; rotate_left; focus ((intro w' hSw; clear hSw; go_simp) <;> with_reducible rfl)
    try simp only [Act.put, List.setIfInBounds_toArray, List.set_cons_zero, List.set_cons_succ]
    refine wpAnyH_take (i := 19) (v := ?_) (op_at rfl) (by kernel_rfl) (by kernel_rfl) (by kernel_rfl) (fun _ _ _ h => h) (Or.inl ⟨by rfl, ?_⟩) hS ?_; rotate_left; focus ((intro w' hSw; have c0 := hSw.at_ (i := 0) (v := .int .i64 a.lv) rfl; have c1 := hSw.at_ (i := 1) (v := .int .u64 (u a.c)) rfl; have c2 := hSw.at_ (i := 2) (v := .int .i64 a.ig) rfl; clear hSw; go_simp) <;> with_reducible rfl)
    try simp only [Act.put, List.setIfInBounds_toArray, List.set_cons_zero, List.set_cons_succ]
    refine wpAnyH_take (i := 21) (v := ?_) (op_at rfl) (by kernel_rfl) (by kernel_rfl) (by kernel_rfl) (fun _ _ _ h => h) (Or.inl ⟨by rfl, ?_⟩) hS ?_; rotate_left; focus ((intro w' hSw; clear hSw; go_simp) <;> with_reducible rfl)
    try simp only [Act.put, List.setIfInBounds_toArray, List.set_cons_zero, List.set_cons_succ]
    refine wpAnyH_ready (rs := [17]) (by kernel_rfl) (by simp) ?_
    refine (AllReadyH.cons (op_at rfl) (fun K hK => ?_) AllReadyH.nil)
    go_simp
    refine (used_at L2 _ a _ O2.out.lns).mono ?_
    rintro e w7 ⟨r1, rfl, hr1, hB⟩
    have R1 := hr1
    clear hr1
    have B7 := Lib.hid (below_call (w := w) B6.out hB)
    replace LA := Lib.hid (LA.out.after hB)
    replace HT := Lib.hid (HT.out.after hB)
    replace O2 := Lib.hid (O2.out.after hB)
    replace O3 := Lib.hid (O3.out.after hB)
    refine hK.out _ _ LA.out (fun hS => ?_)
    clear hK K hB
    try simp only [Act.put, List.setIfInBounds_toArray, List.set_cons_zero, List.set_cons_succ]
    refine wpAnyH_ready (rs := [20]) (by kernel_rfl) (by simp) ?_
    refine (AllReadyH.cons (op_at rfl) (fun K hK => ?_) AllReadyH.nil)
    go_simp
    refine (used_at L _ a _ HT.out).mono ?_
    rintro e w8 ⟨r2, rfl, hr2, hB⟩
    have R2 := hr2
    clear hr2
    obtain rfl : r1 = r2 + n := by rw [R1.out, R2.out, G3.out]
    have kw : IntKind.i64.wrap (r2 + n) = r2 + n := wrapI _ (by have := KR.out; have := R2.out; omega)
    have B8 := Lib.hid (below_call (w := w) B7.out hB)
    replace LA := Lib.hid (LA.out.after hB)
    replace HT := Lib.hid (HT.out.after hB)
    replace O2 := Lib.hid (O2.out.after hB)
    replace O3 := Lib.hid (O3.out.after hB)
    refine hK.out _ _ LA.out (fun hS => ?_)
    clear hK K hB
    try simp only [Act.put, List.setIfInBounds_toArray, List.set_cons_zero, List.set_cons_succ]
    refine wpAnyH_take (i := 22) (v := ?_) (op_at rfl) (by kernel_rfl) (by kernel_rfl) (by kernel_rfl) (fun _ _ _ h => h) (Or.inl ⟨by rfl, ?_⟩) hS ?_; rotate_left; focus ((intro w' hSw; clear hSw; go_simp) <;> with_reducible rfl)
    try simp only [Act.put, List.setIfInBounds_toArray, List.set_cons_zero, List.set_cons_succ]
    refine wpAnyH_take (i := 23) (v := ?_) (op_at rfl) (by kernel_rfl) (by kernel_rfl) (by kernel_rfl) (fun _ _ _ h => h) (Or.inl ⟨by rfl, ?_⟩) hS ?_; rotate_left; focus ((intro w' hSw; clear hSw; go_simp) <;> with_reducible rfl)
    try simp only [Act.put, List.setIfInBounds_toArray, List.set_cons_zero, List.set_cons_succ]
    refine wpAnyH_take (i := 24) (v := ?_) (op_at rfl) (by kernel_rfl) (by kernel_rfl) (by kernel_rfl) (fun _ _ _ h => h) (Or.inl ⟨by rfl, ?_⟩) hS ?_; rotate_left; focus ((intro w' hSw; clear hSw; go_simp) <;> with_reducible rfl)
    try simp only [Act.put, List.setIfInBounds_toArray, List.set_cons_zero, List.set_cons_succ]
    refine wpAnyH_take (i := 25) (v := ?_) (op_at rfl) (by kernel_rfl) (by kernel_rfl) (by kernel_rfl) (fun _ _ _ h => h) (Or.inl ⟨by rfl, ?_⟩) hS ?_; rotate_left; focus ((intro w' hSw; clear hSw; go_simp) <;> with_reducible rfl)
    try simp only [Act.put, List.setIfInBounds_toArray, List.set_cons_zero, List.set_cons_succ]
    refine wpAnyH_take (i := 26) (v := ?_) (op_at rfl) (by kernel_rfl) (by kernel_rfl) (by kernel_rfl) (fun _ _ _ h => h) (Or.inl ⟨by rfl, ?_⟩) hS ?_; rotate_left; focus ((intro w' hSw; clear hSw; go_simp) <;> with_reducible rfl)
    try simp only [Act.put, List.setIfInBounds_toArray, List.set_cons_zero, List.set_cons_succ]
    refine wpAnyH_take (i := 27) (v := ?_) (op_at rfl) (by kernel_rfl) (by kernel_rfl) (by kernel_rfl) (fun _ _ _ h => h) (Or.inl ⟨by rfl, ?_⟩) hS ?_; rotate_left; focus ((intro w' hSw; have c0 := hSw.at_ (i := 0) (v := .int .i64 a.lv) rfl; have c1 := hSw.at_ (i := 1) (v := .int .u64 (u a.c)) rfl; have c2 := hSw.at_ (i := 2) (v := .int .i64 a.ig) rfl; clear hSw; go_simp) <;> with_reducible rfl)
    try simp only [Act.put, List.setIfInBounds_toArray, List.set_cons_zero, List.set_cons_succ]
    refine wpAnyH_take (i := 29) (v := ?_) (op_at rfl) (by kernel_rfl) (by kernel_rfl) (by kernel_rfl) (fun _ _ _ h => h) (Or.inl ⟨by rfl, ?_⟩) hS ?_; rotate_left; focus ((intro w' hSw; clear hSw; go_simp) <;> with_reducible rfl)
    try simp only [Act.put, List.setIfInBounds_toArray, List.set_cons_zero, List.set_cons_succ]
    refine wpAnyH_take (i := 30) (v := ?_) (op_at rfl) (by kernel_rfl) (by kernel_rfl) (by kernel_rfl) (fun _ _ _ h => h) (Or.inl ⟨by rfl, ?_⟩) hS ?_; rotate_left; focus ((intro w' hSw; clear hSw; go_simp; rw [if_neg (show ¬ q < 0 by have := KR.out; omega)]) <;> with_reducible rfl)
    try simp only [Act.put, List.setIfInBounds_toArray, List.set_cons_zero, List.set_cons_succ]
    refine wpAnyH_ready (rs := [28]) (by kernel_rfl) (by simp) ?_
    refine (AllReadyH.cons (op_at rfl) (fun K hK => ?_) AllReadyH.nil)
    go_simp
    refine (used_at L2 _ a _ O2.out.lns).mono ?_
    rintro e w9 ⟨r3, rfl, hr3, hB⟩
    have R3 := Lib.hid (show r3 ≤ q by have := KR.out; rw [hr3.out, G3.out]; omega)
    have r3q : r3 ≤ q := R3.out
    have r3d : decide (r3 ≤ q) = true := decide_eq_true R3.out
    clear hr3
    have B9 := Lib.hid (below_call (w := w) B8.out hB)
    replace LA := Lib.hid (LA.out.after hB)
    replace HT := Lib.hid (HT.out.after hB)
    replace O2 := Lib.hid (O2.out.after hB)
    replace O3 := Lib.hid (O3.out.after hB)
    refine hK.out _ _ LA.out (fun hS => ?_)
    clear hK K hB
    try simp only [Act.put, List.setIfInBounds_toArray, List.set_cons_zero, List.set_cons_succ]
    refine wpAnyH_take (i := 31) (v := ?_) (op_at rfl) (by kernel_rfl) (by kernel_rfl) (by kernel_rfl) (fun _ _ _ h => h) (Or.inl ⟨by rfl, ?_⟩) hS ?_; rotate_left; focus ((intro w' hSw; clear hSw; go_simp) <;> with_reducible rfl)
    try simp only [Act.put, List.setIfInBounds_toArray, List.set_cons_zero, List.set_cons_succ]
    refine wpAnyH_take (i := 32) (v := ?_) (op_at rfl) (by kernel_rfl) (by kernel_rfl) (by kernel_rfl) (fun _ _ _ h => h) (Or.inl ⟨by rfl, ?_⟩) hS ?_; rotate_left; focus ((intro w' hSw; clear hSw; go_simp) <;> with_reducible rfl)
    try simp only [Act.put, List.setIfInBounds_toArray, List.set_cons_zero, List.set_cons_succ]
    refine wpAnyH_take (i := 33) (v := ?_) (op_at rfl) (by kernel_rfl) (by kernel_rfl) (by kernel_rfl) (fun _ _ _ h => h) (Or.inl ⟨by rfl, ?_⟩) hS ?_; rotate_left; focus ((intro w' hSw; clear hSw; go_simp) <;> with_reducible rfl)
    try simp only [Act.put, List.setIfInBounds_toArray, List.set_cons_zero, List.set_cons_succ]
    refine wpAnyH_take (i := 34) (v := ?_) (op_at rfl) (by kernel_rfl) (by kernel_rfl) (by kernel_rfl) (fun _ _ _ h => h) (Or.inl ⟨by rfl, ?_⟩) hS ?_; rotate_left; focus ((intro w' hSw; clear hSw; go_simp) <;> with_reducible rfl)
    try simp only [Act.put, List.setIfInBounds_toArray, List.set_cons_zero, List.set_cons_succ]
    refine wpAnyH_take (i := 36) (v := ?_) (op_at rfl) (by kernel_rfl) (by kernel_rfl) (by kernel_rfl) (fun _ _ _ h => h) (Or.inl ⟨by rfl, ?_⟩) hS ?_; rotate_left; focus ((intro w' hSw; clear hSw; go_simp) <;> with_reducible rfl)
    try simp only [Act.put, List.setIfInBounds_toArray, List.set_cons_zero, List.set_cons_succ]
    refine wpAnyH_take (i := 38) (v := ?_) (op_at rfl) (by kernel_rfl) (by kernel_rfl) (by kernel_rfl) (fun _ _ _ h => h) (Or.inl ⟨by rfl, ?_⟩) hS ?_; rotate_left; focus ((intro w' hSw; clear hSw; go_simp) <;> with_reducible rfl)
    try simp only [Act.put, List.setIfInBounds_toArray, List.set_cons_zero, List.set_cons_succ]
    refine wpAnyH_ready (rs := [35]) (by kernel_rfl) (by simp) ?_
    refine (AllReadyH.cons (op_at rfl) (fun K hK => ?_) AllReadyH.nil)
    go_simp
    refine (total_at _ L2 _ O2.out.lns).mono ?_
    rintro e w10 ⟨t1, rfl, ht1, hB⟩
    have T1 := ht1
    clear ht1
    have B10 := Lib.hid (below_call (w := w) B9.out hB)
    replace LA := Lib.hid (LA.out.after hB)
    replace HT := Lib.hid (HT.out.after hB)
    replace O2 := Lib.hid (O2.out.after hB)
    replace O3 := Lib.hid (O3.out.after hB)
    refine hK.out _ _ LA.out (fun hS => ?_)
    clear hK K hB
    try simp only [Act.put, List.setIfInBounds_toArray, List.set_cons_zero, List.set_cons_succ]
    refine wpAnyH_ready (rs := [37]) (by kernel_rfl) (by simp) ?_
    refine (AllReadyH.cons (op_at rfl) (fun K hK => ?_) AllReadyH.nil)
    go_simp
    refine (total_at _ L _ HT.out).mono ?_
    rintro e w11 ⟨t2, rfl, ht2, hB⟩
    obtain rfl : t1 = t2 + n := by rw [T1.out, ht2.out, G5.out]
    have kt : IntKind.i64.wrap (t2 + n) = t2 + n := wrapI _ (by have := KR.out; have := ht2.out; omega)
    clear T1 ht2
    have B11 := Lib.hid (below_call (w := w) B10.out hB)
    replace LA := Lib.hid (LA.out.after hB)
    replace HT := Lib.hid (HT.out.after hB)
    replace O2 := Lib.hid (O2.out.after hB)
    replace O3 := Lib.hid (O3.out.after hB)
    refine hK.out _ _ LA.out (fun hS => ?_)
    clear hK K hB
    try simp only [Act.put, List.setIfInBounds_toArray, List.set_cons_zero, List.set_cons_succ]
    refine wpAnyH_take (i := 39) (v := ?_) (op_at rfl) (by kernel_rfl) (by kernel_rfl) (by kernel_rfl) (fun _ _ _ h => h) (Or.inl ⟨by rfl, ?_⟩) hS ?_; rotate_left; focus ((intro w' hSw; clear hSw; go_simp) <;> with_reducible rfl)
    try simp only [Act.put, List.setIfInBounds_toArray, List.set_cons_zero, List.set_cons_succ]
    refine wpAnyH_take (i := 40) (v := ?_) (op_at rfl) (by kernel_rfl) (by kernel_rfl) (by kernel_rfl) (fun _ _ _ h => h) (Or.inl ⟨by rfl, ?_⟩) hS ?_; rotate_left; focus ((intro w' hSw; clear hSw; go_simp) <;> with_reducible rfl)
    try simp only [Act.put, List.setIfInBounds_toArray, List.set_cons_zero, List.set_cons_succ]
    refine wpAnyH_take (i := 41) (v := ?_) (op_at rfl) (by kernel_rfl) (by kernel_rfl) (by kernel_rfl) (fun _ _ _ h => h) (Or.inl ⟨by rfl, ?_⟩) hS ?_; rotate_left; focus ((intro w' hSw; clear hSw; go_simp) <;> with_reducible rfl)
    try simp only [Act.put, List.setIfInBounds_toArray, List.set_cons_zero, List.set_cons_succ]
    refine wpAnyH_take (i := 42) (v := ?_) (op_at rfl) (by kernel_rfl) (by kernel_rfl) (by kernel_rfl) (fun _ _ _ h => h) (Or.inl ⟨by rfl, ?_⟩) hS ?_; rotate_left; focus ((intro w' hSw; clear hSw; go_simp) <;> with_reducible rfl)
    try simp only [Act.put, List.setIfInBounds_toArray, List.set_cons_zero, List.set_cons_succ]
    refine wpAnyH_done (by kernel_rfl) ?_ _
    go_wp2_with fail
    go_ret
    exact ⟨rfl, B11.out⟩
  · have n2 : L2 = [] := by rw [F2.out]; exact charge_no (by rw [← E2.out]; exact z)
    have h3 : e2 = 0 ∨ e2 = 20 ∨ e2 = 70 := by rw [E2.out]; exact charge_three _ _ _ _
    subst n2
    clear E2 F2
    rcases h3 with h3 | rfl | rfl
    · exact absurd h3 z
    · clear z
      go_wp2_with fail
      go_ret
      exact ⟨rfl, B2.out⟩
    · clear z
      go_wp2_with fail
      go_ret
      exact ⟨rfl, B2.out⟩
end Go.Proofs.YtbggaijjgnjknaaDoor
