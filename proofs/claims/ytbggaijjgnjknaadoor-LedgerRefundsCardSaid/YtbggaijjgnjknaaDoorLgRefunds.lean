/-
  STATEMENT LedgerRefunds: its walk.
-/
import Derived.Test.YtbggaijjgnjknaaDoorLgO
namespace Go.Proofs.YtbggaijjgnjknaaDoor
open Go.RowKit

set_option maxRecDepth 100000 in
set_option maxHeartbeats 16000000 in
theorem refunds_walk (v : Value) (l : List Ln) (a : Lab) (n : Int) (w : World) (hh : Handle w) (hl : LnsAt w v l) :
    Calls Tryd.prog 6 #[v, .agg #[.int .i64 a.lv, .int .u64 (u a.c), .int .i64 a.ig], .int .i64 n] w (Yes w) := by
  have HH := Lib.hid hh
  have HL := Lib.hid hl
  obtain ⟨A, c, rfl, _, _, _⟩ := hl.slice
  clear hh hl
  go_enter Tryd.func6, Tryd.ntmps6
  go_wp2_with fail
  refine (shown_any _ (HH.out.up (below_alloc (Below.refl _ _) _))).mono ?_
  rintro e w1 ⟨rfl, hB⟩
  have B1 := Lib.hid (below_call (w := w) (below_alloc (Below.refl _ _) _) hB)
  have LA := Lib.hid ((Blk.new' rfl : Blk (w.alloc (.cells #[.int .i64 a.lv, .int .u64 (u a.c), .int .i64 a.ig] 25)) w.heap.size 25 #[.int .i64 a.lv, .int .u64 (u a.c), .int .i64 a.ig]).after hB)
  clear hB
  go_wp2_with fail
  refine (few_at _ l _ (HL.out.later B1.out B1.out.size)).mono ?_
  rintro e w2 ⟨p, c, L, rfl, H42, hT, rfl⟩
  have HT := Lib.hid hT
  have HLE := Lib.hid (Nat.le_trans H42.out (by decide : (42 : Nat) ≤ 900))
  clear hT HL
  have x0 := LA.out.at_ (i := 0) (v := .int .i64 a.lv) rfl
  have x1 := LA.out.at_ (i := 1) (v := .int .u64 (u a.c)) rfl
  have x2 := LA.out.at_ (i := 2) (v := .int .i64 a.ig) rfl
  go_wp2_with fail
  refine (refund_at _ L a n _ HT.out HLE.out (HH.out.up B1.out)).mono ?_
  rintro e w2 ⟨v2, e2, L2, rfl, E2, F2, hO, hB⟩
  obtain ⟨p2, c2, rfl⟩ := hO.val
  have B2 := Lib.hid (below_call (w := w) B1.out hB)
  replace LA := Lib.hid (LA.out.after hB)
  replace HT := Lib.hid (HT.out.after hB)
  have O2 := Lib.hid hO
  clear hO x0 x1 x2
  clear hB
  by_cases z : e2 = 0
  · obtain ⟨g1, g2, g3, g4⟩ := refunds_law HLE.out (E2.out.symm.trans z)
    obtain ⟨⟨k1, _⟩, k2, k3⟩ := refund_ok.1 (E2.out.symm.trans z)
    have kr := used_range k1 a
    rw [← F2.out] at g1 g2 g3 g4
    have G1 := Lib.hid g1
    have G2 := Lib.hid g2
    have G3 := Lib.hid g3
    have G4 := Lib.hid g4
    have KR := Lib.hid (show 0 ≤ usedLn L a ∧ usedLn L a ≤ 100000 ∧ 0 ≤ n ∧ n ≤ usedLn L a from ⟨kr.1, kr.2, k2, k3⟩)
    have HLE2 := Lib.hid (refund_len1 F2.out H42.out)
    subst z
    clear g1 g2 g3 g4 k1 k2 k3 kr E2 F2
    go_wp2_with fail
    refine wp_region_gen2 (S := fun W => Blk W w.heap.size 25 #[.int .i64 a.lv, .int .u64 (u a.c), .int .i64 a.ig]) (N := fun W => Below w2.heap.size w2 W) (by kernel_rfl) LA.out.drew (Below.refl _ _).drew (fun w3 hS hN => ?_)
    have B3 := Lib.hid (below_call (w := w) B2.out hN)
    replace LA := Lib.hid (LA.out.after hN)
    replace HT := Lib.hid (HT.out.after hN)
    replace O2 := Lib.hid (O2.out.after hN)
    clear hN
    refine wpAnyH_take (i := 0) (v := ?_) (op_at rfl) (by kernel_rfl) (by kernel_rfl) (by kernel_rfl) (fun _ _ _ h => h) (Or.inl ⟨by rfl, ?_⟩) hS ?_; rotate_left; focus ((intro w' hSw; clear hSw; go_simp) <;> with_reducible rfl)
    try simp only [Act.put, List.setIfInBounds_toArray, List.set_cons_zero, List.set_cons_succ]
    refine wpAnyH_take (i := 1) (v := ?_) (op_at rfl) (by kernel_rfl) (by kernel_rfl) (by kernel_rfl) (fun _ _ _ h => h) (Or.inl ⟨by rfl, ?_⟩) hS ?_; rotate_left; focus ((intro w' hSw; clear hSw; go_simp) <;> with_reducible rfl)
    try simp only [Act.put, List.setIfInBounds_toArray, List.set_cons_zero, List.set_cons_succ]
    refine wpAnyH_take (i := 2) (v := ?_) (op_at rfl) (by kernel_rfl) (by kernel_rfl) (by kernel_rfl) (fun _ _ _ h => h) (Or.inl ⟨by rfl, ?_⟩) hS ?_; rotate_left; focus ((intro w' hSw; have c0 := hSw.at_ (i := 0) (v := .int .i64 a.lv) rfl; have c1 := hSw.at_ (i := 1) (v := .int .u64 (u a.c)) rfl; have c2 := hSw.at_ (i := 2) (v := .int .i64 a.ig) rfl; clear hSw; go_simp) <;> with_reducible rfl)
    try simp only [Act.put, List.setIfInBounds_toArray, List.set_cons_zero, List.set_cons_succ]
    refine wpAnyH_take (i := 4) (v := ?_) (op_at rfl) (by kernel_rfl) (by kernel_rfl) (by kernel_rfl) (fun _ _ _ h => h) (Or.inl ⟨by rfl, ?_⟩) hS ?_; rotate_left; focus ((intro w' hSw; have c0 := hSw.at_ (i := 0) (v := .int .i64 a.lv) rfl; have c1 := hSw.at_ (i := 1) (v := .int .u64 (u a.c)) rfl; have c2 := hSw.at_ (i := 2) (v := .int .i64 a.ig) rfl; clear hSw; go_simp) <;> with_reducible rfl)
    try simp only [Act.put, List.setIfInBounds_toArray, List.set_cons_zero, List.set_cons_succ]
    refine wpAnyH_take (i := 5) (v := ?_) (op_at rfl) (by kernel_rfl) (by kernel_rfl) (by kernel_rfl) (fun _ _ _ h => h) (Or.inl ⟨by rfl, ?_⟩) hS ?_; rotate_left; focus ((intro w' hSw; clear hSw; go_simp) <;> with_reducible rfl)
    try simp only [Act.put, List.setIfInBounds_toArray, List.set_cons_zero, List.set_cons_succ]
    refine wpAnyH_ready (rs := [3]) (by kernel_rfl) (by simp) ?_
    refine (AllReadyH.cons (op_at rfl) (fun K hK => ?_) AllReadyH.nil)
    go_simp
    refine (used_at L _ a _ HT.out).mono ?_
    rintro e w4 ⟨r, rfl, hr, hB⟩
    have R0 := hr
    clear hr
    have B4 := Lib.hid (below_call (w := w) B3.out hB)
    replace LA := Lib.hid (LA.out.after hB)
    replace HT := Lib.hid (HT.out.after hB)
    replace O2 := Lib.hid (O2.out.after hB)
    refine hK.out _ _ LA.out (fun hS => ?_)
    clear hK K hB
    try simp only [Act.put, List.setIfInBounds_toArray, List.set_cons_zero, List.set_cons_succ]
    refine wpAnyH_ready (rs := [6]) (by kernel_rfl) (by simp) ?_
    refine (AllReadyH.cons (op_at rfl) (fun K hK => ?_) AllReadyH.nil)
    go_simp
    refine (charge_at _ L2 r a n _ O2.out.lns HLE2.out (HH.out.up B4.out)).mono ?_
    rintro e w5 ⟨v3, e3, L3, rfl, E3, F3, hO, hB⟩
    obtain ⟨p3, c3, rfl⟩ := hO.val
    rw [R0.out, G1.out] at E3
    rw [R0.out, G2.out] at F3
    obtain rfl : e3 = 0 := E3.out
    clear E3
    have B5 := Lib.hid (below_call (w := w) B4.out hB)
    replace LA := Lib.hid (LA.out.after hB)
    replace HT := Lib.hid (HT.out.after hB)
    replace O2 := Lib.hid (O2.out.after hB)
    have O3 := Lib.hid hO
    clear hO
    refine hK.out _ _ LA.out (fun hS => ?_)
    clear hK K hB
    try simp only [Act.put, List.setIfInBounds_toArray, List.set_cons_zero, List.set_cons_succ]
    refine wpAnyH_take (i := 7) (v := ?_) (op_at rfl) (by kernel_rfl) (by kernel_rfl) (by kernel_rfl) (fun _ _ _ h => h) (Or.inl ⟨by rfl, ?_⟩) hS ?_; rotate_left; focus ((intro w' hSw; clear hSw; go_simp) <;> with_reducible rfl)
    try simp only [Act.put, List.setIfInBounds_toArray, List.set_cons_zero, List.set_cons_succ]
    refine wpAnyH_take (i := 8) (v := ?_) (op_at rfl) (by kernel_rfl) (by kernel_rfl) (by kernel_rfl) (fun _ _ _ h => h) (Or.inl ⟨by rfl, ?_⟩) hS ?_; rotate_left; focus ((intro w' hSw; clear hSw; go_simp) <;> with_reducible rfl)
    try simp only [Act.put, List.setIfInBounds_toArray, List.set_cons_zero, List.set_cons_succ]
    refine wpAnyH_take (i := 9) (v := ?_) (op_at rfl) (by kernel_rfl) (by kernel_rfl) (by kernel_rfl) (fun _ _ _ h => h) (Or.inl ⟨by rfl, ?_⟩) hS ?_; rotate_left; focus ((intro w' hSw; clear hSw; go_simp) <;> with_reducible rfl)
    try simp only [Act.put, List.setIfInBounds_toArray, List.set_cons_zero, List.set_cons_succ]
    refine wpAnyH_take (i := 10) (v := ?_) (op_at rfl) (by kernel_rfl) (by kernel_rfl) (by kernel_rfl) (fun _ _ _ h => h) (Or.inl ⟨by rfl, ?_⟩) hS ?_; rotate_left; focus ((intro w' hSw; clear hSw; go_simp) <;> with_reducible rfl)
    try simp only [Act.put, List.setIfInBounds_toArray, List.set_cons_zero, List.set_cons_succ]
    refine wpAnyH_take (i := 11) (v := ?_) (op_at rfl) (by kernel_rfl) (by kernel_rfl) (by kernel_rfl) (fun _ _ _ h => h) (Or.inl ⟨by rfl, ?_⟩) hS ?_; rotate_left; focus ((intro w' hSw; clear hSw; go_simp) <;> with_reducible rfl)
    try simp only [Act.put, List.setIfInBounds_toArray, List.set_cons_zero, List.set_cons_succ]
    refine wpAnyH_done (by kernel_rfl) ?_ _
    go_wp2_with fail
    refine wp_region_gen2 (S := fun W => Blk W w.heap.size 25 #[.int .i64 a.lv, .int .u64 (u a.c), .int .i64 a.ig]) (N := fun W => Below w5.heap.size w5 W) (by kernel_rfl) LA.out.drew (Below.refl _ _).drew (fun w6 hS hN => ?_)
    have B6 := Lib.hid (below_call (w := w) B5.out hN)
    replace LA := Lib.hid (LA.out.after hN)
    replace HT := Lib.hid (HT.out.after hN)
    replace O2 := Lib.hid (O2.out.after hN)
    replace O3 := Lib.hid (O3.out.after hN)
    clear hN
    refine wpAnyH_take (i := 0) (v := ?_) (op_at rfl) (by kernel_rfl) (by kernel_rfl) (by kernel_rfl) (fun _ _ _ h => h) (Or.inl ⟨by rfl, ?_⟩) hS ?_; rotate_left; focus ((intro w' hSw; clear hSw; go_simp) <;> with_reducible rfl)
    try simp only [Act.put, List.setIfInBounds_toArray, List.set_cons_zero, List.set_cons_succ]
    refine wpAnyH_take (i := 1) (v := ?_) (op_at rfl) (by kernel_rfl) (by kernel_rfl) (by kernel_rfl) (fun _ _ _ h => h) (Or.inl ⟨by rfl, ?_⟩) hS ?_; rotate_left; focus ((intro w' hSw; clear hSw; go_simp) <;> with_reducible rfl)
    try simp only [Act.put, List.setIfInBounds_toArray, List.set_cons_zero, List.set_cons_succ]
    refine wpAnyH_take (i := 2) (v := ?_) (op_at rfl) (by kernel_rfl) (by kernel_rfl) (by kernel_rfl) (fun _ _ _ h => h) (Or.inl ⟨by rfl, ?_⟩) hS ?_; rotate_left; focus ((intro w' hSw; clear hSw; go_simp) <;> with_reducible rfl)
    try simp only [Act.put, List.setIfInBounds_toArray, List.set_cons_zero, List.set_cons_succ]
    refine wpAnyH_take (i := 3) (v := ?_) (op_at rfl) (by kernel_rfl) (by kernel_rfl) (by kernel_rfl) (fun _ _ _ h => h) (Or.inl ⟨by rfl, ?_⟩) hS ?_; rotate_left; focus ((intro w' hSw; clear hSw; go_simp) <;> with_reducible rfl)
    try simp only [Act.put, List.setIfInBounds_toArray, List.set_cons_zero, List.set_cons_succ]
    refine wpAnyH_take (i := 4) (v := ?_) (op_at rfl) (by kernel_rfl) (by kernel_rfl) (by kernel_rfl) (fun _ _ _ h => h) (Or.inl ⟨by rfl, ?_⟩) hS ?_; rotate_left; focus ((intro w' hSw; clear hSw; go_simp) <;> with_reducible rfl)
    try simp only [Act.put, List.setIfInBounds_toArray, List.set_cons_zero, List.set_cons_succ]
    refine wpAnyH_take (i := 5) (v := ?_) (op_at rfl) (by kernel_rfl) (by kernel_rfl) (by kernel_rfl) (fun _ _ _ h => h) (Or.inl ⟨by rfl, ?_⟩) hS ?_; rotate_left; focus ((intro w' hSw; clear hSw; go_simp) <;> with_reducible rfl)
    try simp only [Act.put, List.setIfInBounds_toArray, List.set_cons_zero, List.set_cons_succ]
    refine wpAnyH_take (i := 6) (v := ?_) (op_at rfl) (by kernel_rfl) (by kernel_rfl) (by kernel_rfl) (fun _ _ _ h => h) (Or.inl ⟨by rfl, ?_⟩) hS ?_; rotate_left; focus ((intro w' hSw; clear hSw; go_simp) <;> with_reducible rfl)
    try simp only [Act.put, List.setIfInBounds_toArray, List.set_cons_zero, List.set_cons_succ]
    refine wpAnyH_take (i := 7) (v := ?_) (op_at rfl) (by kernel_rfl) (by kernel_rfl) (by kernel_rfl) (fun _ _ _ h => h) (Or.inl ⟨by rfl, ?_⟩) hS ?_; rotate_left; focus ((intro w' hSw; clear hSw; go_simp) <;> with_reducible rfl)
    try simp only [Act.put, List.setIfInBounds_toArray, List.set_cons_zero, List.set_cons_succ]
    refine wpAnyH_ready (rs := [8]) (by kernel_rfl) (by simp) ?_
    refine (AllReadyH.cons (op_at rfl) (fun K hK => ?_) AllReadyH.nil)
    go_simp
    refine (same_yes _ _ L3 L _ O3.out.lns HT.out F3.out).mono ?_
    rintro e w7 ⟨rfl, hB⟩
    have B7 := Lib.hid (below_call (w := w) B6.out hB)
    replace LA := Lib.hid (LA.out.after hB)
    replace HT := Lib.hid (HT.out.after hB)
    replace O2 := Lib.hid (O2.out.after hB)
    replace O3 := Lib.hid (O3.out.after hB)
    refine hK.out _ _ LA.out (fun hS => ?_)
    clear hK K hB
    try simp only [Act.put, List.setIfInBounds_toArray, List.set_cons_zero, List.set_cons_succ]
    refine wpAnyH_take (i := 9) (v := ?_) (op_at rfl) (by kernel_rfl) (by kernel_rfl) (by kernel_rfl) (fun _ _ _ h => h) (Or.inl ⟨by rfl, ?_⟩) hS ?_; rotate_left; focus ((intro w' hSw; clear hSw; go_simp) <;> with_reducible rfl)
    try simp only [Act.put, List.setIfInBounds_toArray, List.set_cons_zero, List.set_cons_succ]
    refine wpAnyH_take (i := 10) (v := ?_) (op_at rfl) (by kernel_rfl) (by kernel_rfl) (by kernel_rfl) (fun _ _ _ h => h) (Or.inl ⟨by rfl, ?_⟩) hS ?_; rotate_left; focus ((intro w' hSw; clear hSw; go_simp) <;> with_reducible rfl)
    try simp only [Act.put, List.setIfInBounds_toArray, List.set_cons_zero, List.set_cons_succ]
    refine wpAnyH_take (i := 11) (v := ?_) (op_at rfl) (by kernel_rfl) (by kernel_rfl) (by kernel_rfl) (fun _ _ _ h => h) (Or.inl ⟨by rfl, ?_⟩) hS ?_; rotate_left; focus ((intro w' hSw; clear hSw; go_simp) <;> with_reducible rfl)
    try simp only [Act.put, List.setIfInBounds_toArray, List.set_cons_zero, List.set_cons_succ]
    refine wpAnyH_take (i := 12) (v := ?_) (op_at rfl) (by kernel_rfl) (by kernel_rfl) (by kernel_rfl) (fun _ _ _ h => h) (Or.inl ⟨by rfl, ?_⟩) hS ?_; rotate_left; focus ((intro w' hSw; have c0 := hSw.at_ (i := 0) (v := .int .i64 a.lv) rfl; have c1 := hSw.at_ (i := 1) (v := .int .u64 (u a.c)) rfl; have c2 := hSw.at_ (i := 2) (v := .int .i64 a.ig) rfl; clear hSw; go_simp) <;> with_reducible rfl)
    try simp only [Act.put, List.setIfInBounds_toArray, List.set_cons_zero, List.set_cons_succ]
    refine wpAnyH_take (i := 14) (v := ?_) (op_at rfl) (by kernel_rfl) (by kernel_rfl) (by kernel_rfl) (fun _ _ _ h => h) (Or.inl ⟨by rfl, ?_⟩) hS ?_; rotate_left; focus ((intro w' hSw; clear hSw; go_simp) <;> with_reducible rfl)
    try simp only [Act.put, List.setIfInBounds_toArray, List.set_cons_zero, List.set_cons_succ]
    refine wpAnyH_take (i := 15) (v := ?_) (op_at rfl) (by kernel_rfl) (by kernel_rfl) (by kernel_rfl) (fun _ _ _ h => h) (Or.inl ⟨by rfl, ?_⟩) hS ?_; rotate_left; focus ((intro w' hSw; have c0 := hSw.at_ (i := 0) (v := .int .i64 a.lv) rfl; have c1 := hSw.at_ (i := 1) (v := .int .u64 (u a.c)) rfl; have c2 := hSw.at_ (i := 2) (v := .int .i64 a.ig) rfl; clear hSw; go_simp) <;> with_reducible rfl)
    try simp only [Act.put, List.setIfInBounds_toArray, List.set_cons_zero, List.set_cons_succ]
    refine wpAnyH_take (i := 17) (v := ?_) (op_at rfl) (by kernel_rfl) (by kernel_rfl) (by kernel_rfl) (fun _ _ _ h => h) (Or.inl ⟨by rfl, ?_⟩) hS ?_; rotate_left; focus ((intro w' hSw; clear hSw; go_simp) <;> with_reducible rfl)
    try simp only [Act.put, List.setIfInBounds_toArray, List.set_cons_zero, List.set_cons_succ]
    refine wpAnyH_ready (rs := [13]) (by kernel_rfl) (by simp) ?_
    refine (AllReadyH.cons (op_at rfl) (fun K hK => ?_) AllReadyH.nil)
    go_simp
    refine (used_at L2 _ a _ O2.out.lns).mono ?_
    rintro e w8 ⟨r1, rfl, hr1, hB⟩
    have R1 := hr1
    clear hr1
    have B8 := Lib.hid (below_call (w := w) B7.out hB)
    replace LA := Lib.hid (LA.out.after hB)
    replace HT := Lib.hid (HT.out.after hB)
    replace O2 := Lib.hid (O2.out.after hB)
    replace O3 := Lib.hid (O3.out.after hB)
    refine hK.out _ _ LA.out (fun hS => ?_)
    clear hK K hB
    try simp only [Act.put, List.setIfInBounds_toArray, List.set_cons_zero, List.set_cons_succ]
    refine wpAnyH_ready (rs := [16]) (by kernel_rfl) (by simp) ?_
    refine (AllReadyH.cons (op_at rfl) (fun K hK => ?_) AllReadyH.nil)
    go_simp
    refine (used_at L _ a _ HT.out).mono ?_
    rintro e w9 ⟨r2, rfl, hr2, hB⟩
    obtain rfl : r1 = r2 - n := by rw [R1.out, hr2.out, G3.out]
    have kw : IntKind.i64.wrap (r2 - n) = r2 - n := wrapI _ (by have := KR.out; have := hr2.out; omega)
    clear R1 hr2
    have B9 := Lib.hid (below_call (w := w) B8.out hB)
    replace LA := Lib.hid (LA.out.after hB)
    replace HT := Lib.hid (HT.out.after hB)
    replace O2 := Lib.hid (O2.out.after hB)
    replace O3 := Lib.hid (O3.out.after hB)
    refine hK.out _ _ LA.out (fun hS => ?_)
    clear hK K hB
    try simp only [Act.put, List.setIfInBounds_toArray, List.set_cons_zero, List.set_cons_succ]
    refine wpAnyH_take (i := 18) (v := ?_) (op_at rfl) (by kernel_rfl) (by kernel_rfl) (by kernel_rfl) (fun _ _ _ h => h) (Or.inl ⟨by rfl, ?_⟩) hS ?_; rotate_left; focus ((intro w' hSw; clear hSw; go_simp) <;> with_reducible rfl)
    try simp only [Act.put, List.setIfInBounds_toArray, List.set_cons_zero, List.set_cons_succ]
    refine wpAnyH_take (i := 19) (v := ?_) (op_at rfl) (by kernel_rfl) (by kernel_rfl) (by kernel_rfl) (fun _ _ _ h => h) (Or.inl ⟨by rfl, ?_⟩) hS ?_; rotate_left; focus ((intro w' hSw; clear hSw; go_simp) <;> with_reducible rfl)
    try simp only [Act.put, List.setIfInBounds_toArray, List.set_cons_zero, List.set_cons_succ]
    refine wpAnyH_take (i := 20) (v := ?_) (op_at rfl) (by kernel_rfl) (by kernel_rfl) (by kernel_rfl) (fun _ _ _ h => h) (Or.inl ⟨by rfl, ?_⟩) hS ?_; rotate_left; focus ((intro w' hSw; clear hSw; go_simp) <;> with_reducible rfl)
    try simp only [Act.put, List.setIfInBounds_toArray, List.set_cons_zero, List.set_cons_succ]
    refine wpAnyH_take (i := 21) (v := ?_) (op_at rfl) (by kernel_rfl) (by kernel_rfl) (by kernel_rfl) (fun _ _ _ h => h) (Or.inl ⟨by rfl, ?_⟩) hS ?_; rotate_left; focus ((intro w' hSw; clear hSw; go_simp) <;> with_reducible rfl)
    try simp only [Act.put, List.setIfInBounds_toArray, List.set_cons_zero, List.set_cons_succ]
    refine wpAnyH_take (i := 22) (v := ?_) (op_at rfl) (by kernel_rfl) (by kernel_rfl) (by kernel_rfl) (fun _ _ _ h => h) (Or.inl ⟨by rfl, ?_⟩) hS ?_; rotate_left; focus ((intro w' hSw; clear hSw; go_simp) <;> with_reducible rfl)
    try simp only [Act.put, List.setIfInBounds_toArray, List.set_cons_zero, List.set_cons_succ]
    refine wpAnyH_ready (rs := [23]) (by kernel_rfl) (by simp) ?_
    refine (AllReadyH.cons (op_at rfl) (fun K hK => ?_) AllReadyH.nil)
    go_simp
    refine (right_yes _ L2 _ O2.out.lns G4.out).mono ?_
    rintro e w10 ⟨rfl, hB⟩
    have B10 := Lib.hid (below_call (w := w) B9.out hB)
    replace LA := Lib.hid (LA.out.after hB)
    replace HT := Lib.hid (HT.out.after hB)
    replace O2 := Lib.hid (O2.out.after hB)
    replace O3 := Lib.hid (O3.out.after hB)
    refine hK.out _ _ LA.out (fun hS => ?_)
    clear hK K hB
    try simp only [Act.put, List.setIfInBounds_toArray, List.set_cons_zero, List.set_cons_succ]
    refine wpAnyH_take (i := 24) (v := ?_) (op_at rfl) (by kernel_rfl) (by kernel_rfl) (by kernel_rfl) (fun _ _ _ h => h) (Or.inl ⟨by rfl, ?_⟩) hS ?_; rotate_left; focus ((intro w' hSw; clear hSw; go_simp) <;> with_reducible rfl)
    try simp only [Act.put, List.setIfInBounds_toArray, List.set_cons_zero, List.set_cons_succ]
    refine wpAnyH_take (i := 25) (v := ?_) (op_at rfl) (by kernel_rfl) (by kernel_rfl) (by kernel_rfl) (fun _ _ _ h => h) (Or.inl ⟨by rfl, ?_⟩) hS ?_; rotate_left; focus ((intro w' hSw; clear hSw; go_simp) <;> with_reducible rfl)
    try simp only [Act.put, List.setIfInBounds_toArray, List.set_cons_zero, List.set_cons_succ]
    refine wpAnyH_done (by kernel_rfl) ?_ _
    go_wp2_with fail
    go_ret
    exact ⟨rfl, B10.out⟩
  · have n2 : L2 = [] := by rw [F2.out]; exact refund_no (by rw [← E2.out]; exact z)
    subst n2
    have d2 : (e2 == 0) = false := beq_eq_false_iff_ne.2 z
    have c2' : (e2 != 0) = true := bne_iff_ne.2 z
    clear z E2 F2
    go_wp2_with fail
    go_ret
    exact ⟨rfl, B2.out⟩
end Go.Proofs.YtbggaijjgnjknaaDoor
