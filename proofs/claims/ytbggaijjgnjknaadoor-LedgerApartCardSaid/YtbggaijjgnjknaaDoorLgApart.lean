/-
  STATEMENT LedgerApart: its walk.
-/
import Derived.Test.YtbggaijjgnjknaaDoorLgO
import Derived.Test.YtbggaijjgnjknaaDoorLgR
namespace Go.Proofs.YtbggaijjgnjknaaDoor
open Go.RowKit

set_option maxRecDepth 100000 in
set_option maxHeartbeats 16000000 in
theorem apart_walk (v : Value) (l : List Ln) (q : Int) (a b : Lab) (n m : Int) (w : World) (hh : Handle w) (hl : LnsAt w v l) :
    Calls Tryd.prog 9 #[v, .int .i64 q, .agg #[.int .i64 a.lv, .int .u64 (u a.c), .int .i64 a.ig], .agg #[.int .i64 b.lv, .int .u64 (u b.c), .int .i64 b.ig], .int .i64 n, .int .i64 m] w (Yes w) := by
  have HH := Lib.hid hh
  obtain ⟨A, c, rfl, hc, h63, _⟩ := hl.slice
  have HL := Lib.hid hl
  clear hh hl
  have s0 : (0 : Int) ≤ (l.length : Int) := by omega
  have s1 : (l.length : Int) ≤ (c : Int) := by omega
  by_cases h : l.length ≤ 30
  · have f1 : min (l.length : Int) 30 = (l.length : Int) := by omega
    have f2 : (l.length : Int) ≤ 30 := by omega
    have ht := Lib.hid (show LnsAt w (.slice A l.length c) l ∧ l.length ≤ 42 from ⟨HL.out, by omega⟩)
    go_enter Tryd.func9, Tryd.ntmps9
    go_wp2_with fail
    refine (shown_any _ (HH.out.up (below_alloc (below_alloc (Below.refl _ _) _) _))).mono ?_
    rintro e w1 ⟨rfl, hB⟩
    have B1 := Lib.hid (below_call (w := w) (below_alloc (below_alloc (Below.refl _ _) _) _) hB)
    have LA := Lib.hid (((Blk.new' rfl : Blk (w.alloc (.cells #[.int .i64 a.lv, .int .u64 (u a.c), .int .i64 a.ig] 25)) w.heap.size 25 #[.int .i64 a.lv, .int .u64 (u a.c), .int .i64 a.ig]).alloc (.cells #[.int .i64 b.lv, .int .u64 (u b.c), .int .i64 b.ig] 25)).after hB)
    have LB := Lib.hid ((Blk.new' (by simp) : Blk ((w.alloc (.cells #[.int .i64 a.lv, .int .u64 (u a.c), .int .i64 a.ig] 25)).alloc (.cells #[.int .i64 b.lv, .int .u64 (u b.c), .int .i64 b.ig] 25)) (w.heap.size + 1) 25 #[.int .i64 b.lv, .int .u64 (u b.c), .int .i64 b.ig]).after hB)
    clear hB
    have HT : Hid (LnsAt w1 (.slice A l.length c) l) := Lib.hid (ht.out.1.later B1.out B1.out.size)
    have x0 := LA.out.at_ (i := 0) (v := .int .i64 a.lv) rfl
    have x1 := LA.out.at_ (i := 1) (v := .int .u64 (u a.c)) rfl
    have x2 := LA.out.at_ (i := 2) (v := .int .i64 a.ig) rfl
    go_wp2_with fail
    refine (charge_at _ l q a n _ HT.out (Nat.le_trans ht.out.2 (by decide)) (HH.out.up B1.out)).mono ?_
    rintro e w2 ⟨v2, e2, L2, rfl, E2, F2, hO, hB⟩
    obtain ⟨p2, c2, rfl⟩ := hO.val
    have B2 := Lib.hid (below_call (w := w) B1.out hB)
    replace LA := Lib.hid (LA.out.after hB)
    replace LB := Lib.hid (LB.out.after hB)
    replace HT := Lib.hid (HT.out.after hB)
    have O2 := Lib.hid hO
    clear hO x0 x1 x2 s0 s1 f1 f2 hc h63 h
    clear hB
    have x0 := LB.out.at_ (i := 0) (v := .int .i64 b.lv) rfl
    have x1 := LB.out.at_ (i := 1) (v := .int .u64 (u b.c)) rfl
    have x2 := LB.out.at_ (i := 2) (v := .int .i64 b.ig) rfl
    go_wp2_with fail
    refine (charge_at _ l q b m _ HT.out (Nat.le_trans ht.out.2 (by decide)) (HH.out.up B2.out)).mono ?_
    rintro e w3 ⟨v3, e3, L3, rfl, E3, F3, hO, hB⟩
    obtain ⟨p3, c3, rfl⟩ := hO.val
    have B3 := Lib.hid (below_call (w := w) B2.out hB)
    replace LA := Lib.hid (LA.out.after hB)
    replace LB := Lib.hid (LB.out.after hB)
    replace HT := Lib.hid (HT.out.after hB)
    replace O2 := Lib.hid (O2.out.after hB)
    clear hO x0 x1 x2
    clear hB
    have x0 := LA.out.at_ (i := 0) (v := .int .i64 a.lv) rfl
    have x1 := LA.out.at_ (i := 1) (v := .int .u64 (u a.c)) rfl
    have x2 := LA.out.at_ (i := 2) (v := .int .i64 a.ig) rfl
    have y0 := LB.out.at_ (i := 0) (v := .int .i64 b.lv) rfl
    have y1 := LB.out.at_ (i := 1) (v := .int .u64 (u b.c)) rfl
    have y2 := LB.out.at_ (i := 2) (v := .int .i64 b.ig) rfl
    by_cases z : e2 = 0
    · by_cases hab : a = b
      · subst z
        have hE := eqlIs (eqL_iff.2 hab)
        clear hab E2 F2 E3 F3 HL
        go_wp2_with fail
        go_ret
        exact ⟨rfl, B3.out⟩
      · obtain ⟨g1, g2, g3⟩ := apart_law (q := q) (m := m) (Nat.le_trans ht.out.2 (by decide)) (E2.out.symm.trans z) hab
        rw [← F2.out] at g1 g2 g3
        have G1 := Lib.hid g1
        have G2 := Lib.hid g2
        have G3 := Lib.hid g3
        have HL2 := Lib.hid (len_one F2.out ht.out.2)
        have hE := eqlIs (nbool fun k => hab (eqL_iff.1 k))
        subst z
        clear hab E2 F2 HL g1 g2 g3
        go_wp2_with fail
        refine (charge_at _ L2 q b m _ O2.out.lns HL2.out (HH.out.up B3.out)).mono ?_
        rintro e w4 ⟨v4, e4, L4, rfl, E4, F4, hO, hB⟩
        obtain ⟨p4, c4, rfl⟩ := hO.val
        obtain rfl : e4 = e3 := by rw [E4.out, E3.out, G1.out]
        have B4 := Lib.hid (below_call (w := w) B3.out hB)
        replace LA := Lib.hid (LA.out.after hB)
        replace LB := Lib.hid (LB.out.after hB)
        replace HT := Lib.hid (HT.out.after hB)
        replace O2 := Lib.hid (O2.out.after hB)
        clear hO x0 x1 x2 y0 y1 y2 hE E3 F3
        clear hB
        have EQ : (e4 == e4) = true := beq_self_eq_true e4
        go_wp2_with fail
        cases hu : underL a b
        · have HU := Lib.hid hu
          clear hu
          refine wp_region_gen2 (S := fun W => Blk W w.heap.size 25 #[.int .i64 a.lv, .int .u64 (u a.c), .int .i64 a.ig] ∧ Blk W (w.heap.size + 1) 25 #[.int .i64 b.lv, .int .u64 (u b.c), .int .i64 b.ig]) (N := fun W => Below w4.heap.size w4 W) (by kernel_rfl) ⟨LA.out.drew, LB.out.drew⟩ (Below.refl _ _).drew (fun w5 hS hN => ?_)
          have B5 := Lib.hid (below_call (w := w) B4.out hN)
          replace LA := Lib.hid (LA.out.after hN)
          replace LB := Lib.hid (LB.out.after hN)
          replace HT := Lib.hid (HT.out.after hN)
          replace O2 := Lib.hid (O2.out.after hN)
          clear hN
          refine wpAnyH_take (i := 0) (v := ?_) (op_at rfl) (by kernel_rfl) (by kernel_rfl) (by kernel_rfl) (fun _ _ _ h => h) (Or.inl ⟨by rfl, ?_⟩) hS ?_; rotate_left; focus ((intro w' hSw; clear hSw; go_simp) <;> with_reducible rfl)
          try simp only [Act.put, List.setIfInBounds_toArray, List.set_cons_zero, List.set_cons_succ]
          refine wpAnyH_take (i := 1) (v := ?_) (op_at rfl) (by kernel_rfl) (by kernel_rfl) (by kernel_rfl) (fun _ _ _ h => h) (Or.inl ⟨by rfl, ?_⟩) hS ?_; rotate_left; focus ((intro w' hSw; clear hSw; go_simp) <;> with_reducible rfl)
          try simp only [Act.put, List.setIfInBounds_toArray, List.set_cons_zero, List.set_cons_succ]
          refine wpAnyH_take (i := 2) (v := ?_) (op_at rfl) (by kernel_rfl) (by kernel_rfl) (by kernel_rfl) (fun _ _ _ h => h) (Or.inl ⟨by rfl, ?_⟩) hS ?_; rotate_left; focus ((intro w' hSw; clear hSw; go_simp) <;> with_reducible rfl)
          try simp only [Act.put, List.setIfInBounds_toArray, List.set_cons_zero, List.set_cons_succ]
          refine wpAnyH_take (i := 3) (v := ?_) (op_at rfl) (by kernel_rfl) (by kernel_rfl) (by kernel_rfl) (fun _ _ _ h => h) (Or.inl ⟨by rfl, ?_⟩) hS ?_; rotate_left; focus ((intro w' hSw; clear hSw; go_simp) <;> with_reducible rfl)
          try simp only [Act.put, List.setIfInBounds_toArray, List.set_cons_zero, List.set_cons_succ]
          refine wpAnyH_take (i := 4) (v := ?_) (op_at rfl) (by kernel_rfl) (by kernel_rfl) (by kernel_rfl) (fun _ _ _ h => h) (Or.inl ⟨by rfl, ?_⟩) hS ?_; rotate_left; focus ((intro w' hSw; clear hSw; go_simp) <;> with_reducible rfl)
          try simp only [Act.put, List.setIfInBounds_toArray, List.set_cons_zero, List.set_cons_succ]
          refine wpAnyH_take (i := 5) (v := ?_) (op_at rfl) (by kernel_rfl) (by kernel_rfl) (by kernel_rfl) (fun _ _ _ h => h) (Or.inl ⟨by rfl, ?_⟩) hS ?_; rotate_left; focus ((intro w' hSw; clear hSw; go_simp) <;> with_reducible rfl)
          try simp only [Act.put, List.setIfInBounds_toArray, List.set_cons_zero, List.set_cons_succ]
          refine wpAnyH_take (i := 6) (v := ?_) (op_at rfl) (by kernel_rfl) (by kernel_rfl) (by kernel_rfl) (fun _ _ _ h => h) (Or.inl ⟨by rfl, ?_⟩) hS ?_; rotate_left; focus ((intro w' hSw; clear hSw; go_simp) <;> with_reducible rfl)
          try simp only [Act.put, List.setIfInBounds_toArray, List.set_cons_zero, List.set_cons_succ]
          refine wpAnyH_take (i := 7) (v := ?_) (op_at rfl) (by kernel_rfl) (by kernel_rfl) (by kernel_rfl) (fun _ _ _ h => h) (Or.inl ⟨by rfl, ?_⟩) hS ?_; rotate_left; focus ((intro w' hSw; clear hSw; go_simp) <;> with_reducible rfl)
          try simp only [Act.put, List.setIfInBounds_toArray, List.set_cons_zero, List.set_cons_succ]
          refine wpAnyH_take (i := 8) (v := ?_) (op_at rfl) (by kernel_rfl) (by kernel_rfl) (by kernel_rfl) (fun _ _ _ h => h) (Or.inl ⟨by rfl, ?_⟩) hS ?_; rotate_left; focus ((intro w' hSw; have hA := hSw.2; have c0 := hA.at_ (i := 0) (v := .int .i64 b.lv) rfl; have c1 := hA.at_ (i := 1) (v := .int .u64 (u b.c)) rfl; have c2 := hA.at_ (i := 2) (v := .int .i64 b.ig) rfl; clear hA; clear hSw; go_simp) <;> with_reducible rfl)
          try simp only [Act.put, List.setIfInBounds_toArray, List.set_cons_zero, List.set_cons_succ]
          refine wpAnyH_take (i := 10) (v := ?_) (op_at rfl) (by kernel_rfl) (by kernel_rfl) (by kernel_rfl) (fun _ _ _ h => h) (Or.inl ⟨by rfl, ?_⟩) hS ?_; rotate_left; focus ((intro w' hSw; clear hSw; go_simp) <;> with_reducible rfl)
          try simp only [Act.put, List.setIfInBounds_toArray, List.set_cons_zero, List.set_cons_succ]
          refine wpAnyH_take (i := 11) (v := ?_) (op_at rfl) (by kernel_rfl) (by kernel_rfl) (by kernel_rfl) (fun _ _ _ h => h) (Or.inl ⟨by rfl, ?_⟩) hS ?_; rotate_left; focus ((intro w' hSw; have hA := hSw.2; have c0 := hA.at_ (i := 0) (v := .int .i64 b.lv) rfl; have c1 := hA.at_ (i := 1) (v := .int .u64 (u b.c)) rfl; have c2 := hA.at_ (i := 2) (v := .int .i64 b.ig) rfl; clear hA; clear hSw; go_simp) <;> with_reducible rfl)
          try simp only [Act.put, List.setIfInBounds_toArray, List.set_cons_zero, List.set_cons_succ]
          refine wpAnyH_ready (rs := [9]) (by kernel_rfl) (by simp) ?_
          refine (AllReadyH.cons (op_at rfl) (fun K hK => ?_) AllReadyH.nil)
          go_simp
          refine (used_at L2 _ b _ O2.out.lns).mono ?_
          rintro e w6 ⟨r1, rfl, hr1, hB⟩
          have R1 := hr1
          clear hr1
          have B6 := Lib.hid (below_call (w := w) B5.out hB)
          replace LA := Lib.hid (LA.out.after hB)
          replace LB := Lib.hid (LB.out.after hB)
          replace HT := Lib.hid (HT.out.after hB)
          replace O2 := Lib.hid (O2.out.after hB)
          refine hK.out _ _ ⟨LA.out, LB.out⟩ (fun hS => ?_)
          clear hK K hB
          try simp only [Act.put, List.setIfInBounds_toArray, List.set_cons_zero, List.set_cons_succ]
          refine wpAnyH_ready (rs := [12]) (by kernel_rfl) (by simp) ?_
          refine (AllReadyH.cons (op_at rfl) (fun K hK => ?_) AllReadyH.nil)
          go_simp
          refine (used_at l _ b _ HT.out).mono ?_
          rintro e w7 ⟨r2, rfl, hr2, hB⟩
          obtain rfl : r1 = r2 := by rw [R1.out, hr2.out, G2.out]
          clear R1 hr2
          have B7 := Lib.hid (below_call (w := w) B6.out hB)
          replace LA := Lib.hid (LA.out.after hB)
          replace LB := Lib.hid (LB.out.after hB)
          replace HT := Lib.hid (HT.out.after hB)
          replace O2 := Lib.hid (O2.out.after hB)
          refine hK.out _ _ ⟨LA.out, LB.out⟩ (fun hS => ?_)
          clear hK K hB
          try simp only [Act.put, List.setIfInBounds_toArray, List.set_cons_zero, List.set_cons_succ]
          refine wpAnyH_take (i := 13) (v := ?_) (op_at rfl) (by kernel_rfl) (by kernel_rfl) (by kernel_rfl) (fun _ _ _ h => h) (Or.inl ⟨by rfl, ?_⟩) hS ?_; rotate_left; focus ((intro w' hSw; clear hSw; go_simp) <;> with_reducible rfl)
          try simp only [Act.put, List.setIfInBounds_toArray, List.set_cons_zero, List.set_cons_succ]
          refine wpAnyH_take (i := 14) (v := ?_) (op_at rfl) (by kernel_rfl) (by kernel_rfl) (by kernel_rfl) (fun _ _ _ h => h) (Or.inl ⟨by rfl, ?_⟩) hS ?_; rotate_left; focus ((intro w' hSw; clear hSw; go_simp) <;> with_reducible rfl)
          try simp only [Act.put, List.setIfInBounds_toArray, List.set_cons_zero, List.set_cons_succ]
          refine wpAnyH_take (i := 15) (v := ?_) (op_at rfl) (by kernel_rfl) (by kernel_rfl) (by kernel_rfl) (fun _ _ _ h => h) (Or.inl ⟨by rfl, ?_⟩) hS ?_; rotate_left; focus ((intro w' hSw; clear hSw; go_simp) <;> with_reducible rfl)
          try simp only [Act.put, List.setIfInBounds_toArray, List.set_cons_zero, List.set_cons_succ]
          refine wpAnyH_take (i := 16) (v := ?_) (op_at rfl) (by kernel_rfl) (by kernel_rfl) (by kernel_rfl) (fun _ _ _ h => h) (Or.inl ⟨by rfl, ?_⟩) hS ?_; rotate_left; focus ((intro w' hSw; have hA := hSw.1; have c0 := hA.at_ (i := 0) (v := .int .i64 a.lv) rfl; have c1 := hA.at_ (i := 1) (v := .int .u64 (u a.c)) rfl; have c2 := hA.at_ (i := 2) (v := .int .i64 a.ig) rfl; clear hA; clear hSw; go_simp) <;> with_reducible rfl)
          try simp only [Act.put, List.setIfInBounds_toArray, List.set_cons_zero, List.set_cons_succ]
          refine wpAnyH_take (i := 17) (v := ?_) (op_at rfl) (by kernel_rfl) (by kernel_rfl) (by kernel_rfl) (fun _ _ _ h => h) (Or.inl ⟨by rfl, ?_⟩) hS ?_; rotate_left; focus ((intro w' hSw; have hA := hSw.2; have c0 := hA.at_ (i := 0) (v := .int .i64 b.lv) rfl; have c1 := hA.at_ (i := 1) (v := .int .u64 (u b.c)) rfl; have c2 := hA.at_ (i := 2) (v := .int .i64 b.ig) rfl; clear hA; clear hSw; go_simp) <;> with_reducible rfl)
          try simp only [Act.put, List.setIfInBounds_toArray, List.set_cons_zero, List.set_cons_succ]
          refine wpAnyH_ready (rs := [18]) (by kernel_rfl) (by simp) ?_
          refine (AllReadyH.cons (op_at rfl) (fun K hK => ?_) AllReadyH.nil)
          go_simp
          refine (Under_any a b _).mono ?_
          rintro e w8 ⟨rfl, hB⟩
          rw [HU.out]
          have B8 := Lib.hid (below_call (w := w) B7.out hB)
          replace LA := Lib.hid (LA.out.after hB)
          replace LB := Lib.hid (LB.out.after hB)
          replace HT := Lib.hid (HT.out.after hB)
          replace O2 := Lib.hid (O2.out.after hB)
          refine hK.out _ _ ⟨LA.out, LB.out⟩ (fun hS => ?_)
          clear hK K hB
          try simp only [Act.put, List.setIfInBounds_toArray, List.set_cons_zero, List.set_cons_succ]
          refine wpAnyH_take (i := 19) (v := ?_) (op_at rfl) (by kernel_rfl) (by kernel_rfl) (by kernel_rfl) (fun _ _ _ h => h) (Or.inl ⟨by rfl, ?_⟩) hS ?_; rotate_left; focus ((intro w' hSw; clear hSw; go_simp) <;> with_reducible rfl)
          try simp only [Act.put, List.setIfInBounds_toArray, List.set_cons_zero, List.set_cons_succ]
          refine wpAnyH_take (i := 20) (v := ?_) (op_at rfl) (by kernel_rfl) (by kernel_rfl) (by kernel_rfl) (fun _ _ _ h => h) (Or.inl ⟨by rfl, ?_⟩) hS ?_; rotate_left; focus ((intro w' hSw; clear hSw; go_simp) <;> with_reducible rfl)
          try simp only [Act.put, List.setIfInBounds_toArray, List.set_cons_zero, List.set_cons_succ]
          refine wpAnyH_take (i := 21) (v := ?_) (op_at rfl) (by kernel_rfl) (by kernel_rfl) (by kernel_rfl) (fun _ _ _ h => h) (Or.inl ⟨by rfl, ?_⟩) hS ?_; rotate_left; focus ((intro w' hSw; have hA := hSw.2; have c0 := hA.at_ (i := 0) (v := .int .i64 b.lv) rfl; have c1 := hA.at_ (i := 1) (v := .int .u64 (u b.c)) rfl; have c2 := hA.at_ (i := 2) (v := .int .i64 b.ig) rfl; clear hA; clear hSw; go_simp) <;> with_reducible rfl)
          try simp only [Act.put, List.setIfInBounds_toArray, List.set_cons_zero, List.set_cons_succ]
          refine wpAnyH_take (i := 23) (v := ?_) (op_at rfl) (by kernel_rfl) (by kernel_rfl) (by kernel_rfl) (fun _ _ _ h => h) (Or.inl ⟨by rfl, ?_⟩) hS ?_; rotate_left; focus ((intro w' hSw; clear hSw; go_simp) <;> with_reducible rfl)
          try simp only [Act.put, List.setIfInBounds_toArray, List.set_cons_zero, List.set_cons_succ]
          refine wpAnyH_take (i := 24) (v := ?_) (op_at rfl) (by kernel_rfl) (by kernel_rfl) (by kernel_rfl) (fun _ _ _ h => h) (Or.inl ⟨by rfl, ?_⟩) hS ?_; rotate_left; focus ((intro w' hSw; have hA := hSw.2; have c0 := hA.at_ (i := 0) (v := .int .i64 b.lv) rfl; have c1 := hA.at_ (i := 1) (v := .int .u64 (u b.c)) rfl; have c2 := hA.at_ (i := 2) (v := .int .i64 b.ig) rfl; clear hA; clear hSw; go_simp) <;> with_reducible rfl)
          try simp only [Act.put, List.setIfInBounds_toArray, List.set_cons_zero, List.set_cons_succ]
          refine wpAnyH_ready (rs := [22]) (by kernel_rfl) (by simp) ?_
          refine (AllReadyH.cons (op_at rfl) (fun K hK => ?_) AllReadyH.nil)
          go_simp
          refine (seen_at l _ b _ HT.out (Nat.le_trans ht.out.2 (by decide))).mono ?_
          rintro e w9 ⟨p5, c5, S5, rfl, F5, hO, hB⟩
          have B9 := Lib.hid (below_call (w := w) B8.out hB)
          replace LA := Lib.hid (LA.out.after hB)
          replace LB := Lib.hid (LB.out.after hB)
          replace HT := Lib.hid (HT.out.after hB)
          replace O2 := Lib.hid (O2.out.after hB)
          have O5 := Lib.hid hO
          clear hO
          refine hK.out _ _ ⟨LA.out, LB.out⟩ (fun hS => ?_)
          clear hK K hB
          try simp only [Act.put, List.setIfInBounds_toArray, List.set_cons_zero, List.set_cons_succ]
          refine wpAnyH_ready (rs := [25]) (by kernel_rfl) (by simp) ?_
          refine (AllReadyH.cons (op_at rfl) (fun K hK => ?_) AllReadyH.nil)
          go_simp
          refine (seen_at L2 _ b _ O2.out.lns HL2.out).mono ?_
          rintro e w10 ⟨p6, c6, S6, rfl, F6, hO, hB⟩
          replace O5 := Lib.hid (O5.out.after hB)
          have B10 := Lib.hid (below_call (w := w) B9.out hB)
          replace LA := Lib.hid (LA.out.after hB)
          replace LB := Lib.hid (LB.out.after hB)
          replace HT := Lib.hid (HT.out.after hB)
          replace O2 := Lib.hid (O2.out.after hB)
          have O6 := Lib.hid hO
          clear hO
          refine hK.out _ _ ⟨LA.out, LB.out⟩ (fun hS => ?_)
          clear hK K hB
          try simp only [Act.put, List.setIfInBounds_toArray, List.set_cons_zero, List.set_cons_succ]
          refine wpAnyH_ready (rs := [26]) (by kernel_rfl) (by simp) ?_
          refine (AllReadyH.cons (op_at rfl) (fun K hK => ?_) AllReadyH.nil)
          go_simp
          refine (same_yes _ _ S5 S6 _ O5.out.lns O6.out.lns (by rw [F5.out, F6.out, G3.out HU.out])).mono ?_
          rintro e w11 ⟨rfl, hB⟩
          have B11 := Lib.hid (below_call (w := w) B10.out hB)
          replace LA := Lib.hid (LA.out.after hB)
          replace LB := Lib.hid (LB.out.after hB)
          replace HT := Lib.hid (HT.out.after hB)
          replace O2 := Lib.hid (O2.out.after hB)
          refine hK.out _ _ ⟨LA.out, LB.out⟩ (fun hS => ?_)
          clear hK K hB
          try simp only [Act.put, List.setIfInBounds_toArray, List.set_cons_zero, List.set_cons_succ]
          refine wpAnyH_take (i := 27) (v := ?_) (op_at rfl) (by kernel_rfl) (by kernel_rfl) (by kernel_rfl) (fun _ _ _ h => h) (Or.inl ⟨by rfl, ?_⟩) hS ?_; rotate_left; focus ((intro w' hSw; clear hSw; go_simp) <;> with_reducible rfl)
          try simp only [Act.put, List.setIfInBounds_toArray, List.set_cons_zero, List.set_cons_succ]
          refine wpAnyH_take (i := 28) (v := ?_) (op_at rfl) (by kernel_rfl) (by kernel_rfl) (by kernel_rfl) (fun _ _ _ h => h) (Or.inl ⟨by rfl, ?_⟩) hS ?_; rotate_left; focus ((intro w' hSw; clear hSw; go_simp) <;> with_reducible rfl)
          try simp only [Act.put, List.setIfInBounds_toArray, List.set_cons_zero, List.set_cons_succ]
          refine wpAnyH_take (i := 29) (v := ?_) (op_at rfl) (by kernel_rfl) (by kernel_rfl) (by kernel_rfl) (fun _ _ _ h => h) (Or.inl ⟨by rfl, ?_⟩) hS ?_; rotate_left; focus ((intro w' hSw; clear hSw; go_simp) <;> with_reducible rfl)
          try simp only [Act.put, List.setIfInBounds_toArray, List.set_cons_zero, List.set_cons_succ]
          refine wpAnyH_done (by kernel_rfl) ?_ _
          go_wp2_with fail
          go_ret
          exact ⟨rfl, B11.out⟩
        · have HU := Lib.hid hu
          clear hu
          refine wp_region_gen2 (S := fun W => Blk W w.heap.size 25 #[.int .i64 a.lv, .int .u64 (u a.c), .int .i64 a.ig] ∧ Blk W (w.heap.size + 1) 25 #[.int .i64 b.lv, .int .u64 (u b.c), .int .i64 b.ig]) (N := fun W => Below w4.heap.size w4 W) (by kernel_rfl) ⟨LA.out.drew, LB.out.drew⟩ (Below.refl _ _).drew (fun w5 hS hN => ?_)
          have B5 := Lib.hid (below_call (w := w) B4.out hN)
          replace LA := Lib.hid (LA.out.after hN)
          replace LB := Lib.hid (LB.out.after hN)
          replace HT := Lib.hid (HT.out.after hN)
          replace O2 := Lib.hid (O2.out.after hN)
          clear hN
          refine wpAnyH_take (i := 0) (v := ?_) (op_at rfl) (by kernel_rfl) (by kernel_rfl) (by kernel_rfl) (fun _ _ _ h => h) (Or.inl ⟨by rfl, ?_⟩) hS ?_; rotate_left; focus ((intro w' hSw; clear hSw; go_simp) <;> with_reducible rfl)
          try simp only [Act.put, List.setIfInBounds_toArray, List.set_cons_zero, List.set_cons_succ]
          refine wpAnyH_take (i := 1) (v := ?_) (op_at rfl) (by kernel_rfl) (by kernel_rfl) (by kernel_rfl) (fun _ _ _ h => h) (Or.inl ⟨by rfl, ?_⟩) hS ?_; rotate_left; focus ((intro w' hSw; clear hSw; go_simp) <;> with_reducible rfl)
          try simp only [Act.put, List.setIfInBounds_toArray, List.set_cons_zero, List.set_cons_succ]
          refine wpAnyH_take (i := 2) (v := ?_) (op_at rfl) (by kernel_rfl) (by kernel_rfl) (by kernel_rfl) (fun _ _ _ h => h) (Or.inl ⟨by rfl, ?_⟩) hS ?_; rotate_left; focus ((intro w' hSw; clear hSw; go_simp) <;> with_reducible rfl)
          try simp only [Act.put, List.setIfInBounds_toArray, List.set_cons_zero, List.set_cons_succ]
          refine wpAnyH_take (i := 3) (v := ?_) (op_at rfl) (by kernel_rfl) (by kernel_rfl) (by kernel_rfl) (fun _ _ _ h => h) (Or.inl ⟨by rfl, ?_⟩) hS ?_; rotate_left; focus ((intro w' hSw; clear hSw; go_simp) <;> with_reducible rfl)
          try simp only [Act.put, List.setIfInBounds_toArray, List.set_cons_zero, List.set_cons_succ]
          refine wpAnyH_take (i := 4) (v := ?_) (op_at rfl) (by kernel_rfl) (by kernel_rfl) (by kernel_rfl) (fun _ _ _ h => h) (Or.inl ⟨by rfl, ?_⟩) hS ?_; rotate_left; focus ((intro w' hSw; clear hSw; go_simp) <;> with_reducible rfl)
          try simp only [Act.put, List.setIfInBounds_toArray, List.set_cons_zero, List.set_cons_succ]
          refine wpAnyH_take (i := 5) (v := ?_) (op_at rfl) (by kernel_rfl) (by kernel_rfl) (by kernel_rfl) (fun _ _ _ h => h) (Or.inl ⟨by rfl, ?_⟩) hS ?_; rotate_left; focus ((intro w' hSw; clear hSw; go_simp) <;> with_reducible rfl)
          try simp only [Act.put, List.setIfInBounds_toArray, List.set_cons_zero, List.set_cons_succ]
          refine wpAnyH_take (i := 6) (v := ?_) (op_at rfl) (by kernel_rfl) (by kernel_rfl) (by kernel_rfl) (fun _ _ _ h => h) (Or.inl ⟨by rfl, ?_⟩) hS ?_; rotate_left; focus ((intro w' hSw; clear hSw; go_simp) <;> with_reducible rfl)
          try simp only [Act.put, List.setIfInBounds_toArray, List.set_cons_zero, List.set_cons_succ]
          refine wpAnyH_take (i := 7) (v := ?_) (op_at rfl) (by kernel_rfl) (by kernel_rfl) (by kernel_rfl) (fun _ _ _ h => h) (Or.inl ⟨by rfl, ?_⟩) hS ?_; rotate_left; focus ((intro w' hSw; clear hSw; go_simp) <;> with_reducible rfl)
          try simp only [Act.put, List.setIfInBounds_toArray, List.set_cons_zero, List.set_cons_succ]
          refine wpAnyH_take (i := 8) (v := ?_) (op_at rfl) (by kernel_rfl) (by kernel_rfl) (by kernel_rfl) (fun _ _ _ h => h) (Or.inl ⟨by rfl, ?_⟩) hS ?_; rotate_left; focus ((intro w' hSw; have hA := hSw.2; have c0 := hA.at_ (i := 0) (v := .int .i64 b.lv) rfl; have c1 := hA.at_ (i := 1) (v := .int .u64 (u b.c)) rfl; have c2 := hA.at_ (i := 2) (v := .int .i64 b.ig) rfl; clear hA; clear hSw; go_simp) <;> with_reducible rfl)
          try simp only [Act.put, List.setIfInBounds_toArray, List.set_cons_zero, List.set_cons_succ]
          refine wpAnyH_take (i := 10) (v := ?_) (op_at rfl) (by kernel_rfl) (by kernel_rfl) (by kernel_rfl) (fun _ _ _ h => h) (Or.inl ⟨by rfl, ?_⟩) hS ?_; rotate_left; focus ((intro w' hSw; clear hSw; go_simp) <;> with_reducible rfl)
          try simp only [Act.put, List.setIfInBounds_toArray, List.set_cons_zero, List.set_cons_succ]
          refine wpAnyH_take (i := 11) (v := ?_) (op_at rfl) (by kernel_rfl) (by kernel_rfl) (by kernel_rfl) (fun _ _ _ h => h) (Or.inl ⟨by rfl, ?_⟩) hS ?_; rotate_left; focus ((intro w' hSw; have hA := hSw.2; have c0 := hA.at_ (i := 0) (v := .int .i64 b.lv) rfl; have c1 := hA.at_ (i := 1) (v := .int .u64 (u b.c)) rfl; have c2 := hA.at_ (i := 2) (v := .int .i64 b.ig) rfl; clear hA; clear hSw; go_simp) <;> with_reducible rfl)
          try simp only [Act.put, List.setIfInBounds_toArray, List.set_cons_zero, List.set_cons_succ]
          refine wpAnyH_ready (rs := [9]) (by kernel_rfl) (by simp) ?_
          refine (AllReadyH.cons (op_at rfl) (fun K hK => ?_) AllReadyH.nil)
          go_simp
          refine (used_at L2 _ b _ O2.out.lns).mono ?_
          rintro e w6 ⟨r1, rfl, hr1, hB⟩
          have R1 := hr1
          clear hr1
          have B6 := Lib.hid (below_call (w := w) B5.out hB)
          replace LA := Lib.hid (LA.out.after hB)
          replace LB := Lib.hid (LB.out.after hB)
          replace HT := Lib.hid (HT.out.after hB)
          replace O2 := Lib.hid (O2.out.after hB)
          refine hK.out _ _ ⟨LA.out, LB.out⟩ (fun hS => ?_)
          clear hK K hB
          try simp only [Act.put, List.setIfInBounds_toArray, List.set_cons_zero, List.set_cons_succ]
          refine wpAnyH_ready (rs := [12]) (by kernel_rfl) (by simp) ?_
          refine (AllReadyH.cons (op_at rfl) (fun K hK => ?_) AllReadyH.nil)
          go_simp
          refine (used_at l _ b _ HT.out).mono ?_
          rintro e w7 ⟨r2, rfl, hr2, hB⟩
          obtain rfl : r1 = r2 := by rw [R1.out, hr2.out, G2.out]
          clear R1 hr2
          have B7 := Lib.hid (below_call (w := w) B6.out hB)
          replace LA := Lib.hid (LA.out.after hB)
          replace LB := Lib.hid (LB.out.after hB)
          replace HT := Lib.hid (HT.out.after hB)
          replace O2 := Lib.hid (O2.out.after hB)
          refine hK.out _ _ ⟨LA.out, LB.out⟩ (fun hS => ?_)
          clear hK K hB
          try simp only [Act.put, List.setIfInBounds_toArray, List.set_cons_zero, List.set_cons_succ]
          refine wpAnyH_take (i := 13) (v := ?_) (op_at rfl) (by kernel_rfl) (by kernel_rfl) (by kernel_rfl) (fun _ _ _ h => h) (Or.inl ⟨by rfl, ?_⟩) hS ?_; rotate_left; focus ((intro w' hSw; clear hSw; go_simp) <;> with_reducible rfl)
          try simp only [Act.put, List.setIfInBounds_toArray, List.set_cons_zero, List.set_cons_succ]
          refine wpAnyH_take (i := 14) (v := ?_) (op_at rfl) (by kernel_rfl) (by kernel_rfl) (by kernel_rfl) (fun _ _ _ h => h) (Or.inl ⟨by rfl, ?_⟩) hS ?_; rotate_left; focus ((intro w' hSw; clear hSw; go_simp) <;> with_reducible rfl)
          try simp only [Act.put, List.setIfInBounds_toArray, List.set_cons_zero, List.set_cons_succ]
          refine wpAnyH_take (i := 15) (v := ?_) (op_at rfl) (by kernel_rfl) (by kernel_rfl) (by kernel_rfl) (fun _ _ _ h => h) (Or.inl ⟨by rfl, ?_⟩) hS ?_; rotate_left; focus ((intro w' hSw; clear hSw; go_simp) <;> with_reducible rfl)
          try simp only [Act.put, List.setIfInBounds_toArray, List.set_cons_zero, List.set_cons_succ]
          refine wpAnyH_take (i := 16) (v := ?_) (op_at rfl) (by kernel_rfl) (by kernel_rfl) (by kernel_rfl) (fun _ _ _ h => h) (Or.inl ⟨by rfl, ?_⟩) hS ?_; rotate_left; focus ((intro w' hSw; have hA := hSw.1; have c0 := hA.at_ (i := 0) (v := .int .i64 a.lv) rfl; have c1 := hA.at_ (i := 1) (v := .int .u64 (u a.c)) rfl; have c2 := hA.at_ (i := 2) (v := .int .i64 a.ig) rfl; clear hA; clear hSw; go_simp) <;> with_reducible rfl)
          try simp only [Act.put, List.setIfInBounds_toArray, List.set_cons_zero, List.set_cons_succ]
          refine wpAnyH_take (i := 17) (v := ?_) (op_at rfl) (by kernel_rfl) (by kernel_rfl) (by kernel_rfl) (fun _ _ _ h => h) (Or.inl ⟨by rfl, ?_⟩) hS ?_; rotate_left; focus ((intro w' hSw; have hA := hSw.2; have c0 := hA.at_ (i := 0) (v := .int .i64 b.lv) rfl; have c1 := hA.at_ (i := 1) (v := .int .u64 (u b.c)) rfl; have c2 := hA.at_ (i := 2) (v := .int .i64 b.ig) rfl; clear hA; clear hSw; go_simp) <;> with_reducible rfl)
          try simp only [Act.put, List.setIfInBounds_toArray, List.set_cons_zero, List.set_cons_succ]
          refine wpAnyH_ready (rs := [18]) (by kernel_rfl) (by simp) ?_
          refine (AllReadyH.cons (op_at rfl) (fun K hK => ?_) AllReadyH.nil)
          go_simp
          refine (Under_any a b _).mono ?_
          rintro e w8 ⟨rfl, hB⟩
          rw [HU.out]
          have B8 := Lib.hid (below_call (w := w) B7.out hB)
          replace LA := Lib.hid (LA.out.after hB)
          replace LB := Lib.hid (LB.out.after hB)
          replace HT := Lib.hid (HT.out.after hB)
          replace O2 := Lib.hid (O2.out.after hB)
          refine hK.out _ _ ⟨LA.out, LB.out⟩ (fun hS => ?_)
          clear hK K hB
          try simp only [Act.put, List.setIfInBounds_toArray, List.set_cons_zero, List.set_cons_succ]
          refine wpAnyH_take (i := 19) (v := ?_) (op_at rfl) (by kernel_rfl) (by kernel_rfl) (by kernel_rfl) (fun _ _ _ h => h) (Or.inl ⟨by rfl, ?_⟩) hS ?_; rotate_left; focus ((intro w' hSw; clear hSw; go_simp) <;> with_reducible rfl)
          try simp only [Act.put, List.setIfInBounds_toArray, List.set_cons_zero, List.set_cons_succ]
          refine wpAnyH_take (i := 20) (v := undef) (op_at rfl) (by kernel_rfl) (by kernel_rfl) (by kernel_rfl) (fun _ _ _ h => h) (Or.inr ⟨by rfl, rfl⟩) hS ?_
          try simp only [Act.put, List.setIfInBounds_toArray, List.set_cons_zero, List.set_cons_succ]
          refine wpAnyH_take (i := 21) (v := undef) (op_at rfl) (by kernel_rfl) (by kernel_rfl) (by kernel_rfl) (fun _ _ _ h => h) (Or.inr ⟨by rfl, rfl⟩) hS ?_
          try simp only [Act.put, List.setIfInBounds_toArray, List.set_cons_zero, List.set_cons_succ]
          refine wpAnyH_take (i := 22) (v := undef) (op_at rfl) (by kernel_rfl) (by kernel_rfl) (by kernel_rfl) (fun _ _ _ h => h) (Or.inr ⟨by rfl, rfl⟩) hS ?_
          try simp only [Act.put, List.setIfInBounds_toArray, List.set_cons_zero, List.set_cons_succ]
          refine wpAnyH_take (i := 23) (v := undef) (op_at rfl) (by kernel_rfl) (by kernel_rfl) (by kernel_rfl) (fun _ _ _ h => h) (Or.inr ⟨by rfl, rfl⟩) hS ?_
          try simp only [Act.put, List.setIfInBounds_toArray, List.set_cons_zero, List.set_cons_succ]
          refine wpAnyH_take (i := 24) (v := undef) (op_at rfl) (by kernel_rfl) (by kernel_rfl) (by kernel_rfl) (fun _ _ _ h => h) (Or.inr ⟨by rfl, rfl⟩) hS ?_
          try simp only [Act.put, List.setIfInBounds_toArray, List.set_cons_zero, List.set_cons_succ]
          refine wpAnyH_take (i := 25) (v := undef) (op_at rfl) (by kernel_rfl) (by kernel_rfl) (by kernel_rfl) (fun _ _ _ h => h) (Or.inr ⟨by rfl, rfl⟩) hS ?_
          try simp only [Act.put, List.setIfInBounds_toArray, List.set_cons_zero, List.set_cons_succ]
          refine wpAnyH_take (i := 26) (v := undef) (op_at rfl) (by kernel_rfl) (by kernel_rfl) (by kernel_rfl) (fun _ _ _ h => h) (Or.inr ⟨by rfl, rfl⟩) hS ?_
          try simp only [Act.put, List.setIfInBounds_toArray, List.set_cons_zero, List.set_cons_succ]
          refine wpAnyH_take (i := 27) (v := ?_) (op_at rfl) (by kernel_rfl) (by kernel_rfl) (by kernel_rfl) (fun _ _ _ h => h) (Or.inl ⟨by rfl, ?_⟩) hS ?_; rotate_left; focus ((intro w' hSw; clear hSw; go_simp) <;> with_reducible rfl)
          try simp only [Act.put, List.setIfInBounds_toArray, List.set_cons_zero, List.set_cons_succ]
          refine wpAnyH_take (i := 28) (v := ?_) (op_at rfl) (by kernel_rfl) (by kernel_rfl) (by kernel_rfl) (fun _ _ _ h => h) (Or.inl ⟨by rfl, ?_⟩) hS ?_; rotate_left; focus ((intro w' hSw; clear hSw; go_simp) <;> with_reducible rfl)
          try simp only [Act.put, List.setIfInBounds_toArray, List.set_cons_zero, List.set_cons_succ]
          refine wpAnyH_take (i := 29) (v := ?_) (op_at rfl) (by kernel_rfl) (by kernel_rfl) (by kernel_rfl) (fun _ _ _ h => h) (Or.inl ⟨by rfl, ?_⟩) hS ?_; rotate_left; focus ((intro w' hSw; clear hSw; go_simp) <;> with_reducible rfl)
          try simp only [Act.put, List.setIfInBounds_toArray, List.set_cons_zero, List.set_cons_succ]
          refine wpAnyH_done (by kernel_rfl) ?_ _
          go_wp2_with fail
          go_ret
          exact ⟨rfl, B8.out⟩
    · have d2 : (e2 == 0) = false := beq_eq_false_iff_ne.2 z
      have d2' : (e2 != 0) = true := bne_iff_ne.2 z
      clear z E2 F2 E3 F3 HL
      go_wp2_with fail
      go_ret
      exact ⟨rfl, B3.out⟩
  · have f1 : min (l.length : Int) 30 = 30 := by omega
    have f2 : ¬ ((l.length : Int) ≤ 30) := by omega
    have f3 : (30 : Int) ≤ (l.length : Int) := by omega
    have f4 : 30 ≤ l.length := by omega
    have f5 : (30 : Int) ≤ (c : Int) := by omega
    have ht := Lib.hid (show LnsAt w (.slice A 30 c) (l.take 30) ∧ (l.take 30).length ≤ 42 from ⟨(cut30 HL.out h).1, by rw [(cut30 HL.out h).2]; omega⟩)
    go_enter Tryd.func9, Tryd.ntmps9
    go_wp2_with fail
    refine (shown_any _ (HH.out.up (below_alloc (below_alloc (Below.refl _ _) _) _))).mono ?_
    rintro e w1 ⟨rfl, hB⟩
    have B1 := Lib.hid (below_call (w := w) (below_alloc (below_alloc (Below.refl _ _) _) _) hB)
    have LA := Lib.hid (((Blk.new' rfl : Blk (w.alloc (.cells #[.int .i64 a.lv, .int .u64 (u a.c), .int .i64 a.ig] 25)) w.heap.size 25 #[.int .i64 a.lv, .int .u64 (u a.c), .int .i64 a.ig]).alloc (.cells #[.int .i64 b.lv, .int .u64 (u b.c), .int .i64 b.ig] 25)).after hB)
    have LB := Lib.hid ((Blk.new' (by simp) : Blk ((w.alloc (.cells #[.int .i64 a.lv, .int .u64 (u a.c), .int .i64 a.ig] 25)).alloc (.cells #[.int .i64 b.lv, .int .u64 (u b.c), .int .i64 b.ig] 25)) (w.heap.size + 1) 25 #[.int .i64 b.lv, .int .u64 (u b.c), .int .i64 b.ig]).after hB)
    clear hB
    have HT : Hid (LnsAt w1 (.slice A 30 c) (l.take 30)) := Lib.hid (ht.out.1.later B1.out B1.out.size)
    have x0 := LA.out.at_ (i := 0) (v := .int .i64 a.lv) rfl
    have x1 := LA.out.at_ (i := 1) (v := .int .u64 (u a.c)) rfl
    have x2 := LA.out.at_ (i := 2) (v := .int .i64 a.ig) rfl
    go_wp2_with fail
    refine (charge_at _ (l.take 30) q a n _ HT.out (Nat.le_trans ht.out.2 (by decide)) (HH.out.up B1.out)).mono ?_
    rintro e w2 ⟨v2, e2, L2, rfl, E2, F2, hO, hB⟩
    obtain ⟨p2, c2, rfl⟩ := hO.val
    have B2 := Lib.hid (below_call (w := w) B1.out hB)
    replace LA := Lib.hid (LA.out.after hB)
    replace LB := Lib.hid (LB.out.after hB)
    replace HT := Lib.hid (HT.out.after hB)
    have O2 := Lib.hid hO
    clear hO x0 x1 x2 s0 s1 f1 f2 f3 f4 f5 hc h63 h
    clear hB
    have x0 := LB.out.at_ (i := 0) (v := .int .i64 b.lv) rfl
    have x1 := LB.out.at_ (i := 1) (v := .int .u64 (u b.c)) rfl
    have x2 := LB.out.at_ (i := 2) (v := .int .i64 b.ig) rfl
    go_wp2_with fail
    refine (charge_at _ (l.take 30) q b m _ HT.out (Nat.le_trans ht.out.2 (by decide)) (HH.out.up B2.out)).mono ?_
    rintro e w3 ⟨v3, e3, L3, rfl, E3, F3, hO, hB⟩
    obtain ⟨p3, c3, rfl⟩ := hO.val
    have B3 := Lib.hid (below_call (w := w) B2.out hB)
    replace LA := Lib.hid (LA.out.after hB)
    replace LB := Lib.hid (LB.out.after hB)
    replace HT := Lib.hid (HT.out.after hB)
    replace O2 := Lib.hid (O2.out.after hB)
    clear hO x0 x1 x2
    clear hB
    have x0 := LA.out.at_ (i := 0) (v := .int .i64 a.lv) rfl
    have x1 := LA.out.at_ (i := 1) (v := .int .u64 (u a.c)) rfl
    have x2 := LA.out.at_ (i := 2) (v := .int .i64 a.ig) rfl
    have y0 := LB.out.at_ (i := 0) (v := .int .i64 b.lv) rfl
    have y1 := LB.out.at_ (i := 1) (v := .int .u64 (u b.c)) rfl
    have y2 := LB.out.at_ (i := 2) (v := .int .i64 b.ig) rfl
    by_cases z : e2 = 0
    · by_cases hab : a = b
      · subst z
        have hE := eqlIs (eqL_iff.2 hab)
        clear hab E2 F2 E3 F3 HL
        go_wp2_with fail
        go_ret
        exact ⟨rfl, B3.out⟩
      · obtain ⟨g1, g2, g3⟩ := apart_law (q := q) (m := m) (Nat.le_trans ht.out.2 (by decide)) (E2.out.symm.trans z) hab
        rw [← F2.out] at g1 g2 g3
        have G1 := Lib.hid g1
        have G2 := Lib.hid g2
        have G3 := Lib.hid g3
        have HL2 := Lib.hid (len_one F2.out ht.out.2)
        have hE := eqlIs (nbool fun k => hab (eqL_iff.1 k))
        subst z
        clear hab E2 F2 HL g1 g2 g3
        go_wp2_with fail
        refine (charge_at _ L2 q b m _ O2.out.lns HL2.out (HH.out.up B3.out)).mono ?_
        rintro e w4 ⟨v4, e4, L4, rfl, E4, F4, hO, hB⟩
        obtain ⟨p4, c4, rfl⟩ := hO.val
        obtain rfl : e4 = e3 := by rw [E4.out, E3.out, G1.out]
        have B4 := Lib.hid (below_call (w := w) B3.out hB)
        replace LA := Lib.hid (LA.out.after hB)
        replace LB := Lib.hid (LB.out.after hB)
        replace HT := Lib.hid (HT.out.after hB)
        replace O2 := Lib.hid (O2.out.after hB)
        clear hO x0 x1 x2 y0 y1 y2 hE E3 F3
        clear hB
        have EQ : (e4 == e4) = true := beq_self_eq_true e4
        go_wp2_with fail
        cases hu : underL a b
        · have HU := Lib.hid hu
          clear hu
          refine wp_region_gen2 (S := fun W => Blk W w.heap.size 25 #[.int .i64 a.lv, .int .u64 (u a.c), .int .i64 a.ig] ∧ Blk W (w.heap.size + 1) 25 #[.int .i64 b.lv, .int .u64 (u b.c), .int .i64 b.ig]) (N := fun W => Below w4.heap.size w4 W) (by kernel_rfl) ⟨LA.out.drew, LB.out.drew⟩ (Below.refl _ _).drew (fun w5 hS hN => ?_)
          have B5 := Lib.hid (below_call (w := w) B4.out hN)
          replace LA := Lib.hid (LA.out.after hN)
          replace LB := Lib.hid (LB.out.after hN)
          replace HT := Lib.hid (HT.out.after hN)
          replace O2 := Lib.hid (O2.out.after hN)
          clear hN
          refine wpAnyH_take (i := 0) (v := ?_) (op_at rfl) (by kernel_rfl) (by kernel_rfl) (by kernel_rfl) (fun _ _ _ h => h) (Or.inl ⟨by rfl, ?_⟩) hS ?_; rotate_left; focus ((intro w' hSw; clear hSw; go_simp) <;> with_reducible rfl)
          try simp only [Act.put, List.setIfInBounds_toArray, List.set_cons_zero, List.set_cons_succ]
          refine wpAnyH_take (i := 1) (v := ?_) (op_at rfl) (by kernel_rfl) (by kernel_rfl) (by kernel_rfl) (fun _ _ _ h => h) (Or.inl ⟨by rfl, ?_⟩) hS ?_; rotate_left; focus ((intro w' hSw; clear hSw; go_simp) <;> with_reducible rfl)
          try simp only [Act.put, List.setIfInBounds_toArray, List.set_cons_zero, List.set_cons_succ]
          refine wpAnyH_take (i := 2) (v := ?_) (op_at rfl) (by kernel_rfl) (by kernel_rfl) (by kernel_rfl) (fun _ _ _ h => h) (Or.inl ⟨by rfl, ?_⟩) hS ?_; rotate_left; focus ((intro w' hSw; clear hSw; go_simp) <;> with_reducible rfl)
          try simp only [Act.put, List.setIfInBounds_toArray, List.set_cons_zero, List.set_cons_succ]
          refine wpAnyH_take (i := 3) (v := ?_) (op_at rfl) (by kernel_rfl) (by kernel_rfl) (by kernel_rfl) (fun _ _ _ h => h) (Or.inl ⟨by rfl, ?_⟩) hS ?_; rotate_left; focus ((intro w' hSw; clear hSw; go_simp) <;> with_reducible rfl)
          try simp only [Act.put, List.setIfInBounds_toArray, List.set_cons_zero, List.set_cons_succ]
          refine wpAnyH_take (i := 4) (v := ?_) (op_at rfl) (by kernel_rfl) (by kernel_rfl) (by kernel_rfl) (fun _ _ _ h => h) (Or.inl ⟨by rfl, ?_⟩) hS ?_; rotate_left; focus ((intro w' hSw; clear hSw; go_simp) <;> with_reducible rfl)
          try simp only [Act.put, List.setIfInBounds_toArray, List.set_cons_zero, List.set_cons_succ]
          refine wpAnyH_take (i := 5) (v := ?_) (op_at rfl) (by kernel_rfl) (by kernel_rfl) (by kernel_rfl) (fun _ _ _ h => h) (Or.inl ⟨by rfl, ?_⟩) hS ?_; rotate_left; focus ((intro w' hSw; clear hSw; go_simp) <;> with_reducible rfl)
          try simp only [Act.put, List.setIfInBounds_toArray, List.set_cons_zero, List.set_cons_succ]
          refine wpAnyH_take (i := 6) (v := ?_) (op_at rfl) (by kernel_rfl) (by kernel_rfl) (by kernel_rfl) (fun _ _ _ h => h) (Or.inl ⟨by rfl, ?_⟩) hS ?_; rotate_left; focus ((intro w' hSw; clear hSw; go_simp) <;> with_reducible rfl)
          try simp only [Act.put, List.setIfInBounds_toArray, List.set_cons_zero, List.set_cons_succ]
          refine wpAnyH_take (i := 7) (v := ?_) (op_at rfl) (by kernel_rfl) (by kernel_rfl) (by kernel_rfl) (fun _ _ _ h => h) (Or.inl ⟨by rfl, ?_⟩) hS ?_; rotate_left; focus ((intro w' hSw; clear hSw; go_simp) <;> with_reducible rfl)
          try simp only [Act.put, List.setIfInBounds_toArray, List.set_cons_zero, List.set_cons_succ]
          refine wpAnyH_take (i := 8) (v := ?_) (op_at rfl) (by kernel_rfl) (by kernel_rfl) (by kernel_rfl) (fun _ _ _ h => h) (Or.inl ⟨by rfl, ?_⟩) hS ?_; rotate_left; focus ((intro w' hSw; have hA := hSw.2; have c0 := hA.at_ (i := 0) (v := .int .i64 b.lv) rfl; have c1 := hA.at_ (i := 1) (v := .int .u64 (u b.c)) rfl; have c2 := hA.at_ (i := 2) (v := .int .i64 b.ig) rfl; clear hA; clear hSw; go_simp) <;> with_reducible rfl)
          try simp only [Act.put, List.setIfInBounds_toArray, List.set_cons_zero, List.set_cons_succ]
          refine wpAnyH_take (i := 10) (v := ?_) (op_at rfl) (by kernel_rfl) (by kernel_rfl) (by kernel_rfl) (fun _ _ _ h => h) (Or.inl ⟨by rfl, ?_⟩) hS ?_; rotate_left; focus ((intro w' hSw; clear hSw; go_simp) <;> with_reducible rfl)
          try simp only [Act.put, List.setIfInBounds_toArray, List.set_cons_zero, List.set_cons_succ]
          refine wpAnyH_take (i := 11) (v := ?_) (op_at rfl) (by kernel_rfl) (by kernel_rfl) (by kernel_rfl) (fun _ _ _ h => h) (Or.inl ⟨by rfl, ?_⟩) hS ?_; rotate_left; focus ((intro w' hSw; have hA := hSw.2; have c0 := hA.at_ (i := 0) (v := .int .i64 b.lv) rfl; have c1 := hA.at_ (i := 1) (v := .int .u64 (u b.c)) rfl; have c2 := hA.at_ (i := 2) (v := .int .i64 b.ig) rfl; clear hA; clear hSw; go_simp) <;> with_reducible rfl)
          try simp only [Act.put, List.setIfInBounds_toArray, List.set_cons_zero, List.set_cons_succ]
          refine wpAnyH_ready (rs := [9]) (by kernel_rfl) (by simp) ?_
          refine (AllReadyH.cons (op_at rfl) (fun K hK => ?_) AllReadyH.nil)
          go_simp
          refine (used_at L2 _ b _ O2.out.lns).mono ?_
          rintro e w6 ⟨r1, rfl, hr1, hB⟩
          have R1 := hr1
          clear hr1
          have B6 := Lib.hid (below_call (w := w) B5.out hB)
          replace LA := Lib.hid (LA.out.after hB)
          replace LB := Lib.hid (LB.out.after hB)
          replace HT := Lib.hid (HT.out.after hB)
          replace O2 := Lib.hid (O2.out.after hB)
          refine hK.out _ _ ⟨LA.out, LB.out⟩ (fun hS => ?_)
          clear hK K hB
          try simp only [Act.put, List.setIfInBounds_toArray, List.set_cons_zero, List.set_cons_succ]
          refine wpAnyH_ready (rs := [12]) (by kernel_rfl) (by simp) ?_
          refine (AllReadyH.cons (op_at rfl) (fun K hK => ?_) AllReadyH.nil)
          go_simp
          refine (used_at (l.take 30) _ b _ HT.out).mono ?_
          rintro e w7 ⟨r2, rfl, hr2, hB⟩
          obtain rfl : r1 = r2 := by rw [R1.out, hr2.out, G2.out]
          clear R1 hr2
          have B7 := Lib.hid (below_call (w := w) B6.out hB)
          replace LA := Lib.hid (LA.out.after hB)
          replace LB := Lib.hid (LB.out.after hB)
          replace HT := Lib.hid (HT.out.after hB)
          replace O2 := Lib.hid (O2.out.after hB)
          refine hK.out _ _ ⟨LA.out, LB.out⟩ (fun hS => ?_)
          clear hK K hB
          try simp only [Act.put, List.setIfInBounds_toArray, List.set_cons_zero, List.set_cons_succ]
          refine wpAnyH_take (i := 13) (v := ?_) (op_at rfl) (by kernel_rfl) (by kernel_rfl) (by kernel_rfl) (fun _ _ _ h => h) (Or.inl ⟨by rfl, ?_⟩) hS ?_; rotate_left; focus ((intro w' hSw; clear hSw; go_simp) <;> with_reducible rfl)
          try simp only [Act.put, List.setIfInBounds_toArray, List.set_cons_zero, List.set_cons_succ]
          refine wpAnyH_take (i := 14) (v := ?_) (op_at rfl) (by kernel_rfl) (by kernel_rfl) (by kernel_rfl) (fun _ _ _ h => h) (Or.inl ⟨by rfl, ?_⟩) hS ?_; rotate_left; focus ((intro w' hSw; clear hSw; go_simp) <;> with_reducible rfl)
          try simp only [Act.put, List.setIfInBounds_toArray, List.set_cons_zero, List.set_cons_succ]
          refine wpAnyH_take (i := 15) (v := ?_) (op_at rfl) (by kernel_rfl) (by kernel_rfl) (by kernel_rfl) (fun _ _ _ h => h) (Or.inl ⟨by rfl, ?_⟩) hS ?_; rotate_left; focus ((intro w' hSw; clear hSw; go_simp) <;> with_reducible rfl)
          try simp only [Act.put, List.setIfInBounds_toArray, List.set_cons_zero, List.set_cons_succ]
          refine wpAnyH_take (i := 16) (v := ?_) (op_at rfl) (by kernel_rfl) (by kernel_rfl) (by kernel_rfl) (fun _ _ _ h => h) (Or.inl ⟨by rfl, ?_⟩) hS ?_; rotate_left; focus ((intro w' hSw; have hA := hSw.1; have c0 := hA.at_ (i := 0) (v := .int .i64 a.lv) rfl; have c1 := hA.at_ (i := 1) (v := .int .u64 (u a.c)) rfl; have c2 := hA.at_ (i := 2) (v := .int .i64 a.ig) rfl; clear hA; clear hSw; go_simp) <;> with_reducible rfl)
          try simp only [Act.put, List.setIfInBounds_toArray, List.set_cons_zero, List.set_cons_succ]
          refine wpAnyH_take (i := 17) (v := ?_) (op_at rfl) (by kernel_rfl) (by kernel_rfl) (by kernel_rfl) (fun _ _ _ h => h) (Or.inl ⟨by rfl, ?_⟩) hS ?_; rotate_left; focus ((intro w' hSw; have hA := hSw.2; have c0 := hA.at_ (i := 0) (v := .int .i64 b.lv) rfl; have c1 := hA.at_ (i := 1) (v := .int .u64 (u b.c)) rfl; have c2 := hA.at_ (i := 2) (v := .int .i64 b.ig) rfl; clear hA; clear hSw; go_simp) <;> with_reducible rfl)
          try simp only [Act.put, List.setIfInBounds_toArray, List.set_cons_zero, List.set_cons_succ]
          refine wpAnyH_ready (rs := [18]) (by kernel_rfl) (by simp) ?_
          refine (AllReadyH.cons (op_at rfl) (fun K hK => ?_) AllReadyH.nil)
          go_simp
          refine (Under_any a b _).mono ?_
          rintro e w8 ⟨rfl, hB⟩
          rw [HU.out]
          have B8 := Lib.hid (below_call (w := w) B7.out hB)
          replace LA := Lib.hid (LA.out.after hB)
          replace LB := Lib.hid (LB.out.after hB)
          replace HT := Lib.hid (HT.out.after hB)
          replace O2 := Lib.hid (O2.out.after hB)
          refine hK.out _ _ ⟨LA.out, LB.out⟩ (fun hS => ?_)
          clear hK K hB
          try simp only [Act.put, List.setIfInBounds_toArray, List.set_cons_zero, List.set_cons_succ]
          refine wpAnyH_take (i := 19) (v := ?_) (op_at rfl) (by kernel_rfl) (by kernel_rfl) (by kernel_rfl) (fun _ _ _ h => h) (Or.inl ⟨by rfl, ?_⟩) hS ?_; rotate_left; focus ((intro w' hSw; clear hSw; go_simp) <;> with_reducible rfl)
          try simp only [Act.put, List.setIfInBounds_toArray, List.set_cons_zero, List.set_cons_succ]
          refine wpAnyH_take (i := 20) (v := ?_) (op_at rfl) (by kernel_rfl) (by kernel_rfl) (by kernel_rfl) (fun _ _ _ h => h) (Or.inl ⟨by rfl, ?_⟩) hS ?_; rotate_left; focus ((intro w' hSw; clear hSw; go_simp) <;> with_reducible rfl)
          try simp only [Act.put, List.setIfInBounds_toArray, List.set_cons_zero, List.set_cons_succ]
          refine wpAnyH_take (i := 21) (v := ?_) (op_at rfl) (by kernel_rfl) (by kernel_rfl) (by kernel_rfl) (fun _ _ _ h => h) (Or.inl ⟨by rfl, ?_⟩) hS ?_; rotate_left; focus ((intro w' hSw; have hA := hSw.2; have c0 := hA.at_ (i := 0) (v := .int .i64 b.lv) rfl; have c1 := hA.at_ (i := 1) (v := .int .u64 (u b.c)) rfl; have c2 := hA.at_ (i := 2) (v := .int .i64 b.ig) rfl; clear hA; clear hSw; go_simp) <;> with_reducible rfl)
          try simp only [Act.put, List.setIfInBounds_toArray, List.set_cons_zero, List.set_cons_succ]
          refine wpAnyH_take (i := 23) (v := ?_) (op_at rfl) (by kernel_rfl) (by kernel_rfl) (by kernel_rfl) (fun _ _ _ h => h) (Or.inl ⟨by rfl, ?_⟩) hS ?_; rotate_left; focus ((intro w' hSw; clear hSw; go_simp) <;> with_reducible rfl)
          try simp only [Act.put, List.setIfInBounds_toArray, List.set_cons_zero, List.set_cons_succ]
          refine wpAnyH_take (i := 24) (v := ?_) (op_at rfl) (by kernel_rfl) (by kernel_rfl) (by kernel_rfl) (fun _ _ _ h => h) (Or.inl ⟨by rfl, ?_⟩) hS ?_; rotate_left; focus ((intro w' hSw; have hA := hSw.2; have c0 := hA.at_ (i := 0) (v := .int .i64 b.lv) rfl; have c1 := hA.at_ (i := 1) (v := .int .u64 (u b.c)) rfl; have c2 := hA.at_ (i := 2) (v := .int .i64 b.ig) rfl; clear hA; clear hSw; go_simp) <;> with_reducible rfl)
          try simp only [Act.put, List.setIfInBounds_toArray, List.set_cons_zero, List.set_cons_succ]
          refine wpAnyH_ready (rs := [22]) (by kernel_rfl) (by simp) ?_
          refine (AllReadyH.cons (op_at rfl) (fun K hK => ?_) AllReadyH.nil)
          go_simp
          refine (seen_at (l.take 30) _ b _ HT.out (Nat.le_trans ht.out.2 (by decide))).mono ?_
          rintro e w9 ⟨p5, c5, S5, rfl, F5, hO, hB⟩
          have B9 := Lib.hid (below_call (w := w) B8.out hB)
          replace LA := Lib.hid (LA.out.after hB)
          replace LB := Lib.hid (LB.out.after hB)
          replace HT := Lib.hid (HT.out.after hB)
          replace O2 := Lib.hid (O2.out.after hB)
          have O5 := Lib.hid hO
          clear hO
          refine hK.out _ _ ⟨LA.out, LB.out⟩ (fun hS => ?_)
          clear hK K hB
          try simp only [Act.put, List.setIfInBounds_toArray, List.set_cons_zero, List.set_cons_succ]
          refine wpAnyH_ready (rs := [25]) (by kernel_rfl) (by simp) ?_
          refine (AllReadyH.cons (op_at rfl) (fun K hK => ?_) AllReadyH.nil)
          go_simp
          refine (seen_at L2 _ b _ O2.out.lns HL2.out).mono ?_
          rintro e w10 ⟨p6, c6, S6, rfl, F6, hO, hB⟩
          replace O5 := Lib.hid (O5.out.after hB)
          have B10 := Lib.hid (below_call (w := w) B9.out hB)
          replace LA := Lib.hid (LA.out.after hB)
          replace LB := Lib.hid (LB.out.after hB)
          replace HT := Lib.hid (HT.out.after hB)
          replace O2 := Lib.hid (O2.out.after hB)
          have O6 := Lib.hid hO
          clear hO
          refine hK.out _ _ ⟨LA.out, LB.out⟩ (fun hS => ?_)
          clear hK K hB
          try simp only [Act.put, List.setIfInBounds_toArray, List.set_cons_zero, List.set_cons_succ]
          refine wpAnyH_ready (rs := [26]) (by kernel_rfl) (by simp) ?_
          refine (AllReadyH.cons (op_at rfl) (fun K hK => ?_) AllReadyH.nil)
          go_simp
          refine (same_yes _ _ S5 S6 _ O5.out.lns O6.out.lns (by rw [F5.out, F6.out, G3.out HU.out])).mono ?_
          rintro e w11 ⟨rfl, hB⟩
          have B11 := Lib.hid (below_call (w := w) B10.out hB)
          replace LA := Lib.hid (LA.out.after hB)
          replace LB := Lib.hid (LB.out.after hB)
          replace HT := Lib.hid (HT.out.after hB)
          replace O2 := Lib.hid (O2.out.after hB)
          refine hK.out _ _ ⟨LA.out, LB.out⟩ (fun hS => ?_)
          clear hK K hB
          try simp only [Act.put, List.setIfInBounds_toArray, List.set_cons_zero, List.set_cons_succ]
          refine wpAnyH_take (i := 27) (v := ?_) (op_at rfl) (by kernel_rfl) (by kernel_rfl) (by kernel_rfl) (fun _ _ _ h => h) (Or.inl ⟨by rfl, ?_⟩) hS ?_; rotate_left; focus ((intro w' hSw; clear hSw; go_simp) <;> with_reducible rfl)
          try simp only [Act.put, List.setIfInBounds_toArray, List.set_cons_zero, List.set_cons_succ]
          refine wpAnyH_take (i := 28) (v := ?_) (op_at rfl) (by kernel_rfl) (by kernel_rfl) (by kernel_rfl) (fun _ _ _ h => h) (Or.inl ⟨by rfl, ?_⟩) hS ?_; rotate_left; focus ((intro w' hSw; clear hSw; go_simp) <;> with_reducible rfl)
          try simp only [Act.put, List.setIfInBounds_toArray, List.set_cons_zero, List.set_cons_succ]
          refine wpAnyH_take (i := 29) (v := ?_) (op_at rfl) (by kernel_rfl) (by kernel_rfl) (by kernel_rfl) (fun _ _ _ h => h) (Or.inl ⟨by rfl, ?_⟩) hS ?_; rotate_left; focus ((intro w' hSw; clear hSw; go_simp) <;> with_reducible rfl)
          try simp only [Act.put, List.setIfInBounds_toArray, List.set_cons_zero, List.set_cons_succ]
          refine wpAnyH_done (by kernel_rfl) ?_ _
          go_wp2_with fail
          go_ret
          exact ⟨rfl, B11.out⟩
        · have HU := Lib.hid hu
          clear hu
          refine wp_region_gen2 (S := fun W => Blk W w.heap.size 25 #[.int .i64 a.lv, .int .u64 (u a.c), .int .i64 a.ig] ∧ Blk W (w.heap.size + 1) 25 #[.int .i64 b.lv, .int .u64 (u b.c), .int .i64 b.ig]) (N := fun W => Below w4.heap.size w4 W) (by kernel_rfl) ⟨LA.out.drew, LB.out.drew⟩ (Below.refl _ _).drew (fun w5 hS hN => ?_)
          have B5 := Lib.hid (below_call (w := w) B4.out hN)
          replace LA := Lib.hid (LA.out.after hN)
          replace LB := Lib.hid (LB.out.after hN)
          replace HT := Lib.hid (HT.out.after hN)
          replace O2 := Lib.hid (O2.out.after hN)
          clear hN
          refine wpAnyH_take (i := 0) (v := ?_) (op_at rfl) (by kernel_rfl) (by kernel_rfl) (by kernel_rfl) (fun _ _ _ h => h) (Or.inl ⟨by rfl, ?_⟩) hS ?_; rotate_left; focus ((intro w' hSw; clear hSw; go_simp) <;> with_reducible rfl)
          try simp only [Act.put, List.setIfInBounds_toArray, List.set_cons_zero, List.set_cons_succ]
          refine wpAnyH_take (i := 1) (v := ?_) (op_at rfl) (by kernel_rfl) (by kernel_rfl) (by kernel_rfl) (fun _ _ _ h => h) (Or.inl ⟨by rfl, ?_⟩) hS ?_; rotate_left; focus ((intro w' hSw; clear hSw; go_simp) <;> with_reducible rfl)
          try simp only [Act.put, List.setIfInBounds_toArray, List.set_cons_zero, List.set_cons_succ]
          refine wpAnyH_take (i := 2) (v := ?_) (op_at rfl) (by kernel_rfl) (by kernel_rfl) (by kernel_rfl) (fun _ _ _ h => h) (Or.inl ⟨by rfl, ?_⟩) hS ?_; rotate_left; focus ((intro w' hSw; clear hSw; go_simp) <;> with_reducible rfl)
          try simp only [Act.put, List.setIfInBounds_toArray, List.set_cons_zero, List.set_cons_succ]
          refine wpAnyH_take (i := 3) (v := ?_) (op_at rfl) (by kernel_rfl) (by kernel_rfl) (by kernel_rfl) (fun _ _ _ h => h) (Or.inl ⟨by rfl, ?_⟩) hS ?_; rotate_left; focus ((intro w' hSw; clear hSw; go_simp) <;> with_reducible rfl)
          try simp only [Act.put, List.setIfInBounds_toArray, List.set_cons_zero, List.set_cons_succ]
          refine wpAnyH_take (i := 4) (v := ?_) (op_at rfl) (by kernel_rfl) (by kernel_rfl) (by kernel_rfl) (fun _ _ _ h => h) (Or.inl ⟨by rfl, ?_⟩) hS ?_; rotate_left; focus ((intro w' hSw; clear hSw; go_simp) <;> with_reducible rfl)
          try simp only [Act.put, List.setIfInBounds_toArray, List.set_cons_zero, List.set_cons_succ]
          refine wpAnyH_take (i := 5) (v := ?_) (op_at rfl) (by kernel_rfl) (by kernel_rfl) (by kernel_rfl) (fun _ _ _ h => h) (Or.inl ⟨by rfl, ?_⟩) hS ?_; rotate_left; focus ((intro w' hSw; clear hSw; go_simp) <;> with_reducible rfl)
          try simp only [Act.put, List.setIfInBounds_toArray, List.set_cons_zero, List.set_cons_succ]
          refine wpAnyH_take (i := 6) (v := ?_) (op_at rfl) (by kernel_rfl) (by kernel_rfl) (by kernel_rfl) (fun _ _ _ h => h) (Or.inl ⟨by rfl, ?_⟩) hS ?_; rotate_left; focus ((intro w' hSw; clear hSw; go_simp) <;> with_reducible rfl)
          try simp only [Act.put, List.setIfInBounds_toArray, List.set_cons_zero, List.set_cons_succ]
          refine wpAnyH_take (i := 7) (v := ?_) (op_at rfl) (by kernel_rfl) (by kernel_rfl) (by kernel_rfl) (fun _ _ _ h => h) (Or.inl ⟨by rfl, ?_⟩) hS ?_; rotate_left; focus ((intro w' hSw; clear hSw; go_simp) <;> with_reducible rfl)
          try simp only [Act.put, List.setIfInBounds_toArray, List.set_cons_zero, List.set_cons_succ]
          refine wpAnyH_take (i := 8) (v := ?_) (op_at rfl) (by kernel_rfl) (by kernel_rfl) (by kernel_rfl) (fun _ _ _ h => h) (Or.inl ⟨by rfl, ?_⟩) hS ?_; rotate_left; focus ((intro w' hSw; have hA := hSw.2; have c0 := hA.at_ (i := 0) (v := .int .i64 b.lv) rfl; have c1 := hA.at_ (i := 1) (v := .int .u64 (u b.c)) rfl; have c2 := hA.at_ (i := 2) (v := .int .i64 b.ig) rfl; clear hA; clear hSw; go_simp) <;> with_reducible rfl)
          try simp only [Act.put, List.setIfInBounds_toArray, List.set_cons_zero, List.set_cons_succ]
          refine wpAnyH_take (i := 10) (v := ?_) (op_at rfl) (by kernel_rfl) (by kernel_rfl) (by kernel_rfl) (fun _ _ _ h => h) (Or.inl ⟨by rfl, ?_⟩) hS ?_; rotate_left; focus ((intro w' hSw; clear hSw; go_simp) <;> with_reducible rfl)
          try simp only [Act.put, List.setIfInBounds_toArray, List.set_cons_zero, List.set_cons_succ]
          refine wpAnyH_take (i := 11) (v := ?_) (op_at rfl) (by kernel_rfl) (by kernel_rfl) (by kernel_rfl) (fun _ _ _ h => h) (Or.inl ⟨by rfl, ?_⟩) hS ?_; rotate_left; focus ((intro w' hSw; have hA := hSw.2; have c0 := hA.at_ (i := 0) (v := .int .i64 b.lv) rfl; have c1 := hA.at_ (i := 1) (v := .int .u64 (u b.c)) rfl; have c2 := hA.at_ (i := 2) (v := .int .i64 b.ig) rfl; clear hA; clear hSw; go_simp) <;> with_reducible rfl)
          try simp only [Act.put, List.setIfInBounds_toArray, List.set_cons_zero, List.set_cons_succ]
          refine wpAnyH_ready (rs := [9]) (by kernel_rfl) (by simp) ?_
          refine (AllReadyH.cons (op_at rfl) (fun K hK => ?_) AllReadyH.nil)
          go_simp
          refine (used_at L2 _ b _ O2.out.lns).mono ?_
          rintro e w6 ⟨r1, rfl, hr1, hB⟩
          have R1 := hr1
          clear hr1
          have B6 := Lib.hid (below_call (w := w) B5.out hB)
          replace LA := Lib.hid (LA.out.after hB)
          replace LB := Lib.hid (LB.out.after hB)
          replace HT := Lib.hid (HT.out.after hB)
          replace O2 := Lib.hid (O2.out.after hB)
          refine hK.out _ _ ⟨LA.out, LB.out⟩ (fun hS => ?_)
          clear hK K hB
          try simp only [Act.put, List.setIfInBounds_toArray, List.set_cons_zero, List.set_cons_succ]
          refine wpAnyH_ready (rs := [12]) (by kernel_rfl) (by simp) ?_
          refine (AllReadyH.cons (op_at rfl) (fun K hK => ?_) AllReadyH.nil)
          go_simp
          refine (used_at (l.take 30) _ b _ HT.out).mono ?_
          rintro e w7 ⟨r2, rfl, hr2, hB⟩
          obtain rfl : r1 = r2 := by rw [R1.out, hr2.out, G2.out]
          clear R1 hr2
          have B7 := Lib.hid (below_call (w := w) B6.out hB)
          replace LA := Lib.hid (LA.out.after hB)
          replace LB := Lib.hid (LB.out.after hB)
          replace HT := Lib.hid (HT.out.after hB)
          replace O2 := Lib.hid (O2.out.after hB)
          refine hK.out _ _ ⟨LA.out, LB.out⟩ (fun hS => ?_)
          clear hK K hB
          try simp only [Act.put, List.setIfInBounds_toArray, List.set_cons_zero, List.set_cons_succ]
          refine wpAnyH_take (i := 13) (v := ?_) (op_at rfl) (by kernel_rfl) (by kernel_rfl) (by kernel_rfl) (fun _ _ _ h => h) (Or.inl ⟨by rfl, ?_⟩) hS ?_; rotate_left; focus ((intro w' hSw; clear hSw; go_simp) <;> with_reducible rfl)
          try simp only [Act.put, List.setIfInBounds_toArray, List.set_cons_zero, List.set_cons_succ]
          refine wpAnyH_take (i := 14) (v := ?_) (op_at rfl) (by kernel_rfl) (by kernel_rfl) (by kernel_rfl) (fun _ _ _ h => h) (Or.inl ⟨by rfl, ?_⟩) hS ?_; rotate_left; focus ((intro w' hSw; clear hSw; go_simp) <;> with_reducible rfl)
          try simp only [Act.put, List.setIfInBounds_toArray, List.set_cons_zero, List.set_cons_succ]
          refine wpAnyH_take (i := 15) (v := ?_) (op_at rfl) (by kernel_rfl) (by kernel_rfl) (by kernel_rfl) (fun _ _ _ h => h) (Or.inl ⟨by rfl, ?_⟩) hS ?_; rotate_left; focus ((intro w' hSw; clear hSw; go_simp) <;> with_reducible rfl)
          try simp only [Act.put, List.setIfInBounds_toArray, List.set_cons_zero, List.set_cons_succ]
          refine wpAnyH_take (i := 16) (v := ?_) (op_at rfl) (by kernel_rfl) (by kernel_rfl) (by kernel_rfl) (fun _ _ _ h => h) (Or.inl ⟨by rfl, ?_⟩) hS ?_; rotate_left; focus ((intro w' hSw; have hA := hSw.1; have c0 := hA.at_ (i := 0) (v := .int .i64 a.lv) rfl; have c1 := hA.at_ (i := 1) (v := .int .u64 (u a.c)) rfl; have c2 := hA.at_ (i := 2) (v := .int .i64 a.ig) rfl; clear hA; clear hSw; go_simp) <;> with_reducible rfl)
          try simp only [Act.put, List.setIfInBounds_toArray, List.set_cons_zero, List.set_cons_succ]
          refine wpAnyH_take (i := 17) (v := ?_) (op_at rfl) (by kernel_rfl) (by kernel_rfl) (by kernel_rfl) (fun _ _ _ h => h) (Or.inl ⟨by rfl, ?_⟩) hS ?_; rotate_left; focus ((intro w' hSw; have hA := hSw.2; have c0 := hA.at_ (i := 0) (v := .int .i64 b.lv) rfl; have c1 := hA.at_ (i := 1) (v := .int .u64 (u b.c)) rfl; have c2 := hA.at_ (i := 2) (v := .int .i64 b.ig) rfl; clear hA; clear hSw; go_simp) <;> with_reducible rfl)
          try simp only [Act.put, List.setIfInBounds_toArray, List.set_cons_zero, List.set_cons_succ]
          refine wpAnyH_ready (rs := [18]) (by kernel_rfl) (by simp) ?_
          refine (AllReadyH.cons (op_at rfl) (fun K hK => ?_) AllReadyH.nil)
          go_simp
          refine (Under_any a b _).mono ?_
          rintro e w8 ⟨rfl, hB⟩
          rw [HU.out]
          have B8 := Lib.hid (below_call (w := w) B7.out hB)
          replace LA := Lib.hid (LA.out.after hB)
          replace LB := Lib.hid (LB.out.after hB)
          replace HT := Lib.hid (HT.out.after hB)
          replace O2 := Lib.hid (O2.out.after hB)
          refine hK.out _ _ ⟨LA.out, LB.out⟩ (fun hS => ?_)
          clear hK K hB
          try simp only [Act.put, List.setIfInBounds_toArray, List.set_cons_zero, List.set_cons_succ]
          refine wpAnyH_take (i := 19) (v := ?_) (op_at rfl) (by kernel_rfl) (by kernel_rfl) (by kernel_rfl) (fun _ _ _ h => h) (Or.inl ⟨by rfl, ?_⟩) hS ?_; rotate_left; focus ((intro w' hSw; clear hSw; go_simp) <;> with_reducible rfl)
          try simp only [Act.put, List.setIfInBounds_toArray, List.set_cons_zero, List.set_cons_succ]
          refine wpAnyH_take (i := 20) (v := undef) (op_at rfl) (by kernel_rfl) (by kernel_rfl) (by kernel_rfl) (fun _ _ _ h => h) (Or.inr ⟨by rfl, rfl⟩) hS ?_
          try simp only [Act.put, List.setIfInBounds_toArray, List.set_cons_zero, List.set_cons_succ]
          refine wpAnyH_take (i := 21) (v := undef) (op_at rfl) (by kernel_rfl) (by kernel_rfl) (by kernel_rfl) (fun _ _ _ h => h) (Or.inr ⟨by rfl, rfl⟩) hS ?_
          try simp only [Act.put, List.setIfInBounds_toArray, List.set_cons_zero, List.set_cons_succ]
          refine wpAnyH_take (i := 22) (v := undef) (op_at rfl) (by kernel_rfl) (by kernel_rfl) (by kernel_rfl) (fun _ _ _ h => h) (Or.inr ⟨by rfl, rfl⟩) hS ?_
          try simp only [Act.put, List.setIfInBounds_toArray, List.set_cons_zero, List.set_cons_succ]
          refine wpAnyH_take (i := 23) (v := undef) (op_at rfl) (by kernel_rfl) (by kernel_rfl) (by kernel_rfl) (fun _ _ _ h => h) (Or.inr ⟨by rfl, rfl⟩) hS ?_
          try simp only [Act.put, List.setIfInBounds_toArray, List.set_cons_zero, List.set_cons_succ]
          refine wpAnyH_take (i := 24) (v := undef) (op_at rfl) (by kernel_rfl) (by kernel_rfl) (by kernel_rfl) (fun _ _ _ h => h) (Or.inr ⟨by rfl, rfl⟩) hS ?_
          try simp only [Act.put, List.setIfInBounds_toArray, List.set_cons_zero, List.set_cons_succ]
          refine wpAnyH_take (i := 25) (v := undef) (op_at rfl) (by kernel_rfl) (by kernel_rfl) (by kernel_rfl) (fun _ _ _ h => h) (Or.inr ⟨by rfl, rfl⟩) hS ?_
          try simp only [Act.put, List.setIfInBounds_toArray, List.set_cons_zero, List.set_cons_succ]
          refine wpAnyH_take (i := 26) (v := undef) (op_at rfl) (by kernel_rfl) (by kernel_rfl) (by kernel_rfl) (fun _ _ _ h => h) (Or.inr ⟨by rfl, rfl⟩) hS ?_
          try simp only [Act.put, List.setIfInBounds_toArray, List.set_cons_zero, List.set_cons_succ]
          refine wpAnyH_take (i := 27) (v := ?_) (op_at rfl) (by kernel_rfl) (by kernel_rfl) (by kernel_rfl) (fun _ _ _ h => h) (Or.inl ⟨by rfl, ?_⟩) hS ?_; rotate_left; focus ((intro w' hSw; clear hSw; go_simp) <;> with_reducible rfl)
          try simp only [Act.put, List.setIfInBounds_toArray, List.set_cons_zero, List.set_cons_succ]
          refine wpAnyH_take (i := 28) (v := ?_) (op_at rfl) (by kernel_rfl) (by kernel_rfl) (by kernel_rfl) (fun _ _ _ h => h) (Or.inl ⟨by rfl, ?_⟩) hS ?_; rotate_left; focus ((intro w' hSw; clear hSw; go_simp) <;> with_reducible rfl)
          try simp only [Act.put, List.setIfInBounds_toArray, List.set_cons_zero, List.set_cons_succ]
          refine wpAnyH_take (i := 29) (v := ?_) (op_at rfl) (by kernel_rfl) (by kernel_rfl) (by kernel_rfl) (fun _ _ _ h => h) (Or.inl ⟨by rfl, ?_⟩) hS ?_; rotate_left; focus ((intro w' hSw; clear hSw; go_simp) <;> with_reducible rfl)
          try simp only [Act.put, List.setIfInBounds_toArray, List.set_cons_zero, List.set_cons_succ]
          refine wpAnyH_done (by kernel_rfl) ?_ _
          go_wp2_with fail
          go_ret
          exact ⟨rfl, B8.out⟩
    · have d2 : (e2 == 0) = false := beq_eq_false_iff_ne.2 z
      have d2' : (e2 != 0) = true := bne_iff_ne.2 z
      clear z E2 F2 E3 F3 HL
      go_wp2_with fail
      go_ret
      exact ⟨rfl, B3.out⟩
end Go.Proofs.YtbggaijjgnjknaaDoor
