/-
  THE REFERENCE OF ledger: Charge, Refund.
-/
import Derived.Test.YtbggaijjgnjknaaDoorLgRB
namespace Go.Proofs.YtbggaijjgnjknaaDoor
open Go.RowKit

attribute [local go_sem] u_and u_or u_andNot u_add u_sub u_bit u_eq_zero u_beq

set_option maxRecDepth 100000 in
set_option maxHeartbeats 16000000 in
theorem rCharge_w (v : Value) (l : List Ln) (q : Int) (a : Lab) (n : Int) (w : World) (hl : LnsAt w v l) (hle : l.length ≤ 900) :
    Calls Tryd.prog 14 #[v, .int .i64 q, .agg #[.int .i64 a.lv, .int .u64 (u a.c), .int .i64 a.ig], .int .i64 n] w fun e w' => ∃ v', e = .returned (.tuple #[v', .int .i64 (chargeE l q a n)]) ∧ OwnL w.heap.size w' v' (chargeL l q a n) ∧ Below w.heap.size w w' := by
  obtain ⟨A, cA, rfl, hcA, hsc, _⟩ := hl.slice
  have HL := Lib.hid hl
  have HLE := Lib.hid hle
  clear hl hle
  cases hr : rightLn l
  · have HR := Lib.hid hr
    have HE : Hid (chargeE l q a n = 20) := Lib.hid (by unfold chargeE; rw [if_neg (by rw [hr]; simp)])
    have HL0 : Hid (chargeL l q a n = []) := Lib.hid (by unfold chargeL; rw [HE.out]; rfl)
    clear hr
    go_enter Tryd.func14, Tryd.ntmps14
    have LA : Hid (Blk (w.alloc (.cells #[.int .i64 a.lv, .int .u64 (u a.c), .int .i64 a.ig] 25)) w.heap.size 25 #[.int .i64 a.lv, .int .u64 (u a.c), .int .i64 a.ig]) := Lib.hid (Blk.new' rfl)
    have B0 : Hid (Below w.heap.size w (w.alloc (.cells #[.int .i64 a.lv, .int .u64 (u a.c), .int .i64 a.ig] 25))) := Lib.hid (below_alloc (Below.refl _ _) _)
    have HT : Hid (LnsAt (w.alloc (.cells #[.int .i64 a.lv, .int .u64 (u a.c), .int .i64 a.ig] 25)) _ l) := Lib.hid (HL.out.later B0.out B0.out.size)
    go_wp2_with fail
    refine (rRight_w _ l _ HT.out).mono ?_
    rintro e w1 ⟨rfl, hB⟩
    rw [HR.out]
    have B1 := Lib.hid (below_call (w := w) B0.out hB)
    replace LA := Lib.hid (LA.out.after hB)
    replace HT := Lib.hid (HT.out.after hB)
    clear hB
    go_wp2_with fail
    go_ret2
    exact ⟨_, by rw [HE.out]; rfl, by rw [HL0.out]; exact World.ownsRow_nil _ _ _ _, B1.out⟩
  · have HR := Lib.hid hr
    cases ho : okL a
    · have HO := Lib.hid ho
      have HE : Hid (chargeE l q a n = 20) := Lib.hid (by unfold chargeE; rw [if_neg (by rw [ho]; simp)])
      have HL0 : Hid (chargeL l q a n = []) := Lib.hid (by unfold chargeL; rw [HE.out]; rfl)
      clear hr ho
      go_enter Tryd.func14, Tryd.ntmps14
      have LA : Hid (Blk (w.alloc (.cells #[.int .i64 a.lv, .int .u64 (u a.c), .int .i64 a.ig] 25)) w.heap.size 25 #[.int .i64 a.lv, .int .u64 (u a.c), .int .i64 a.ig]) := Lib.hid (Blk.new' rfl)
      have B0 : Hid (Below w.heap.size w (w.alloc (.cells #[.int .i64 a.lv, .int .u64 (u a.c), .int .i64 a.ig] 25))) := Lib.hid (below_alloc (Below.refl _ _) _)
      have HT : Hid (LnsAt (w.alloc (.cells #[.int .i64 a.lv, .int .u64 (u a.c), .int .i64 a.ig] 25)) _ l) := Lib.hid (HL.out.later B0.out B0.out.size)
      go_wp2_with fail
      refine (rRight_w _ l _ HT.out).mono ?_
      rintro e w1 ⟨rfl, hB⟩
      rw [HR.out]
      have B1 := Lib.hid (below_call (w := w) B0.out hB)
      replace LA := Lib.hid (LA.out.after hB)
      replace HT := Lib.hid (HT.out.after hB)
      clear hB
      have x0 := LA.out.at_ (i := 0) (v := .int .i64 a.lv) rfl
      have x1 := LA.out.at_ (i := 1) (v := .int .u64 (u a.c)) rfl
      have x2 := LA.out.at_ (i := 2) (v := .int .i64 a.ig) rfl
      go_wp2_with fail
      refine (rRight_any a _).mono ?_
      rintro e w2 ⟨rfl, hB⟩
      rw [HO.out]
      have B2 := Lib.hid (below_call (w := w) B1.out hB)
      replace LA := Lib.hid (LA.out.after hB)
      replace HT := Lib.hid (HT.out.after hB)
      clear x0 x1 x2
      clear hB
      go_wp2_with fail
      go_ret2
      exact ⟨_, by rw [HE.out]; rfl, by rw [HL0.out]; exact World.ownsRow_nil _ _ _ _, B2.out⟩
    · have HO := Lib.hid ho
      have HRI := Lib.hid (right_iff.1 hr).1
      have hu0 := used_le hr a
      obtain ⟨us, hus⟩ : ∃ us, usedLn l a = us := ⟨_, rfl⟩
      have HU := Lib.hid hus
      rw [hus] at hu0
      by_cases hbad : q < 0 ∨ 100000 < q ∨ n < 0 ∨ q - us < n
      · have HE : Hid (chargeE l q a n = 70) := Lib.hid (by unfold chargeE; rw [if_pos ⟨hr, ho⟩, hus, if_pos hbad])
        have HL0 : Hid (chargeL l q a n = []) := Lib.hid (by unfold chargeL; rw [HE.out]; rfl)
        clear hr ho hus
        by_cases h0 : q < 0
        · have d0 : decide (q < 0) = true := decide_eq_true h0
          clear hbad h0 hu0
          go_enter Tryd.func14, Tryd.ntmps14
          have LA : Hid (Blk (w.alloc (.cells #[.int .i64 a.lv, .int .u64 (u a.c), .int .i64 a.ig] 25)) w.heap.size 25 #[.int .i64 a.lv, .int .u64 (u a.c), .int .i64 a.ig]) := Lib.hid (Blk.new' rfl)
          have B0 : Hid (Below w.heap.size w (w.alloc (.cells #[.int .i64 a.lv, .int .u64 (u a.c), .int .i64 a.ig] 25))) := Lib.hid (below_alloc (Below.refl _ _) _)
          have HT : Hid (LnsAt (w.alloc (.cells #[.int .i64 a.lv, .int .u64 (u a.c), .int .i64 a.ig] 25)) _ l) := Lib.hid (HL.out.later B0.out B0.out.size)
          go_wp2_with fail
          refine (rRight_w _ l _ HT.out).mono ?_
          rintro e w1 ⟨rfl, hB⟩
          rw [HR.out]
          have B1 := Lib.hid (below_call (w := w) B0.out hB)
          replace LA := Lib.hid (LA.out.after hB)
          replace HT := Lib.hid (HT.out.after hB)
          clear hB
          have x0 := LA.out.at_ (i := 0) (v := .int .i64 a.lv) rfl
          have x1 := LA.out.at_ (i := 1) (v := .int .u64 (u a.c)) rfl
          have x2 := LA.out.at_ (i := 2) (v := .int .i64 a.ig) rfl
          go_wp2_with fail
          refine (rRight_any a _).mono ?_
          rintro e w2 ⟨rfl, hB⟩
          rw [HO.out]
          have B2 := Lib.hid (below_call (w := w) B1.out hB)
          replace LA := Lib.hid (LA.out.after hB)
          replace HT := Lib.hid (HT.out.after hB)
          clear x0 x1 x2
          clear hB
          go_wp2_with fail
          go_ret2
          exact ⟨_, by rw [HE.out]; rfl, by rw [HL0.out]; exact World.ownsRow_nil _ _ _ _, B2.out⟩
        · have d0 : decide (q < 0) = false := decide_eq_false h0
          by_cases h1 : 100000 < q
          · have d1 : decide (100000 < q) = true := decide_eq_true h1
            clear hbad h0 h1 hu0
            go_enter Tryd.func14, Tryd.ntmps14
            have LA : Hid (Blk (w.alloc (.cells #[.int .i64 a.lv, .int .u64 (u a.c), .int .i64 a.ig] 25)) w.heap.size 25 #[.int .i64 a.lv, .int .u64 (u a.c), .int .i64 a.ig]) := Lib.hid (Blk.new' rfl)
            have B0 : Hid (Below w.heap.size w (w.alloc (.cells #[.int .i64 a.lv, .int .u64 (u a.c), .int .i64 a.ig] 25))) := Lib.hid (below_alloc (Below.refl _ _) _)
            have HT : Hid (LnsAt (w.alloc (.cells #[.int .i64 a.lv, .int .u64 (u a.c), .int .i64 a.ig] 25)) _ l) := Lib.hid (HL.out.later B0.out B0.out.size)
            go_wp2_with fail
            refine (rRight_w _ l _ HT.out).mono ?_
            rintro e w1 ⟨rfl, hB⟩
            rw [HR.out]
            have B1 := Lib.hid (below_call (w := w) B0.out hB)
            replace LA := Lib.hid (LA.out.after hB)
            replace HT := Lib.hid (HT.out.after hB)
            clear hB
            have x0 := LA.out.at_ (i := 0) (v := .int .i64 a.lv) rfl
            have x1 := LA.out.at_ (i := 1) (v := .int .u64 (u a.c)) rfl
            have x2 := LA.out.at_ (i := 2) (v := .int .i64 a.ig) rfl
            go_wp2_with fail
            refine (rRight_any a _).mono ?_
            rintro e w2 ⟨rfl, hB⟩
            rw [HO.out]
            have B2 := Lib.hid (below_call (w := w) B1.out hB)
            replace LA := Lib.hid (LA.out.after hB)
            replace HT := Lib.hid (HT.out.after hB)
            clear x0 x1 x2
            clear hB
            go_wp2_with fail
            go_ret2
            exact ⟨_, by rw [HE.out]; rfl, by rw [HL0.out]; exact World.ownsRow_nil _ _ _ _, B2.out⟩
          · have d1 : decide (100000 < q) = false := decide_eq_false h1
            by_cases h2 : n < 0
            · have d2 : decide (n < 0) = true := decide_eq_true h2
              clear hbad h0 h1 h2 hu0
              go_enter Tryd.func14, Tryd.ntmps14
              have LA : Hid (Blk (w.alloc (.cells #[.int .i64 a.lv, .int .u64 (u a.c), .int .i64 a.ig] 25)) w.heap.size 25 #[.int .i64 a.lv, .int .u64 (u a.c), .int .i64 a.ig]) := Lib.hid (Blk.new' rfl)
              have B0 : Hid (Below w.heap.size w (w.alloc (.cells #[.int .i64 a.lv, .int .u64 (u a.c), .int .i64 a.ig] 25))) := Lib.hid (below_alloc (Below.refl _ _) _)
              have HT : Hid (LnsAt (w.alloc (.cells #[.int .i64 a.lv, .int .u64 (u a.c), .int .i64 a.ig] 25)) _ l) := Lib.hid (HL.out.later B0.out B0.out.size)
              go_wp2_with fail
              refine (rRight_w _ l _ HT.out).mono ?_
              rintro e w1 ⟨rfl, hB⟩
              rw [HR.out]
              have B1 := Lib.hid (below_call (w := w) B0.out hB)
              replace LA := Lib.hid (LA.out.after hB)
              replace HT := Lib.hid (HT.out.after hB)
              clear hB
              have x0 := LA.out.at_ (i := 0) (v := .int .i64 a.lv) rfl
              have x1 := LA.out.at_ (i := 1) (v := .int .u64 (u a.c)) rfl
              have x2 := LA.out.at_ (i := 2) (v := .int .i64 a.ig) rfl
              go_wp2_with fail
              refine (rRight_any a _).mono ?_
              rintro e w2 ⟨rfl, hB⟩
              rw [HO.out]
              have B2 := Lib.hid (below_call (w := w) B1.out hB)
              replace LA := Lib.hid (LA.out.after hB)
              replace HT := Lib.hid (HT.out.after hB)
              clear x0 x1 x2
              clear hB
              go_wp2_with fail
              go_ret2
              exact ⟨_, by rw [HE.out]; rfl, by rw [HL0.out]; exact World.ownsRow_nil _ _ _ _, B2.out⟩
            · have d2 : decide (n < 0) = false := decide_eq_false h2
              have d3 : decide (q - us < n) = true := decide_eq_true (by omega)
              have kw : IntKind.i64.wrap (q - us) = q - us := wrapI _ (by omega)
              clear hbad h0 h1 h2 hu0
              go_enter Tryd.func14, Tryd.ntmps14
              have LA : Hid (Blk (w.alloc (.cells #[.int .i64 a.lv, .int .u64 (u a.c), .int .i64 a.ig] 25)) w.heap.size 25 #[.int .i64 a.lv, .int .u64 (u a.c), .int .i64 a.ig]) := Lib.hid (Blk.new' rfl)
              have B0 : Hid (Below w.heap.size w (w.alloc (.cells #[.int .i64 a.lv, .int .u64 (u a.c), .int .i64 a.ig] 25))) := Lib.hid (below_alloc (Below.refl _ _) _)
              have HT : Hid (LnsAt (w.alloc (.cells #[.int .i64 a.lv, .int .u64 (u a.c), .int .i64 a.ig] 25)) _ l) := Lib.hid (HL.out.later B0.out B0.out.size)
              go_wp2_with fail
              refine (rRight_w _ l _ HT.out).mono ?_
              rintro e w1 ⟨rfl, hB⟩
              rw [HR.out]
              have B1 := Lib.hid (below_call (w := w) B0.out hB)
              replace LA := Lib.hid (LA.out.after hB)
              replace HT := Lib.hid (HT.out.after hB)
              clear hB
              have x0 := LA.out.at_ (i := 0) (v := .int .i64 a.lv) rfl
              have x1 := LA.out.at_ (i := 1) (v := .int .u64 (u a.c)) rfl
              have x2 := LA.out.at_ (i := 2) (v := .int .i64 a.ig) rfl
              go_wp2_with fail
              refine (rRight_any a _).mono ?_
              rintro e w2 ⟨rfl, hB⟩
              rw [HO.out]
              have B2 := Lib.hid (below_call (w := w) B1.out hB)
              replace LA := Lib.hid (LA.out.after hB)
              replace HT := Lib.hid (HT.out.after hB)
              clear x0 x1 x2
              clear hB
              have x0 := LA.out.at_ (i := 0) (v := .int .i64 a.lv) rfl
              have x1 := LA.out.at_ (i := 1) (v := .int .u64 (u a.c)) rfl
              have x2 := LA.out.at_ (i := 2) (v := .int .i64 a.ig) rfl
              go_wp2_with fail
              refine (rUsed_w _ l a _ HT.out).mono ?_
              rintro e w3 ⟨rfl, hB⟩
              rw [HU.out]
              have B3 := Lib.hid (below_call (w := w) B2.out hB)
              replace LA := Lib.hid (LA.out.after hB)
              replace HT := Lib.hid (HT.out.after hB)
              clear x0 x1 x2
              clear hB
              go_wp2_with fail
              go_ret2
              exact ⟨_, by rw [HE.out]; rfl, by rw [HL0.out]; exact World.ownsRow_nil _ _ _ _, B3.out⟩
      · have HE : Hid (chargeE l q a n = 0) := Lib.hid (by unfold chargeE; rw [if_pos ⟨hr, ho⟩, hus, if_neg hbad])
        have HL0 : Hid (chargeL l q a n = setLn l a (us + n)) := Lib.hid (by unfold chargeL; rw [HE.out, hus]; rfl)
        have d0 : decide (q < 0) = false := decide_eq_false (by omega)
        have d1 : decide (100000 < q) = false := decide_eq_false (by omega)
        have d2 : decide (n < 0) = false := decide_eq_false (by omega)
        have d3 : decide (q - us < n) = false := decide_eq_false (by omega)
        have kw : IntKind.i64.wrap (q - us) = q - us := wrapI _ (by omega)
        have kp : IntKind.i64.wrap (us + n) = us + n := wrapI _ (by omega)
        clear hr ho hus hbad hu0
        go_enter Tryd.func14, Tryd.ntmps14
        have LA : Hid (Blk (w.alloc (.cells #[.int .i64 a.lv, .int .u64 (u a.c), .int .i64 a.ig] 25)) w.heap.size 25 #[.int .i64 a.lv, .int .u64 (u a.c), .int .i64 a.ig]) := Lib.hid (Blk.new' rfl)
        have B0 : Hid (Below w.heap.size w (w.alloc (.cells #[.int .i64 a.lv, .int .u64 (u a.c), .int .i64 a.ig] 25))) := Lib.hid (below_alloc (Below.refl _ _) _)
        have HT : Hid (LnsAt (w.alloc (.cells #[.int .i64 a.lv, .int .u64 (u a.c), .int .i64 a.ig] 25)) _ l) := Lib.hid (HL.out.later B0.out B0.out.size)
        go_wp2_with fail
        refine (rRight_w _ l _ HT.out).mono ?_
        rintro e w1 ⟨rfl, hB⟩
        rw [HR.out]
        have B1 := Lib.hid (below_call (w := w) B0.out hB)
        replace LA := Lib.hid (LA.out.after hB)
        replace HT := Lib.hid (HT.out.after hB)
        clear hB
        have x0 := LA.out.at_ (i := 0) (v := .int .i64 a.lv) rfl
        have x1 := LA.out.at_ (i := 1) (v := .int .u64 (u a.c)) rfl
        have x2 := LA.out.at_ (i := 2) (v := .int .i64 a.ig) rfl
        go_wp2_with fail
        refine (rRight_any a _).mono ?_
        rintro e w2 ⟨rfl, hB⟩
        rw [HO.out]
        have B2 := Lib.hid (below_call (w := w) B1.out hB)
        replace LA := Lib.hid (LA.out.after hB)
        replace HT := Lib.hid (HT.out.after hB)
        clear x0 x1 x2
        clear hB
        have x0 := LA.out.at_ (i := 0) (v := .int .i64 a.lv) rfl
        have x1 := LA.out.at_ (i := 1) (v := .int .u64 (u a.c)) rfl
        have x2 := LA.out.at_ (i := 2) (v := .int .i64 a.ig) rfl
        go_wp2_with fail
        refine (rUsed_w _ l a _ HT.out).mono ?_
        rintro e w3 ⟨rfl, hB⟩
        rw [HU.out]
        have B3 := Lib.hid (below_call (w := w) B2.out hB)
        replace LA := Lib.hid (LA.out.after hB)
        replace HT := Lib.hid (HT.out.after hB)
        clear x0 x1 x2
        clear hB
        go_wp2_with fail
        refine wp_region_gen2 (S := fun W => Blk W w.heap.size 25 #[.int .i64 a.lv, .int .u64 (u a.c), .int .i64 a.ig]) (N := fun W => Below w3.heap.size w3 W) (by kernel_rfl) LA.out.drew (Below.refl _ _).drew (fun w4 hS hN => ?_)
        have B4 := Lib.hid (below_call (w := w) B3.out hN)
        replace LA := Lib.hid (LA.out.after hN)
        replace HT := Lib.hid (HT.out.after hN)
        clear hN
        refine wpAnyH_take (i := 0) (v := ?_) (op_at rfl) (by kernel_rfl) (by kernel_rfl) (by kernel_rfl) (fun _ _ _ h => h) (Or.inl ⟨by rfl, ?_⟩) hS ?_; rotate_left; focus ((intro w' hSw; clear hSw; go_simp) <;> with_reducible rfl)
        try simp only [Act.put, List.setIfInBounds_toArray, List.set_cons_zero, List.set_cons_succ]
        refine wpAnyH_take (i := 1) (v := ?_) (op_at rfl) (by kernel_rfl) (by kernel_rfl) (by kernel_rfl) (fun _ _ _ h => h) (Or.inl ⟨by rfl, ?_⟩) hS ?_; rotate_left; focus ((intro w' hSw; have c0 := hSw.at_ (i := 0) (v := .int .i64 a.lv) rfl; have c1 := hSw.at_ (i := 1) (v := .int .u64 (u a.c)) rfl; have c2 := hSw.at_ (i := 2) (v := .int .i64 a.ig) rfl; clear hSw; go_simp) <;> with_reducible rfl)
        try simp only [Act.put, List.setIfInBounds_toArray, List.set_cons_zero, List.set_cons_succ]
        refine wpAnyH_take (i := 2) (v := ?_) (op_at rfl) (by kernel_rfl) (by kernel_rfl) (by kernel_rfl) (fun _ _ _ h => h) (Or.inl ⟨by rfl, ?_⟩) hS ?_; rotate_left; focus ((intro w' hSw; clear hSw; go_simp) <;> with_reducible rfl)
        try simp only [Act.put, List.setIfInBounds_toArray, List.set_cons_zero, List.set_cons_succ]
        refine wpAnyH_take (i := 3) (v := ?_) (op_at rfl) (by kernel_rfl) (by kernel_rfl) (by kernel_rfl) (fun _ _ _ h => h) (Or.inl ⟨by rfl, ?_⟩) hS ?_; rotate_left; focus ((intro w' hSw; have c0 := hSw.at_ (i := 0) (v := .int .i64 a.lv) rfl; have c1 := hSw.at_ (i := 1) (v := .int .u64 (u a.c)) rfl; have c2 := hSw.at_ (i := 2) (v := .int .i64 a.ig) rfl; clear hSw; go_simp) <;> with_reducible rfl)
        try simp only [Act.put, List.setIfInBounds_toArray, List.set_cons_zero, List.set_cons_succ]
        refine wpAnyH_take (i := 5) (v := ?_) (op_at rfl) (by kernel_rfl) (by kernel_rfl) (by kernel_rfl) (fun _ _ _ h => h) (Or.inl ⟨by rfl, ?_⟩) hS ?_; rotate_left; focus ((intro w' hSw; clear hSw; go_simp) <;> with_reducible rfl)
        try simp only [Act.put, List.setIfInBounds_toArray, List.set_cons_zero, List.set_cons_succ]
        refine wpAnyH_ready (rs := [4]) (by kernel_rfl) (by simp) ?_
        refine (AllReadyH.cons (op_at rfl) (fun K hK => ?_) AllReadyH.nil)
        go_simp
        refine (rUsed_w _ l a _ HT.out).mono ?_
        rintro e w5 ⟨rfl, hB⟩
        rw [HU.out]
        have B5 := Lib.hid (below_call (w := w) B4.out hB)
        replace LA := Lib.hid (LA.out.after hB)
        replace HT := Lib.hid (HT.out.after hB)
        refine hK.out _ _ LA.out (fun hS => ?_)
        clear hK K hB
        try simp only [Act.put, List.setIfInBounds_toArray, List.set_cons_zero, List.set_cons_succ]
        refine wpAnyH_take (i := 6) (v := ?_) (op_at rfl) (by kernel_rfl) (by kernel_rfl) (by kernel_rfl) (fun _ _ _ h => h) (Or.inl ⟨by rfl, ?_⟩) hS ?_; rotate_left; focus ((intro w' hSw; clear hSw; go_simp) <;> with_reducible rfl)
        try simp only [Act.put, List.setIfInBounds_toArray, List.set_cons_zero, List.set_cons_succ]
        refine wpAnyH_ready (rs := [7]) (by kernel_rfl) (by simp) ?_
        refine (AllReadyH.cons (op_at rfl) (fun K hK => ?_) AllReadyH.nil)
        go_simp
        refine (rset_w _ l a (us + n) _ HT.out HLE.out HRI.out).mono ?_
        rintro e w6 ⟨v6, rfl, hO, hB⟩
        obtain ⟨p6, c6, rfl⟩ := hO.val
        have B6 := Lib.hid (below_call (w := w) B5.out hB)
        replace LA := Lib.hid (LA.out.after hB)
        replace HT := Lib.hid (HT.out.after hB)
        have O6 := Lib.hid hO
        clear hO
        refine hK.out _ _ LA.out (fun hS => ?_)
        clear hK K hB
        try simp only [Act.put, List.setIfInBounds_toArray, List.set_cons_zero, List.set_cons_succ]
        refine wpAnyH_take (i := 8) (v := ?_) (op_at rfl) (by kernel_rfl) (by kernel_rfl) (by kernel_rfl) (fun _ _ _ h => h) (Or.inl ⟨by rfl, ?_⟩) hS ?_; rotate_left; focus ((intro w' hSw; clear hSw; go_simp) <;> with_reducible rfl)
        try simp only [Act.put, List.setIfInBounds_toArray, List.set_cons_zero, List.set_cons_succ]
        refine wpAnyH_done (by kernel_rfl) ?_ _
        have hsl := set_len l a (us + n)
        have hl9 := HLE.out
        have d5 : decide (1000 < ((setLn l a (us + n)).length : Int)) = false := decide_eq_false (by omega)
        have d6 : decide ((1000 : Nat) < (setLn l a (us + n)).length) = false := decide_eq_false (by omega)
        have d7 : ¬ (1000 < ((setLn l a (us + n)).length : Int)) := by omega
        clear hsl hl9
        go_wp2_with fail
        go_ret2
        exact ⟨_, by rw [HE.out]; rfl, by rw [HL0.out]; exact O6.out.base B5.out.size, B6.out⟩
set_option maxRecDepth 100000 in
set_option maxHeartbeats 16000000 in
theorem rRefund_w (v : Value) (l : List Ln) (a : Lab) (n : Int) (w : World) (hl : LnsAt w v l) (hle : l.length ≤ 900) :
    Calls Tryd.prog 16 #[v, .agg #[.int .i64 a.lv, .int .u64 (u a.c), .int .i64 a.ig], .int .i64 n] w fun e w' => ∃ v', e = .returned (.tuple #[v', .int .i64 (refundE l a n)]) ∧ OwnL w.heap.size w' v' (refundL l a n) ∧ Below w.heap.size w w' := by
  obtain ⟨A, cA, rfl, hcA, hsc, _⟩ := hl.slice
  have HL := Lib.hid hl
  have HLE := Lib.hid hle
  clear hl hle
  cases hr : rightLn l
  · have HR := Lib.hid hr
    have HE : Hid (refundE l a n = 20) := Lib.hid (by unfold refundE; rw [if_neg (by rw [hr]; simp)])
    have HL0 : Hid (refundL l a n = []) := Lib.hid (by unfold refundL; rw [HE.out]; rfl)
    clear hr
    go_enter Tryd.func16, Tryd.ntmps16
    have LA : Hid (Blk (w.alloc (.cells #[.int .i64 a.lv, .int .u64 (u a.c), .int .i64 a.ig] 25)) w.heap.size 25 #[.int .i64 a.lv, .int .u64 (u a.c), .int .i64 a.ig]) := Lib.hid (Blk.new' rfl)
    have B0 : Hid (Below w.heap.size w (w.alloc (.cells #[.int .i64 a.lv, .int .u64 (u a.c), .int .i64 a.ig] 25))) := Lib.hid (below_alloc (Below.refl _ _) _)
    have HT : Hid (LnsAt (w.alloc (.cells #[.int .i64 a.lv, .int .u64 (u a.c), .int .i64 a.ig] 25)) _ l) := Lib.hid (HL.out.later B0.out B0.out.size)
    go_wp2_with fail
    refine (rRight_w _ l _ HT.out).mono ?_
    rintro e w1 ⟨rfl, hB⟩
    rw [HR.out]
    have B1 := Lib.hid (below_call (w := w) B0.out hB)
    replace LA := Lib.hid (LA.out.after hB)
    replace HT := Lib.hid (HT.out.after hB)
    clear hB
    go_wp2_with fail
    go_ret2
    exact ⟨_, by rw [HE.out]; rfl, by rw [HL0.out]; exact World.ownsRow_nil _ _ _ _, B1.out⟩
  · have HR := Lib.hid hr
    cases ho : okL a
    · have HO := Lib.hid ho
      have HE : Hid (refundE l a n = 20) := Lib.hid (by unfold refundE; rw [if_neg (by rw [ho]; simp)])
      have HL0 : Hid (refundL l a n = []) := Lib.hid (by unfold refundL; rw [HE.out]; rfl)
      clear hr ho
      go_enter Tryd.func16, Tryd.ntmps16
      have LA : Hid (Blk (w.alloc (.cells #[.int .i64 a.lv, .int .u64 (u a.c), .int .i64 a.ig] 25)) w.heap.size 25 #[.int .i64 a.lv, .int .u64 (u a.c), .int .i64 a.ig]) := Lib.hid (Blk.new' rfl)
      have B0 : Hid (Below w.heap.size w (w.alloc (.cells #[.int .i64 a.lv, .int .u64 (u a.c), .int .i64 a.ig] 25))) := Lib.hid (below_alloc (Below.refl _ _) _)
      have HT : Hid (LnsAt (w.alloc (.cells #[.int .i64 a.lv, .int .u64 (u a.c), .int .i64 a.ig] 25)) _ l) := Lib.hid (HL.out.later B0.out B0.out.size)
      go_wp2_with fail
      refine (rRight_w _ l _ HT.out).mono ?_
      rintro e w1 ⟨rfl, hB⟩
      rw [HR.out]
      have B1 := Lib.hid (below_call (w := w) B0.out hB)
      replace LA := Lib.hid (LA.out.after hB)
      replace HT := Lib.hid (HT.out.after hB)
      clear hB
      have x0 := LA.out.at_ (i := 0) (v := .int .i64 a.lv) rfl
      have x1 := LA.out.at_ (i := 1) (v := .int .u64 (u a.c)) rfl
      have x2 := LA.out.at_ (i := 2) (v := .int .i64 a.ig) rfl
      go_wp2_with fail
      refine (rRight_any a _).mono ?_
      rintro e w2 ⟨rfl, hB⟩
      rw [HO.out]
      have B2 := Lib.hid (below_call (w := w) B1.out hB)
      replace LA := Lib.hid (LA.out.after hB)
      replace HT := Lib.hid (HT.out.after hB)
      clear x0 x1 x2
      clear hB
      go_wp2_with fail
      go_ret2
      exact ⟨_, by rw [HE.out]; rfl, by rw [HL0.out]; exact World.ownsRow_nil _ _ _ _, B2.out⟩
    · have HO := Lib.hid ho
      have HRI := Lib.hid (right_iff.1 hr).1
      have hu0 := used_le hr a
      obtain ⟨us, hus⟩ : ∃ us, usedLn l a = us := ⟨_, rfl⟩
      have HU := Lib.hid hus
      rw [hus] at hu0
      by_cases hbad : n < 0 ∨ us < n
      · have HE : Hid (refundE l a n = 70) := Lib.hid (by unfold refundE; rw [if_pos ⟨hr, ho⟩, hus, if_pos hbad])
        have HL0 : Hid (refundL l a n = []) := Lib.hid (by unfold refundL; rw [HE.out]; rfl)
        clear hr ho hus
        by_cases h2 : n < 0
        · have d2 : decide (n < 0) = true := decide_eq_true h2
          clear hbad h2 hu0
          go_enter Tryd.func16, Tryd.ntmps16
          have LA : Hid (Blk (w.alloc (.cells #[.int .i64 a.lv, .int .u64 (u a.c), .int .i64 a.ig] 25)) w.heap.size 25 #[.int .i64 a.lv, .int .u64 (u a.c), .int .i64 a.ig]) := Lib.hid (Blk.new' rfl)
          have B0 : Hid (Below w.heap.size w (w.alloc (.cells #[.int .i64 a.lv, .int .u64 (u a.c), .int .i64 a.ig] 25))) := Lib.hid (below_alloc (Below.refl _ _) _)
          have HT : Hid (LnsAt (w.alloc (.cells #[.int .i64 a.lv, .int .u64 (u a.c), .int .i64 a.ig] 25)) _ l) := Lib.hid (HL.out.later B0.out B0.out.size)
          go_wp2_with fail
          refine (rRight_w _ l _ HT.out).mono ?_
          rintro e w1 ⟨rfl, hB⟩
          rw [HR.out]
          have B1 := Lib.hid (below_call (w := w) B0.out hB)
          replace LA := Lib.hid (LA.out.after hB)
          replace HT := Lib.hid (HT.out.after hB)
          clear hB
          have x0 := LA.out.at_ (i := 0) (v := .int .i64 a.lv) rfl
          have x1 := LA.out.at_ (i := 1) (v := .int .u64 (u a.c)) rfl
          have x2 := LA.out.at_ (i := 2) (v := .int .i64 a.ig) rfl
          go_wp2_with fail
          refine (rRight_any a _).mono ?_
          rintro e w2 ⟨rfl, hB⟩
          rw [HO.out]
          have B2 := Lib.hid (below_call (w := w) B1.out hB)
          replace LA := Lib.hid (LA.out.after hB)
          replace HT := Lib.hid (HT.out.after hB)
          clear x0 x1 x2
          clear hB
          go_wp2_with fail
          go_ret2
          exact ⟨_, by rw [HE.out]; rfl, by rw [HL0.out]; exact World.ownsRow_nil _ _ _ _, B2.out⟩
        · have d2 : decide (n < 0) = false := decide_eq_false h2
          have d3 : decide (us < n) = true := decide_eq_true (by omega)
          clear hbad h2 hu0
          go_enter Tryd.func16, Tryd.ntmps16
          have LA : Hid (Blk (w.alloc (.cells #[.int .i64 a.lv, .int .u64 (u a.c), .int .i64 a.ig] 25)) w.heap.size 25 #[.int .i64 a.lv, .int .u64 (u a.c), .int .i64 a.ig]) := Lib.hid (Blk.new' rfl)
          have B0 : Hid (Below w.heap.size w (w.alloc (.cells #[.int .i64 a.lv, .int .u64 (u a.c), .int .i64 a.ig] 25))) := Lib.hid (below_alloc (Below.refl _ _) _)
          have HT : Hid (LnsAt (w.alloc (.cells #[.int .i64 a.lv, .int .u64 (u a.c), .int .i64 a.ig] 25)) _ l) := Lib.hid (HL.out.later B0.out B0.out.size)
          go_wp2_with fail
          refine (rRight_w _ l _ HT.out).mono ?_
          rintro e w1 ⟨rfl, hB⟩
          rw [HR.out]
          have B1 := Lib.hid (below_call (w := w) B0.out hB)
          replace LA := Lib.hid (LA.out.after hB)
          replace HT := Lib.hid (HT.out.after hB)
          clear hB
          have x0 := LA.out.at_ (i := 0) (v := .int .i64 a.lv) rfl
          have x1 := LA.out.at_ (i := 1) (v := .int .u64 (u a.c)) rfl
          have x2 := LA.out.at_ (i := 2) (v := .int .i64 a.ig) rfl
          go_wp2_with fail
          refine (rRight_any a _).mono ?_
          rintro e w2 ⟨rfl, hB⟩
          rw [HO.out]
          have B2 := Lib.hid (below_call (w := w) B1.out hB)
          replace LA := Lib.hid (LA.out.after hB)
          replace HT := Lib.hid (HT.out.after hB)
          clear x0 x1 x2
          clear hB
          have x0 := LA.out.at_ (i := 0) (v := .int .i64 a.lv) rfl
          have x1 := LA.out.at_ (i := 1) (v := .int .u64 (u a.c)) rfl
          have x2 := LA.out.at_ (i := 2) (v := .int .i64 a.ig) rfl
          go_wp2_with fail
          refine (rUsed_w _ l a _ HT.out).mono ?_
          rintro e w3 ⟨rfl, hB⟩
          rw [HU.out]
          have B3 := Lib.hid (below_call (w := w) B2.out hB)
          replace LA := Lib.hid (LA.out.after hB)
          replace HT := Lib.hid (HT.out.after hB)
          clear x0 x1 x2
          clear hB
          go_wp2_with fail
          go_ret2
          exact ⟨_, by rw [HE.out]; rfl, by rw [HL0.out]; exact World.ownsRow_nil _ _ _ _, B3.out⟩
      · have HE : Hid (refundE l a n = 0) := Lib.hid (by unfold refundE; rw [if_pos ⟨hr, ho⟩, hus, if_neg hbad])
        have HL0 : Hid (refundL l a n = setLn l a (us - n)) := Lib.hid (by unfold refundL; rw [HE.out, hus]; rfl)
        have d2 : decide (n < 0) = false := decide_eq_false (by omega)
        have d3 : decide (us < n) = false := decide_eq_false (by omega)
        have kp : IntKind.i64.wrap (us - n) = us - n := wrapI _ (by omega)
        clear hr ho hus hbad hu0
        go_enter Tryd.func16, Tryd.ntmps16
        have LA : Hid (Blk (w.alloc (.cells #[.int .i64 a.lv, .int .u64 (u a.c), .int .i64 a.ig] 25)) w.heap.size 25 #[.int .i64 a.lv, .int .u64 (u a.c), .int .i64 a.ig]) := Lib.hid (Blk.new' rfl)
        have B0 : Hid (Below w.heap.size w (w.alloc (.cells #[.int .i64 a.lv, .int .u64 (u a.c), .int .i64 a.ig] 25))) := Lib.hid (below_alloc (Below.refl _ _) _)
        have HT : Hid (LnsAt (w.alloc (.cells #[.int .i64 a.lv, .int .u64 (u a.c), .int .i64 a.ig] 25)) _ l) := Lib.hid (HL.out.later B0.out B0.out.size)
        go_wp2_with fail
        refine (rRight_w _ l _ HT.out).mono ?_
        rintro e w1 ⟨rfl, hB⟩
        rw [HR.out]
        have B1 := Lib.hid (below_call (w := w) B0.out hB)
        replace LA := Lib.hid (LA.out.after hB)
        replace HT := Lib.hid (HT.out.after hB)
        clear hB
        have x0 := LA.out.at_ (i := 0) (v := .int .i64 a.lv) rfl
        have x1 := LA.out.at_ (i := 1) (v := .int .u64 (u a.c)) rfl
        have x2 := LA.out.at_ (i := 2) (v := .int .i64 a.ig) rfl
        go_wp2_with fail
        refine (rRight_any a _).mono ?_
        rintro e w2 ⟨rfl, hB⟩
        rw [HO.out]
        have B2 := Lib.hid (below_call (w := w) B1.out hB)
        replace LA := Lib.hid (LA.out.after hB)
        replace HT := Lib.hid (HT.out.after hB)
        clear x0 x1 x2
        clear hB
        have x0 := LA.out.at_ (i := 0) (v := .int .i64 a.lv) rfl
        have x1 := LA.out.at_ (i := 1) (v := .int .u64 (u a.c)) rfl
        have x2 := LA.out.at_ (i := 2) (v := .int .i64 a.ig) rfl
        go_wp2_with fail
        refine (rUsed_w _ l a _ HT.out).mono ?_
        rintro e w3 ⟨rfl, hB⟩
        rw [HU.out]
        have B3 := Lib.hid (below_call (w := w) B2.out hB)
        replace LA := Lib.hid (LA.out.after hB)
        replace HT := Lib.hid (HT.out.after hB)
        clear x0 x1 x2
        clear hB
        go_wp2_with fail
        refine wp_region_gen2 (S := fun W => Blk W w.heap.size 25 #[.int .i64 a.lv, .int .u64 (u a.c), .int .i64 a.ig]) (N := fun W => Below w3.heap.size w3 W) (by kernel_rfl) LA.out.drew (Below.refl _ _).drew (fun w4 hS hN => ?_)
        have B4 := Lib.hid (below_call (w := w) B3.out hN)
        replace LA := Lib.hid (LA.out.after hN)
        replace HT := Lib.hid (HT.out.after hN)
        clear hN
        refine wpAnyH_take (i := 0) (v := ?_) (op_at rfl) (by kernel_rfl) (by kernel_rfl) (by kernel_rfl) (fun _ _ _ h => h) (Or.inl ⟨by rfl, ?_⟩) hS ?_; rotate_left; focus ((intro w' hSw; clear hSw; go_simp) <;> with_reducible rfl)
        try simp only [Act.put, List.setIfInBounds_toArray, List.set_cons_zero, List.set_cons_succ]
        refine wpAnyH_take (i := 1) (v := ?_) (op_at rfl) (by kernel_rfl) (by kernel_rfl) (by kernel_rfl) (fun _ _ _ h => h) (Or.inl ⟨by rfl, ?_⟩) hS ?_; rotate_left; focus ((intro w' hSw; have c0 := hSw.at_ (i := 0) (v := .int .i64 a.lv) rfl; have c1 := hSw.at_ (i := 1) (v := .int .u64 (u a.c)) rfl; have c2 := hSw.at_ (i := 2) (v := .int .i64 a.ig) rfl; clear hSw; go_simp) <;> with_reducible rfl)
        try simp only [Act.put, List.setIfInBounds_toArray, List.set_cons_zero, List.set_cons_succ]
        refine wpAnyH_take (i := 2) (v := ?_) (op_at rfl) (by kernel_rfl) (by kernel_rfl) (by kernel_rfl) (fun _ _ _ h => h) (Or.inl ⟨by rfl, ?_⟩) hS ?_; rotate_left; focus ((intro w' hSw; clear hSw; go_simp) <;> with_reducible rfl)
        try simp only [Act.put, List.setIfInBounds_toArray, List.set_cons_zero, List.set_cons_succ]
        refine wpAnyH_take (i := 3) (v := ?_) (op_at rfl) (by kernel_rfl) (by kernel_rfl) (by kernel_rfl) (fun _ _ _ h => h) (Or.inl ⟨by rfl, ?_⟩) hS ?_; rotate_left; focus ((intro w' hSw; have c0 := hSw.at_ (i := 0) (v := .int .i64 a.lv) rfl; have c1 := hSw.at_ (i := 1) (v := .int .u64 (u a.c)) rfl; have c2 := hSw.at_ (i := 2) (v := .int .i64 a.ig) rfl; clear hSw; go_simp) <;> with_reducible rfl)
        try simp only [Act.put, List.setIfInBounds_toArray, List.set_cons_zero, List.set_cons_succ]
        refine wpAnyH_take (i := 5) (v := ?_) (op_at rfl) (by kernel_rfl) (by kernel_rfl) (by kernel_rfl) (fun _ _ _ h => h) (Or.inl ⟨by rfl, ?_⟩) hS ?_; rotate_left; focus ((intro w' hSw; clear hSw; go_simp) <;> with_reducible rfl)
        try simp only [Act.put, List.setIfInBounds_toArray, List.set_cons_zero, List.set_cons_succ]
        refine wpAnyH_ready (rs := [4]) (by kernel_rfl) (by simp) ?_
        refine (AllReadyH.cons (op_at rfl) (fun K hK => ?_) AllReadyH.nil)
        go_simp
        refine (rUsed_w _ l a _ HT.out).mono ?_
        rintro e w5 ⟨rfl, hB⟩
        rw [HU.out]
        have B5 := Lib.hid (below_call (w := w) B4.out hB)
        replace LA := Lib.hid (LA.out.after hB)
        replace HT := Lib.hid (HT.out.after hB)
        refine hK.out _ _ LA.out (fun hS => ?_)
        clear hK K hB
        try simp only [Act.put, List.setIfInBounds_toArray, List.set_cons_zero, List.set_cons_succ]
        refine wpAnyH_take (i := 6) (v := ?_) (op_at rfl) (by kernel_rfl) (by kernel_rfl) (by kernel_rfl) (fun _ _ _ h => h) (Or.inl ⟨by rfl, ?_⟩) hS ?_; rotate_left; focus ((intro w' hSw; clear hSw; go_simp) <;> with_reducible rfl)
        try simp only [Act.put, List.setIfInBounds_toArray, List.set_cons_zero, List.set_cons_succ]
        refine wpAnyH_ready (rs := [7]) (by kernel_rfl) (by simp) ?_
        refine (AllReadyH.cons (op_at rfl) (fun K hK => ?_) AllReadyH.nil)
        go_simp
        refine (rset_w _ l a (us - n) _ HT.out HLE.out HRI.out).mono ?_
        rintro e w6 ⟨v6, rfl, hO, hB⟩
        obtain ⟨p6, c6, rfl⟩ := hO.val
        have B6 := Lib.hid (below_call (w := w) B5.out hB)
        replace LA := Lib.hid (LA.out.after hB)
        replace HT := Lib.hid (HT.out.after hB)
        have O6 := Lib.hid hO
        clear hO
        refine hK.out _ _ LA.out (fun hS => ?_)
        clear hK K hB
        try simp only [Act.put, List.setIfInBounds_toArray, List.set_cons_zero, List.set_cons_succ]
        refine wpAnyH_take (i := 8) (v := ?_) (op_at rfl) (by kernel_rfl) (by kernel_rfl) (by kernel_rfl) (fun _ _ _ h => h) (Or.inl ⟨by rfl, ?_⟩) hS ?_; rotate_left; focus ((intro w' hSw; clear hSw; go_simp) <;> with_reducible rfl)
        try simp only [Act.put, List.setIfInBounds_toArray, List.set_cons_zero, List.set_cons_succ]
        refine wpAnyH_take (i := 9) (v := ?_) (op_at rfl) (by kernel_rfl) (by kernel_rfl) (by kernel_rfl) (fun _ _ _ h => h) (Or.inl ⟨by rfl, ?_⟩) hS ?_; rotate_left; focus ((intro w' hSw; clear hSw; go_simp) <;> with_reducible rfl)
        try simp only [Act.put, List.setIfInBounds_toArray, List.set_cons_zero, List.set_cons_succ]
        refine wpAnyH_done (by kernel_rfl) ?_ _
        go_wp2_with fail
        go_ret2
        exact ⟨_, by rw [HE.out]; rfl, by rw [HL0.out]; exact O6.out.base B5.out.size, B6.out⟩
end Go.Proofs.YtbggaijjgnjknaaDoor
