/-
  PACKAGE ledger: open, end, Charge, Refund.
-/
import Derived.Test.YtbggaijjgnjknaaDoorLgK
import Derived.ScopeJumps
import Derived.WalkMore
namespace Go.Proofs.YtbggaijjgnjknaaDoor
open Go.RowKit

attribute [local go_sem] u_and u_or u_andNot u_add u_sub u_bit u_eq_zero u_beq

/-- a scope that jumps ahead to one label -/
theorem wp_scope_fwd {P : Program} {a : Act} {w : World} {Q : Exit → Act → World → Prop} {c rest : Code} (l : Nat) (hf : findLabel c l = some rest)
    (first : ∀ J : Act → World → Prop, (∀ a' w', rest.wp P (Exit.noGoto Q) a' w' → J a' w') → c.wp P (Exit.jump l J Q) a w) : (Code.scope c).wp P Q a w := by
  refine wp_scope_jumps l (fun a' w' => rest.wp P (Exit.noGoto Q) a' w') (fun _ _ => 0) hf (first _ (fun _ _ h => h)) (fun a' w' h => Code.wp_mono (fun e a1 w1 hq => ?_) h)
  cases e with
  | goto l' => exact hq.elim
  | normal => exact hq
  | exit id => exact hq
  | ret => exact hq
  | panic ch => exact hq
  | outgrown => exact hq
theorem jump_ret {l : Nat} {J : Act → World → Prop} {Q : Exit → Act → World → Prop} {a : Act} {w : World} : Exit.jump l J Q .ret a w = Q .ret a w := rfl
theorem cap_lns {w : World} {A : Option Addr} {c : Nat} {l : List Ln} (h : LnsAt w (.slice A l.length c) l) : LnsAt w (.slice A l.length l.length) l := by
  obtain ⟨A', c', e, hc, _⟩ := h.slice
  cases e
  have := RowsAt.take h l.length (m := l.length) (c' := l.length) (by rw [List.take_length]) hc (Nat.le_refl _)
  rwa [List.take_length] at this
noncomputable def openV (l : List Ln) (a : Lab) : Value := if rightLn l = true ∧ okL a = true then .nilIface else wrongV 20
set_option maxRecDepth 100000 in
set_option maxHeartbeats 8000000 in
theorem open_w (v : Value) (l : List Ln) (a : Lab) (w : World) (hl : LnsAt w v l) :
    Calls Tryd.prog 30 #[v, .agg #[.int .i64 a.lv, .int .u64 (u a.c), .int .i64 a.ig]] w fun e w' => ∃ bb A, e = .returned (.pointer (some ⟨bb, 0, none⟩)) ∧ w.heap.size ≤ bb ∧ Blk w' bb 53 #[.slice A l.length l.length, .int .i64 a.lv, .int .u64 (u a.c), .int .i64 a.ig, openV l a] ∧ LnsAt w (.slice A l.length l.length) l ∧ Below w.heap.size w w' := by
  obtain ⟨A, cA, rfl, hcA, hsc, hA0⟩ := hl.slice
  have HC := Lib.hid (cap_lns hl)
  have HL := Lib.hid hl
  clear hl
  have key : Calls Tryd.prog 30 #[.slice A l.length cA, .agg #[.int .i64 a.lv, .int .u64 (u a.c), .int .i64 a.ig]] w fun e w' => ∃ bb, e = .returned (.pointer (some ⟨bb, 0, none⟩)) ∧ w.heap.size ≤ bb ∧ Blk w' bb 53 #[.slice A l.length l.length, .int .i64 a.lv, .int .u64 (u a.c), .int .i64 a.ig, openV l a] ∧ Below w.heap.size w w' := by
    have s0 : (0 : Int) ≤ (l.length : Int) := by omega
    have s1 : (l.length : Int) ≤ (cA : Int) := by omega
    cases hr : rightLn l
    · have HV : openV l a = wrongV 20 := by unfold openV; rw [if_neg (by rw [hr]; simp)]
      have HR := Lib.hid hr
      rw [HV]
      unfold wrongV
      clear hr HV hA0
      go_enter Tryd.func30, Tryd.ntmps30
      go_wp2_with fail
      refine wp_region_gen2 (S := fun W' => Blk W' w.heap.size 25 #[.int .i64 a.lv, .int .u64 (u a.c), .int .i64 a.ig]) (N := fun W' => W' = (w.alloc (.cells #[.int .i64 a.lv, .int .u64 (u a.c), .int .i64 a.ig] 25)).drew) (by kernel_rfl) (Blk.new' rfl : Blk (w.alloc (.cells #[.int .i64 a.lv, .int .u64 (u a.c), .int .i64 a.ig] 25)) w.heap.size 25 #[.int .i64 a.lv, .int .u64 (u a.c), .int .i64 a.ig]).drew rfl (fun w1 hS hN => ?_)
      have HN := Lib.hid hN
      clear hN
      refine wpAnyH_take (i := 0) (v := ?_) (op_at rfl) (by kernel_rfl) (by kernel_rfl) (by kernel_rfl) (fun _ _ _ h => h) (Or.inl ⟨by rfl, ?_⟩) hS ?_; rotate_left; focus ((intro w' hSw; clear hSw; go_simp) <;> with_reducible rfl)
      try simp only [Act.put, List.setIfInBounds_toArray, List.set_cons_zero, List.set_cons_succ]
      refine wpAnyH_take (i := 1) (v := ?_) (op_at rfl) (by kernel_rfl) (by kernel_rfl) (by kernel_rfl) (fun _ _ _ h => h) (Or.inl ⟨by rfl, ?_⟩) hS ?_; rotate_left; focus ((intro w' hSw; clear hSw; go_simp) <;> with_reducible rfl)
      try simp only [Act.put, List.setIfInBounds_toArray, List.set_cons_zero, List.set_cons_succ]
      refine wpAnyH_take (i := 2) (v := ?_) (op_at rfl) (by kernel_rfl) (by kernel_rfl) (by kernel_rfl) (fun _ _ _ h => h) (Or.inl ⟨by rfl, ?_⟩) hS ?_; rotate_left; focus ((intro w' hSw; clear hSw; go_simp) <;> with_reducible rfl)
      try simp only [Act.put, List.setIfInBounds_toArray, List.set_cons_zero, List.set_cons_succ]
      refine wpAnyH_take (i := 3) (v := ?_) (op_at rfl) (by kernel_rfl) (by kernel_rfl) (by kernel_rfl) (fun _ _ _ h => h) (Or.inl ⟨by rfl, ?_⟩) hS ?_; rotate_left; focus ((intro w' hSw; clear hSw; go_simp) <;> with_reducible rfl)
      try simp only [Act.put, List.setIfInBounds_toArray, List.set_cons_zero, List.set_cons_succ]
      refine wpAnyH_take (i := 4) (v := ?_) (op_at rfl) (by kernel_rfl) (by kernel_rfl) (by kernel_rfl) (fun _ _ _ h => h) (Or.inl ⟨by rfl, ?_⟩) hS ?_; rotate_left; focus ((intro w' hSw; clear hSw; go_simp) <;> with_reducible rfl)
      try simp only [Act.put, List.setIfInBounds_toArray, List.set_cons_zero, List.set_cons_succ]
      refine wpAnyH_take (i := 5) (v := ?_) (op_at rfl) (by kernel_rfl) (by kernel_rfl) (by kernel_rfl) (fun _ _ _ h => h) (Or.inl ⟨by rfl, ?_⟩) hS ?_; rotate_left; focus ((intro w' hSw; clear hSw; go_simp) <;> with_reducible rfl)
      try simp only [Act.put, List.setIfInBounds_toArray, List.set_cons_zero, List.set_cons_succ]
      refine wpAnyH_take (i := 6) (v := ?_) (op_at rfl) (by kernel_rfl) (by kernel_rfl) (by kernel_rfl) (fun _ _ _ h => h) (Or.inl ⟨by rfl, ?_⟩) hS ?_; rotate_left; focus ((intro w' hSw; clear hSw; go_simp) <;> with_reducible rfl)
      try simp only [Act.put, List.setIfInBounds_toArray, List.set_cons_zero, List.set_cons_succ]
      refine wpAnyH_take (i := 7) (v := ?_) (op_at rfl) (by kernel_rfl) (by kernel_rfl) (by kernel_rfl) (fun _ _ _ h => h) (Or.inl ⟨by rfl, ?_⟩) hS ?_; rotate_left; focus ((intro w' hSw; have q := hSw; have c0 := q.at_ (i := 0) (v := .int .i64 a.lv) rfl; have c1 := q.at_ (i := 1) (v := .int .u64 (u a.c)) rfl; have c2 := q.at_ (i := 2) (v := .int .i64 a.ig) rfl; clear q; clear hSw; go_simp) <;> with_reducible rfl)
      try simp only [Act.put, List.setIfInBounds_toArray, List.set_cons_zero, List.set_cons_succ]
      refine wpAnyH_take (i := 8) (v := ?_) (op_at rfl) (by kernel_rfl) (by kernel_rfl) (by kernel_rfl) (fun _ _ _ h => h) (Or.inl ⟨by rfl, ?_⟩) hS ?_; rotate_left; focus ((intro w' hSw; clear hSw; go_simp) <;> with_reducible rfl)
      try simp only [Act.put, List.setIfInBounds_toArray, List.set_cons_zero, List.set_cons_succ]
      refine wpAnyH_ready (rs := [9]) (by kernel_rfl) (by simp) ?_
      refine (AllReadyH.cons (op_at rfl) (fun K hK => ?_) AllReadyH.nil)
      go_simp
      refine hK.out _ _ (Blk.alloc hS _) (fun hS => ?_)
      clear hK K
      try simp only [Act.put, List.setIfInBounds_toArray, List.set_cons_zero, List.set_cons_succ]
      refine wpAnyH_take (i := 10) (v := ?_) (op_at rfl) (by kernel_rfl) (by kernel_rfl) (by kernel_rfl) (fun _ _ _ h => h) (Or.inl ⟨by rfl, ?_⟩) hS ?_; rotate_left; focus ((intro w' hSw; clear hSw; go_simp) <;> with_reducible rfl)
      try simp only [Act.put, List.setIfInBounds_toArray, List.set_cons_zero, List.set_cons_succ]
      refine wpAnyH_done (by kernel_rfl) ?_ _
      have LB := Lib.hid hS
      have B2 : Hid (Below w.heap.size w (w1.alloc (.cells #[.slice A l.length l.length, .int .i64 a.lv, .int .u64 (u a.c), .int .i64 a.ig, .nilIface] 53))) := Lib.hid (below_alloc (by rw [HN.out]; exact (below_alloc (Below.refl _ _) _).drew) _)
      have BB : Hid (Blk (w1.alloc (.cells #[.slice A l.length l.length, .int .i64 a.lv, .int .u64 (u a.c), .int .i64 a.ig, .nilIface] 53)) w1.heap.size 53 #[.slice A l.length l.length, .int .i64 a.lv, .int .u64 (u a.c), .int .i64 a.ig, .nilIface]) := Lib.hid (Blk.new' rfl)
      have hz1 : w1.heap.size = w.heap.size + 1 := by rw [HN.out]; exact Array.size_push _
      obtain ⟨w2, hw2⟩ : ∃ w2, w1.alloc (.cells #[.slice A l.length l.length, .int .i64 a.lv, .int .u64 (u a.c), .int .i64 a.ig, .nilIface] 53) = w2 := ⟨_, rfl⟩
      rw [hw2] at LB B2 BB ⊢
      generalize hbb : w1.heap.size = bb at *
      have HBB : Hid (w.heap.size ≤ bb) := Lib.hid (by omega)
      clear hS hw2 HN hbb hz1
      go_wp2_with fail
      refine (LRight_w _ l _ (HL.out.later B2.out B2.out.size)).mono ?_
      rintro e w3 ⟨rfl, hB⟩
      rw [HR.out]
      have B3 := Lib.hid (below_call (w := w) B2.out hB)
      have BB3 := Lib.hid (BB.out.after hB)
      have p4 := BB3.out.at_ (i := 4) (v := .nilIface) rfl
      have f4 := BB3.out.frozen 4
      clear hB
      go_wp2_with fail
      go_ret
      exact ⟨bb, rfl, HBB.out, BB3.out.set' rfl, below_set B3.out HBB.out _⟩
    · cases ha : okL a
      · have HV : openV l a = wrongV 20 := by unfold openV; rw [if_neg (by rw [ha]; simp)]
        have HR := Lib.hid hr
        have HA := Lib.hid ha
        rw [HV]
        unfold wrongV
        clear hr ha HV hA0
        go_enter Tryd.func30, Tryd.ntmps30
        go_wp2_with fail
        refine wp_region_gen2 (S := fun W' => Blk W' w.heap.size 25 #[.int .i64 a.lv, .int .u64 (u a.c), .int .i64 a.ig]) (N := fun W' => W' = (w.alloc (.cells #[.int .i64 a.lv, .int .u64 (u a.c), .int .i64 a.ig] 25)).drew) (by kernel_rfl) (Blk.new' rfl : Blk (w.alloc (.cells #[.int .i64 a.lv, .int .u64 (u a.c), .int .i64 a.ig] 25)) w.heap.size 25 #[.int .i64 a.lv, .int .u64 (u a.c), .int .i64 a.ig]).drew rfl (fun w1 hS hN => ?_)
        have HN := Lib.hid hN
        clear hN
        refine wpAnyH_take (i := 0) (v := ?_) (op_at rfl) (by kernel_rfl) (by kernel_rfl) (by kernel_rfl) (fun _ _ _ h => h) (Or.inl ⟨by rfl, ?_⟩) hS ?_; rotate_left; focus ((intro w' hSw; clear hSw; go_simp) <;> with_reducible rfl)
        try simp only [Act.put, List.setIfInBounds_toArray, List.set_cons_zero, List.set_cons_succ]
        refine wpAnyH_take (i := 1) (v := ?_) (op_at rfl) (by kernel_rfl) (by kernel_rfl) (by kernel_rfl) (fun _ _ _ h => h) (Or.inl ⟨by rfl, ?_⟩) hS ?_; rotate_left; focus ((intro w' hSw; clear hSw; go_simp) <;> with_reducible rfl)
        try simp only [Act.put, List.setIfInBounds_toArray, List.set_cons_zero, List.set_cons_succ]
        refine wpAnyH_take (i := 2) (v := ?_) (op_at rfl) (by kernel_rfl) (by kernel_rfl) (by kernel_rfl) (fun _ _ _ h => h) (Or.inl ⟨by rfl, ?_⟩) hS ?_; rotate_left; focus ((intro w' hSw; clear hSw; go_simp) <;> with_reducible rfl)
        try simp only [Act.put, List.setIfInBounds_toArray, List.set_cons_zero, List.set_cons_succ]
        refine wpAnyH_take (i := 3) (v := ?_) (op_at rfl) (by kernel_rfl) (by kernel_rfl) (by kernel_rfl) (fun _ _ _ h => h) (Or.inl ⟨by rfl, ?_⟩) hS ?_; rotate_left; focus ((intro w' hSw; clear hSw; go_simp) <;> with_reducible rfl)
        try simp only [Act.put, List.setIfInBounds_toArray, List.set_cons_zero, List.set_cons_succ]
        refine wpAnyH_take (i := 4) (v := ?_) (op_at rfl) (by kernel_rfl) (by kernel_rfl) (by kernel_rfl) (fun _ _ _ h => h) (Or.inl ⟨by rfl, ?_⟩) hS ?_; rotate_left; focus ((intro w' hSw; clear hSw; go_simp) <;> with_reducible rfl)
        try simp only [Act.put, List.setIfInBounds_toArray, List.set_cons_zero, List.set_cons_succ]
        refine wpAnyH_take (i := 5) (v := ?_) (op_at rfl) (by kernel_rfl) (by kernel_rfl) (by kernel_rfl) (fun _ _ _ h => h) (Or.inl ⟨by rfl, ?_⟩) hS ?_; rotate_left; focus ((intro w' hSw; clear hSw; go_simp) <;> with_reducible rfl)
        try simp only [Act.put, List.setIfInBounds_toArray, List.set_cons_zero, List.set_cons_succ]
        refine wpAnyH_take (i := 6) (v := ?_) (op_at rfl) (by kernel_rfl) (by kernel_rfl) (by kernel_rfl) (fun _ _ _ h => h) (Or.inl ⟨by rfl, ?_⟩) hS ?_; rotate_left; focus ((intro w' hSw; clear hSw; go_simp) <;> with_reducible rfl)
        try simp only [Act.put, List.setIfInBounds_toArray, List.set_cons_zero, List.set_cons_succ]
        refine wpAnyH_take (i := 7) (v := ?_) (op_at rfl) (by kernel_rfl) (by kernel_rfl) (by kernel_rfl) (fun _ _ _ h => h) (Or.inl ⟨by rfl, ?_⟩) hS ?_; rotate_left; focus ((intro w' hSw; have q := hSw; have c0 := q.at_ (i := 0) (v := .int .i64 a.lv) rfl; have c1 := q.at_ (i := 1) (v := .int .u64 (u a.c)) rfl; have c2 := q.at_ (i := 2) (v := .int .i64 a.ig) rfl; clear q; clear hSw; go_simp) <;> with_reducible rfl)
        try simp only [Act.put, List.setIfInBounds_toArray, List.set_cons_zero, List.set_cons_succ]
        refine wpAnyH_take (i := 8) (v := ?_) (op_at rfl) (by kernel_rfl) (by kernel_rfl) (by kernel_rfl) (fun _ _ _ h => h) (Or.inl ⟨by rfl, ?_⟩) hS ?_; rotate_left; focus ((intro w' hSw; clear hSw; go_simp) <;> with_reducible rfl)
        try simp only [Act.put, List.setIfInBounds_toArray, List.set_cons_zero, List.set_cons_succ]
        refine wpAnyH_ready (rs := [9]) (by kernel_rfl) (by simp) ?_
        refine (AllReadyH.cons (op_at rfl) (fun K hK => ?_) AllReadyH.nil)
        go_simp
        refine hK.out _ _ (Blk.alloc hS _) (fun hS => ?_)
        clear hK K
        try simp only [Act.put, List.setIfInBounds_toArray, List.set_cons_zero, List.set_cons_succ]
        refine wpAnyH_take (i := 10) (v := ?_) (op_at rfl) (by kernel_rfl) (by kernel_rfl) (by kernel_rfl) (fun _ _ _ h => h) (Or.inl ⟨by rfl, ?_⟩) hS ?_; rotate_left; focus ((intro w' hSw; clear hSw; go_simp) <;> with_reducible rfl)
        try simp only [Act.put, List.setIfInBounds_toArray, List.set_cons_zero, List.set_cons_succ]
        refine wpAnyH_done (by kernel_rfl) ?_ _
        have LB := Lib.hid hS
        have B2 : Hid (Below w.heap.size w (w1.alloc (.cells #[.slice A l.length l.length, .int .i64 a.lv, .int .u64 (u a.c), .int .i64 a.ig, .nilIface] 53))) := Lib.hid (below_alloc (by rw [HN.out]; exact (below_alloc (Below.refl _ _) _).drew) _)
        have BB : Hid (Blk (w1.alloc (.cells #[.slice A l.length l.length, .int .i64 a.lv, .int .u64 (u a.c), .int .i64 a.ig, .nilIface] 53)) w1.heap.size 53 #[.slice A l.length l.length, .int .i64 a.lv, .int .u64 (u a.c), .int .i64 a.ig, .nilIface]) := Lib.hid (Blk.new' rfl)
        have hz1 : w1.heap.size = w.heap.size + 1 := by rw [HN.out]; exact Array.size_push _
        obtain ⟨w2, hw2⟩ : ∃ w2, w1.alloc (.cells #[.slice A l.length l.length, .int .i64 a.lv, .int .u64 (u a.c), .int .i64 a.ig, .nilIface] 53) = w2 := ⟨_, rfl⟩
        rw [hw2] at LB B2 BB ⊢
        generalize hbb : w1.heap.size = bb at *
        have HBB : Hid (w.heap.size ≤ bb) := Lib.hid (by omega)
        clear hS hw2 HN hbb hz1
        go_wp2_with fail
        refine (LRight_w _ l _ (HL.out.later B2.out B2.out.size)).mono ?_
        rintro e w3 ⟨rfl, hB⟩
        rw [HR.out]
        have B3 := Lib.hid (below_call (w := w) B2.out hB)
        have BB3 := Lib.hid (BB.out.after hB)
        have LB3 := Lib.hid (LB.out.after hB)
        have t0 := LB3.out.at_ (i := 0) (v := .int .i64 a.lv) rfl
        have t1 := LB3.out.at_ (i := 1) (v := .int .u64 (u a.c)) rfl
        have t2 := LB3.out.at_ (i := 2) (v := .int .i64 a.ig) rfl
        clear hB
        go_wp2_with fail
        refine (Right_any a _).mono ?_
        rintro e w4 ⟨rfl, hB⟩
        rw [HA.out]
        have B4 := Lib.hid (below_call (w := w) B3.out hB)
        have BB4 := Lib.hid (BB3.out.after hB)
        have p4 := BB4.out.at_ (i := 4) (v := .nilIface) rfl
        have f4 := BB4.out.frozen 4
        clear hB t0 t1 t2
        go_wp2_with fail
        go_ret
        exact ⟨bb, rfl, HBB.out, BB4.out.set' rfl, below_set B4.out HBB.out _⟩
      · have HV : openV l a = .nilIface := by unfold openV; rw [if_pos ⟨hr, ha⟩]
        have HR := Lib.hid hr
        have HA := Lib.hid ha
        rw [HV]
        clear hr ha HV hA0
        go_enter Tryd.func30, Tryd.ntmps30
        go_wp2_with fail
        refine wp_region_gen2 (S := fun W' => Blk W' w.heap.size 25 #[.int .i64 a.lv, .int .u64 (u a.c), .int .i64 a.ig]) (N := fun W' => W' = (w.alloc (.cells #[.int .i64 a.lv, .int .u64 (u a.c), .int .i64 a.ig] 25)).drew) (by kernel_rfl) (Blk.new' rfl : Blk (w.alloc (.cells #[.int .i64 a.lv, .int .u64 (u a.c), .int .i64 a.ig] 25)) w.heap.size 25 #[.int .i64 a.lv, .int .u64 (u a.c), .int .i64 a.ig]).drew rfl (fun w1 hS hN => ?_)
        have HN := Lib.hid hN
        clear hN
        refine wpAnyH_take (i := 0) (v := ?_) (op_at rfl) (by kernel_rfl) (by kernel_rfl) (by kernel_rfl) (fun _ _ _ h => h) (Or.inl ⟨by rfl, ?_⟩) hS ?_; rotate_left; focus ((intro w' hSw; clear hSw; go_simp) <;> with_reducible rfl)
        try simp only [Act.put, List.setIfInBounds_toArray, List.set_cons_zero, List.set_cons_succ]
        refine wpAnyH_take (i := 1) (v := ?_) (op_at rfl) (by kernel_rfl) (by kernel_rfl) (by kernel_rfl) (fun _ _ _ h => h) (Or.inl ⟨by rfl, ?_⟩) hS ?_; rotate_left; focus ((intro w' hSw; clear hSw; go_simp) <;> with_reducible rfl)
        try simp only [Act.put, List.setIfInBounds_toArray, List.set_cons_zero, List.set_cons_succ]
        refine wpAnyH_take (i := 2) (v := ?_) (op_at rfl) (by kernel_rfl) (by kernel_rfl) (by kernel_rfl) (fun _ _ _ h => h) (Or.inl ⟨by rfl, ?_⟩) hS ?_; rotate_left; focus ((intro w' hSw; clear hSw; go_simp) <;> with_reducible rfl)
        try simp only [Act.put, List.setIfInBounds_toArray, List.set_cons_zero, List.set_cons_succ]
        refine wpAnyH_take (i := 3) (v := ?_) (op_at rfl) (by kernel_rfl) (by kernel_rfl) (by kernel_rfl) (fun _ _ _ h => h) (Or.inl ⟨by rfl, ?_⟩) hS ?_; rotate_left; focus ((intro w' hSw; clear hSw; go_simp) <;> with_reducible rfl)
        try simp only [Act.put, List.setIfInBounds_toArray, List.set_cons_zero, List.set_cons_succ]
        refine wpAnyH_take (i := 4) (v := ?_) (op_at rfl) (by kernel_rfl) (by kernel_rfl) (by kernel_rfl) (fun _ _ _ h => h) (Or.inl ⟨by rfl, ?_⟩) hS ?_; rotate_left; focus ((intro w' hSw; clear hSw; go_simp) <;> with_reducible rfl)
        try simp only [Act.put, List.setIfInBounds_toArray, List.set_cons_zero, List.set_cons_succ]
        refine wpAnyH_take (i := 5) (v := ?_) (op_at rfl) (by kernel_rfl) (by kernel_rfl) (by kernel_rfl) (fun _ _ _ h => h) (Or.inl ⟨by rfl, ?_⟩) hS ?_; rotate_left; focus ((intro w' hSw; clear hSw; go_simp) <;> with_reducible rfl)
        try simp only [Act.put, List.setIfInBounds_toArray, List.set_cons_zero, List.set_cons_succ]
        refine wpAnyH_take (i := 6) (v := ?_) (op_at rfl) (by kernel_rfl) (by kernel_rfl) (by kernel_rfl) (fun _ _ _ h => h) (Or.inl ⟨by rfl, ?_⟩) hS ?_; rotate_left; focus ((intro w' hSw; clear hSw; go_simp) <;> with_reducible rfl)
        try simp only [Act.put, List.setIfInBounds_toArray, List.set_cons_zero, List.set_cons_succ]
        refine wpAnyH_take (i := 7) (v := ?_) (op_at rfl) (by kernel_rfl) (by kernel_rfl) (by kernel_rfl) (fun _ _ _ h => h) (Or.inl ⟨by rfl, ?_⟩) hS ?_; rotate_left; focus ((intro w' hSw; have q := hSw; have c0 := q.at_ (i := 0) (v := .int .i64 a.lv) rfl; have c1 := q.at_ (i := 1) (v := .int .u64 (u a.c)) rfl; have c2 := q.at_ (i := 2) (v := .int .i64 a.ig) rfl; clear q; clear hSw; go_simp) <;> with_reducible rfl)
        try simp only [Act.put, List.setIfInBounds_toArray, List.set_cons_zero, List.set_cons_succ]
        refine wpAnyH_take (i := 8) (v := ?_) (op_at rfl) (by kernel_rfl) (by kernel_rfl) (by kernel_rfl) (fun _ _ _ h => h) (Or.inl ⟨by rfl, ?_⟩) hS ?_; rotate_left; focus ((intro w' hSw; clear hSw; go_simp) <;> with_reducible rfl)
        try simp only [Act.put, List.setIfInBounds_toArray, List.set_cons_zero, List.set_cons_succ]
        refine wpAnyH_ready (rs := [9]) (by kernel_rfl) (by simp) ?_
        refine (AllReadyH.cons (op_at rfl) (fun K hK => ?_) AllReadyH.nil)
        go_simp
        refine hK.out _ _ (Blk.alloc hS _) (fun hS => ?_)
        clear hK K
        try simp only [Act.put, List.setIfInBounds_toArray, List.set_cons_zero, List.set_cons_succ]
        refine wpAnyH_take (i := 10) (v := ?_) (op_at rfl) (by kernel_rfl) (by kernel_rfl) (by kernel_rfl) (fun _ _ _ h => h) (Or.inl ⟨by rfl, ?_⟩) hS ?_; rotate_left; focus ((intro w' hSw; clear hSw; go_simp) <;> with_reducible rfl)
        try simp only [Act.put, List.setIfInBounds_toArray, List.set_cons_zero, List.set_cons_succ]
        refine wpAnyH_done (by kernel_rfl) ?_ _
        have LB := Lib.hid hS
        have B2 : Hid (Below w.heap.size w (w1.alloc (.cells #[.slice A l.length l.length, .int .i64 a.lv, .int .u64 (u a.c), .int .i64 a.ig, .nilIface] 53))) := Lib.hid (below_alloc (by rw [HN.out]; exact (below_alloc (Below.refl _ _) _).drew) _)
        have BB : Hid (Blk (w1.alloc (.cells #[.slice A l.length l.length, .int .i64 a.lv, .int .u64 (u a.c), .int .i64 a.ig, .nilIface] 53)) w1.heap.size 53 #[.slice A l.length l.length, .int .i64 a.lv, .int .u64 (u a.c), .int .i64 a.ig, .nilIface]) := Lib.hid (Blk.new' rfl)
        have hz1 : w1.heap.size = w.heap.size + 1 := by rw [HN.out]; exact Array.size_push _
        obtain ⟨w2, hw2⟩ : ∃ w2, w1.alloc (.cells #[.slice A l.length l.length, .int .i64 a.lv, .int .u64 (u a.c), .int .i64 a.ig, .nilIface] 53) = w2 := ⟨_, rfl⟩
        rw [hw2] at LB B2 BB ⊢
        generalize hbb : w1.heap.size = bb at *
        have HBB : Hid (w.heap.size ≤ bb) := Lib.hid (by omega)
        clear hS hw2 HN hbb hz1
        go_wp2_with fail
        refine (LRight_w _ l _ (HL.out.later B2.out B2.out.size)).mono ?_
        rintro e w3 ⟨rfl, hB⟩
        rw [HR.out]
        have B3 := Lib.hid (below_call (w := w) B2.out hB)
        have BB3 := Lib.hid (BB.out.after hB)
        have LB3 := Lib.hid (LB.out.after hB)
        have t0 := LB3.out.at_ (i := 0) (v := .int .i64 a.lv) rfl
        have t1 := LB3.out.at_ (i := 1) (v := .int .u64 (u a.c)) rfl
        have t2 := LB3.out.at_ (i := 2) (v := .int .i64 a.ig) rfl
        clear hB
        go_wp2_with fail
        refine (Right_any a _).mono ?_
        rintro e w4 ⟨rfl, hB⟩
        rw [HA.out]
        have B4 := Lib.hid (below_call (w := w) B3.out hB)
        have BB4 := Lib.hid (BB3.out.after hB)
        have p4 := BB4.out.at_ (i := 4) (v := .nilIface) rfl
        have f4 := BB4.out.frozen 4
        clear hB t0 t1 t2
        go_wp2_with fail
        go_ret
        exact ⟨bb, rfl, HBB.out, BB4.out, B4.out⟩
  refine key.mono ?_
  rintro e w' ⟨bb, rfl, h1, h2, h3⟩
  exact ⟨bb, A, rfl, h1, h2, HC.out, h3⟩
theorem end_ok (bb : Nat) (p : Option Addr) (k c : Nat) (a : Lab) (w : World) (hb : Blk w bb 53 #[.slice p k c, .int .i64 a.lv, .int .u64 (u a.c), .int .i64 a.ig, .nilIface]) (hk : k ≤ 1000) :
    Calls Tryd.prog 32 #[.pointer (some ⟨bb, 0, none⟩)] w fun e w' => e = .returned (.tuple #[.slice p k c, .int .i64 0]) ∧ w = w' := by
  have p0 := hb.at_ (i := 0) (v := .slice p k c) rfl
  have p4 := hb.at_ (i := 4) (v := .nilIface) rfl
  have d0 : decide ((1000 : Int) < (k : Int)) = false := decide_eq_false (by omega)
  have d1 : ¬ ((1000 : Int) < (k : Int)) := by omega
  have d2 : ¬ (1000 < k) := by omega
  have d3 : decide (1000 < k) = false := decide_eq_false d2
  clear hb
  go_enter Tryd.func32, Tryd.ntmps32
  go_wp2_with fail
  go_ret2
  exact ⟨rfl, rfl⟩
theorem end_bad (bb : Nat) (v : Value) (a : Lab) (n : Int) (w : World) (hb : Blk w bb 53 #[v, .int .i64 a.lv, .int .u64 (u a.c), .int .i64 a.ig, wrongV n]) (hh : Handle w) :
    Calls Tryd.prog 32 #[.pointer (some ⟨bb, 0, none⟩)] w fun e w' => e = .returned (.tuple #[.slice none 0 0, .int .i64 n]) ∧ Below w.heap.size w w' := by
  have p4 := hb.at_ (i := 4) (v := wrongV n) rfl
  have HH := Lib.hid hh
  have HT := Lib.hid (told_w n)
  unfold wrongV at p4 HT
  clear hb hh
  go_enter Tryd.func32, Tryd.ntmps32
  go_wp2_with fail
  refine (HT.out _ HH.out).mono ?_
  rintro e w1 ⟨rfl, hB⟩
  have B := Lib.hid hB
  clear hB
  go_wp2_with fail
  go_ret2
  exact ⟨rfl, B.out⟩
/-- what Charge, Refund tell -/
noncomputable def chargeE (l : List Ln) (q : Int) (a : Lab) (n : Int) : Int := if rightLn l = true ∧ okL a = true then (if q < 0 ∨ 100000 < q ∨ n < 0 ∨ q - usedLn l a < n then 70 else 0) else 20
noncomputable def chargeL (l : List Ln) (q : Int) (a : Lab) (n : Int) : List Ln := if chargeE l q a n = 0 then setLn l a (usedLn l a + n) else []
noncomputable def refundE (l : List Ln) (a : Lab) (n : Int) : Int := if rightLn l = true ∧ okL a = true then (if n < 0 ∨ usedLn l a < n then 70 else 0) else 20
noncomputable def refundL (l : List Ln) (a : Lab) (n : Int) : List Ln := if refundE l a n = 0 then setLn l a (usedLn l a - n) else []
theorem used_le {l : List Ln} (h : rightLn l = true) (a : Lab) : 0 ≤ usedLn l a ∧ usedLn l a ≤ 100000 := by
  obtain ⟨_, h2, _⟩ := right_iff.1 h
  unfold usedLn
  split
  · rename_i x hx
    have := h2 x (List.mem_of_find?_eq_some hx)
    unfold okLn at this
    simp only [Bool.and_eq_true, decide_eq_true_eq] at this
    omega
  · omega
set_option maxRecDepth 100000 in
set_option maxHeartbeats 8000000 in
theorem Charge_w (v : Value) (l : List Ln) (q : Int) (a : Lab) (n : Int) (w : World) (hl : LnsAt w v l) (hle : l.length ≤ 900) (hh : Handle w) :
    Calls Tryd.prog 13 #[v, .int .i64 q, .agg #[.int .i64 a.lv, .int .u64 (u a.c), .int .i64 a.ig], .int .i64 n] w fun e w' => ∃ v', e = .returned (.tuple #[v', .int .i64 (chargeE l q a n)]) ∧ OwnL w.heap.size w' v' (chargeL l q a n) ∧ Below w.heap.size w w' := by
  have HL := Lib.hid hl
  have HH := Lib.hid hh
  clear hl hh
  by_cases ho : rightLn l = true ∧ okL a = true
  · have HO := Lib.hid ho
    have HO2 := Lib.hid (right_iff.1 ho.1).1
    have hu0 := used_le ho.1 a
    obtain ⟨us, hus⟩ : ∃ us, usedLn l a = us := ⟨_, rfl⟩
    have HU := Lib.hid hus
    rw [hus] at hu0
    by_cases hbad : q < 0 ∨ 100000 < q ∨ n < 0 ∨ q - us < n
    · have HE : Hid (chargeE l q a n = 70) := Lib.hid (by unfold chargeE; rw [if_pos ho, hus, if_pos hbad])
      have HL0 : Hid (chargeL l q a n = []) := Lib.hid (by unfold chargeL; rw [HE.out]; rfl)
      clear ho hus
      by_cases h0 : q < 0
      · have d0 : decide (q < 0) = true := decide_eq_true h0
        clear hbad h0 hu0
        go_enter Tryd.func13, Tryd.ntmps13
        go_wp2_with fail
        refine wp_scope_fwd 0 rfl (fun J hJ => ?_)
        have HJ := Lib.hid hJ
        clear hJ
        go_wp2_with fail
        refine (open_w v l a _ (HL.out.later (below_alloc (Below.refl _ _) _) (by simp))).mono ?_
        rintro e w1 ⟨bb, A, rfl, hbb, hb, hl1, hB⟩
        have B1 := Lib.hid (below_call (w := w) (below_alloc (Below.refl _ _) _) hB)
        have X1 := Lib.hid ((Blk.new' rfl : Blk (w.alloc (.cells #[.int .i64 a.lv, .int .u64 (u a.c), .int .i64 a.ig] 25)) w.heap.size 25 #[.int .i64 a.lv, .int .u64 (u a.c), .int .i64 a.ig]).after hB)
        have HBB : Hid (w.heap.size < bb) := Lib.hid (by simp at hbb; omega)
        have L1 := Lib.hid (hl1.later hB hB.size)
        have HV := Lib.hid (show openV l a = .nilIface by unfold openV; rw [if_pos HO.out])
        rw [HV.out] at hb
        have BB := Lib.hid hb
        have p4 := hb.at_ (i := 4) (v := .nilIface) rfl
        have x0 := X1.out.at_ (i := 0) (v := .int .i64 a.lv) rfl
        have x1 := X1.out.at_ (i := 1) (v := .int .u64 (u a.c)) rfl
        have x2 := X1.out.at_ (i := 2) (v := .int .i64 a.ig) rfl
        clear hbb hb hl1 hB
        go_wp2_with fail
        refine (LUsed_w l v a _ (HL.out.later B1.out B1.out.size)).mono ?_
        rintro e w2 ⟨rfl, hB⟩
        rw [HU.out]
        have B2 := Lib.hid (below_call (w := w) B1.out hB)
        have BB2 := Lib.hid (BB.out.after hB)
        have L2 := Lib.hid (L1.out.later hB hB.size)
        have p5 := BB2.out.at_ (i := 4) (v := .nilIface) rfl
        have f5 := BB2.out.frozen 4
        clear hB p4 x0 x1 x2
        go_wp2_with fail
        refine wp_goto ⟨rfl, HJ.out _ _ ?_⟩
        have BB3 : Hid (Blk (w2.setCell ⟨bb, 4, none⟩ (.iface 55 (.agg #[.int .i64 70]))) bb 53 #[.slice A l.length l.length, .int .i64 a.lv, .int .u64 (u a.c), .int .i64 a.ig, wrongV 70]) := Lib.hid (BB2.out.set' rfl)
        have B3 : Hid (Below w.heap.size w (w2.setCell ⟨bb, 4, none⟩ (.iface 55 (.agg #[.int .i64 70])))) := Lib.hid (below_set B2.out (Nat.le_of_lt HBB.out) _)
        go_wp2_with fail
        refine (end_bad bb _ a 70 _ BB3.out (HH.out.up B3.out)).mono ?_
        rintro e w3 ⟨rfl, hB⟩
        have B4 := Lib.hid (below_call (w := w) B3.out hB)
        clear hB
        go_wp2_with fail
        rw [Exit.noGoto_ret]
        go_ret2
        exact ⟨_, by rw [HE.out]; rfl, by rw [HL0.out]; exact World.ownsRow_nil _ _ _ _, B4.out⟩
      · have d0 : decide (q < 0) = false := decide_eq_false h0
        by_cases h1 : 100000 < q
        · have d1 : decide (100000 < q) = true := decide_eq_true h1
          clear hbad h0 h1 hu0
          go_enter Tryd.func13, Tryd.ntmps13
          go_wp2_with fail
          refine wp_scope_fwd 0 rfl (fun J hJ => ?_)
          have HJ := Lib.hid hJ
          clear hJ
          go_wp2_with fail
          refine (open_w v l a _ (HL.out.later (below_alloc (Below.refl _ _) _) (by simp))).mono ?_
          rintro e w1 ⟨bb, A, rfl, hbb, hb, hl1, hB⟩
          have B1 := Lib.hid (below_call (w := w) (below_alloc (Below.refl _ _) _) hB)
          have X1 := Lib.hid ((Blk.new' rfl : Blk (w.alloc (.cells #[.int .i64 a.lv, .int .u64 (u a.c), .int .i64 a.ig] 25)) w.heap.size 25 #[.int .i64 a.lv, .int .u64 (u a.c), .int .i64 a.ig]).after hB)
          have HBB : Hid (w.heap.size < bb) := Lib.hid (by simp at hbb; omega)
          have L1 := Lib.hid (hl1.later hB hB.size)
          have HV := Lib.hid (show openV l a = .nilIface by unfold openV; rw [if_pos HO.out])
          rw [HV.out] at hb
          have BB := Lib.hid hb
          have p4 := hb.at_ (i := 4) (v := .nilIface) rfl
          have x0 := X1.out.at_ (i := 0) (v := .int .i64 a.lv) rfl
          have x1 := X1.out.at_ (i := 1) (v := .int .u64 (u a.c)) rfl
          have x2 := X1.out.at_ (i := 2) (v := .int .i64 a.ig) rfl
          clear hbb hb hl1 hB
          go_wp2_with fail
          refine (LUsed_w l v a _ (HL.out.later B1.out B1.out.size)).mono ?_
          rintro e w2 ⟨rfl, hB⟩
          rw [HU.out]
          have B2 := Lib.hid (below_call (w := w) B1.out hB)
          have BB2 := Lib.hid (BB.out.after hB)
          have L2 := Lib.hid (L1.out.later hB hB.size)
          have p5 := BB2.out.at_ (i := 4) (v := .nilIface) rfl
          have f5 := BB2.out.frozen 4
          clear hB p4 x0 x1 x2
          go_wp2_with fail
          refine wp_goto ⟨rfl, HJ.out _ _ ?_⟩
          have BB3 : Hid (Blk (w2.setCell ⟨bb, 4, none⟩ (.iface 55 (.agg #[.int .i64 70]))) bb 53 #[.slice A l.length l.length, .int .i64 a.lv, .int .u64 (u a.c), .int .i64 a.ig, wrongV 70]) := Lib.hid (BB2.out.set' rfl)
          have B3 : Hid (Below w.heap.size w (w2.setCell ⟨bb, 4, none⟩ (.iface 55 (.agg #[.int .i64 70])))) := Lib.hid (below_set B2.out (Nat.le_of_lt HBB.out) _)
          go_wp2_with fail
          refine (end_bad bb _ a 70 _ BB3.out (HH.out.up B3.out)).mono ?_
          rintro e w3 ⟨rfl, hB⟩
          have B4 := Lib.hid (below_call (w := w) B3.out hB)
          clear hB
          go_wp2_with fail
          rw [Exit.noGoto_ret]
          go_ret2
          exact ⟨_, by rw [HE.out]; rfl, by rw [HL0.out]; exact World.ownsRow_nil _ _ _ _, B4.out⟩
        · have d1 : decide (100000 < q) = false := decide_eq_false h1
          by_cases h2 : n < 0
          · have d2 : decide (n < 0) = true := decide_eq_true h2
            clear hbad h0 h1 h2 hu0
            go_enter Tryd.func13, Tryd.ntmps13
            go_wp2_with fail
            refine wp_scope_fwd 0 rfl (fun J hJ => ?_)
            have HJ := Lib.hid hJ
            clear hJ
            go_wp2_with fail
            refine (open_w v l a _ (HL.out.later (below_alloc (Below.refl _ _) _) (by simp))).mono ?_
            rintro e w1 ⟨bb, A, rfl, hbb, hb, hl1, hB⟩
            have B1 := Lib.hid (below_call (w := w) (below_alloc (Below.refl _ _) _) hB)
            have X1 := Lib.hid ((Blk.new' rfl : Blk (w.alloc (.cells #[.int .i64 a.lv, .int .u64 (u a.c), .int .i64 a.ig] 25)) w.heap.size 25 #[.int .i64 a.lv, .int .u64 (u a.c), .int .i64 a.ig]).after hB)
            have HBB : Hid (w.heap.size < bb) := Lib.hid (by simp at hbb; omega)
            have L1 := Lib.hid (hl1.later hB hB.size)
            have HV := Lib.hid (show openV l a = .nilIface by unfold openV; rw [if_pos HO.out])
            rw [HV.out] at hb
            have BB := Lib.hid hb
            have p4 := hb.at_ (i := 4) (v := .nilIface) rfl
            have x0 := X1.out.at_ (i := 0) (v := .int .i64 a.lv) rfl
            have x1 := X1.out.at_ (i := 1) (v := .int .u64 (u a.c)) rfl
            have x2 := X1.out.at_ (i := 2) (v := .int .i64 a.ig) rfl
            clear hbb hb hl1 hB
            go_wp2_with fail
            refine (LUsed_w l v a _ (HL.out.later B1.out B1.out.size)).mono ?_
            rintro e w2 ⟨rfl, hB⟩
            rw [HU.out]
            have B2 := Lib.hid (below_call (w := w) B1.out hB)
            have BB2 := Lib.hid (BB.out.after hB)
            have L2 := Lib.hid (L1.out.later hB hB.size)
            have p5 := BB2.out.at_ (i := 4) (v := .nilIface) rfl
            have f5 := BB2.out.frozen 4
            clear hB p4 x0 x1 x2
            go_wp2_with fail
            refine wp_goto ⟨rfl, HJ.out _ _ ?_⟩
            have BB3 : Hid (Blk (w2.setCell ⟨bb, 4, none⟩ (.iface 55 (.agg #[.int .i64 70]))) bb 53 #[.slice A l.length l.length, .int .i64 a.lv, .int .u64 (u a.c), .int .i64 a.ig, wrongV 70]) := Lib.hid (BB2.out.set' rfl)
            have B3 : Hid (Below w.heap.size w (w2.setCell ⟨bb, 4, none⟩ (.iface 55 (.agg #[.int .i64 70])))) := Lib.hid (below_set B2.out (Nat.le_of_lt HBB.out) _)
            go_wp2_with fail
            refine (end_bad bb _ a 70 _ BB3.out (HH.out.up B3.out)).mono ?_
            rintro e w3 ⟨rfl, hB⟩
            have B4 := Lib.hid (below_call (w := w) B3.out hB)
            clear hB
            go_wp2_with fail
            rw [Exit.noGoto_ret]
            go_ret2
            exact ⟨_, by rw [HE.out]; rfl, by rw [HL0.out]; exact World.ownsRow_nil _ _ _ _, B4.out⟩
          · have d2 : decide (n < 0) = false := decide_eq_false h2
            have e3 : IntKind.i64.wrap (q - us) = q - us := wrapI _ (by omega)
            have e3b : wrap64 (q - us) = q - us := by unfold wrap64; omega
            have d3 : decide (q - us < n) = true := decide_eq_true (by omega)
            clear hbad h0 h1 h2 hu0
            go_enter Tryd.func13, Tryd.ntmps13
            go_wp2_with fail
            refine wp_scope_fwd 0 rfl (fun J hJ => ?_)
            have HJ := Lib.hid hJ
            clear hJ
            go_wp2_with fail
            refine (open_w v l a _ (HL.out.later (below_alloc (Below.refl _ _) _) (by simp))).mono ?_
            rintro e w1 ⟨bb, A, rfl, hbb, hb, hl1, hB⟩
            have B1 := Lib.hid (below_call (w := w) (below_alloc (Below.refl _ _) _) hB)
            have X1 := Lib.hid ((Blk.new' rfl : Blk (w.alloc (.cells #[.int .i64 a.lv, .int .u64 (u a.c), .int .i64 a.ig] 25)) w.heap.size 25 #[.int .i64 a.lv, .int .u64 (u a.c), .int .i64 a.ig]).after hB)
            have HBB : Hid (w.heap.size < bb) := Lib.hid (by simp at hbb; omega)
            have L1 := Lib.hid (hl1.later hB hB.size)
            have HV := Lib.hid (show openV l a = .nilIface by unfold openV; rw [if_pos HO.out])
            rw [HV.out] at hb
            have BB := Lib.hid hb
            have p4 := hb.at_ (i := 4) (v := .nilIface) rfl
            have x0 := X1.out.at_ (i := 0) (v := .int .i64 a.lv) rfl
            have x1 := X1.out.at_ (i := 1) (v := .int .u64 (u a.c)) rfl
            have x2 := X1.out.at_ (i := 2) (v := .int .i64 a.ig) rfl
            clear hbb hb hl1 hB
            go_wp2_with fail
            refine (LUsed_w l v a _ (HL.out.later B1.out B1.out.size)).mono ?_
            rintro e w2 ⟨rfl, hB⟩
            rw [HU.out]
            have B2 := Lib.hid (below_call (w := w) B1.out hB)
            have BB2 := Lib.hid (BB.out.after hB)
            have L2 := Lib.hid (L1.out.later hB hB.size)
            have p5 := BB2.out.at_ (i := 4) (v := .nilIface) rfl
            have f5 := BB2.out.frozen 4
            clear hB p4 x0 x1 x2
            go_wp2_with fail
            refine wp_goto ⟨rfl, HJ.out _ _ ?_⟩
            have BB3 : Hid (Blk (w2.setCell ⟨bb, 4, none⟩ (.iface 55 (.agg #[.int .i64 70]))) bb 53 #[.slice A l.length l.length, .int .i64 a.lv, .int .u64 (u a.c), .int .i64 a.ig, wrongV 70]) := Lib.hid (BB2.out.set' rfl)
            have B3 : Hid (Below w.heap.size w (w2.setCell ⟨bb, 4, none⟩ (.iface 55 (.agg #[.int .i64 70])))) := Lib.hid (below_set B2.out (Nat.le_of_lt HBB.out) _)
            go_wp2_with fail
            refine (end_bad bb _ a 70 _ BB3.out (HH.out.up B3.out)).mono ?_
            rintro e w3 ⟨rfl, hB⟩
            have B4 := Lib.hid (below_call (w := w) B3.out hB)
            clear hB
            go_wp2_with fail
            rw [Exit.noGoto_ret]
            go_ret2
            exact ⟨_, by rw [HE.out]; rfl, by rw [HL0.out]; exact World.ownsRow_nil _ _ _ _, B4.out⟩
    · have HE : Hid (chargeE l q a n = 0) := Lib.hid (by unfold chargeE; rw [if_pos ho, hus, if_neg hbad])
      obtain ⟨m, hm⟩ : ∃ m, m = us + n := ⟨_, rfl⟩
      have HL0 : Hid (chargeL l q a n = setLn l a m) := Lib.hid (by unfold chargeL; rw [HE.out, hus, hm]; rfl)
      have HM : Hid (0 ≤ m) := Lib.hid (by omega)
      have d0 : decide (q < 0) = false := decide_eq_false (by omega)
      have d1 : decide (100000 < q) = false := decide_eq_false (by omega)
      have d2 : decide (n < 0) = false := decide_eq_false (by omega)
      have e3 : IntKind.i64.wrap (q - us) = q - us := wrapI _ (by omega)
      have e3b : wrap64 (q - us) = q - us := by unfold wrap64; omega
      have d3 : decide (q - us < n) = false := decide_eq_false (by omega)
      have e4 : IntKind.i64.wrap (us + n) = m := by rw [hm]; exact wrapI _ (by omega)
      have e4b : wrap64 (us + n) = m := by rw [hm]; unfold wrap64; omega
      clear ho hus hbad hu0 hm
      go_enter Tryd.func13, Tryd.ntmps13
      go_wp2_with fail
      refine wp_scope_fwd 0 rfl (fun J hJ => ?_)
      have HJ := Lib.hid hJ
      clear hJ
      go_wp2_with fail
      refine (open_w v l a _ (HL.out.later (below_alloc (Below.refl _ _) _) (by simp))).mono ?_
      rintro e w1 ⟨bb, A, rfl, hbb, hb, hl1, hB⟩
      have B1 := Lib.hid (below_call (w := w) (below_alloc (Below.refl _ _) _) hB)
      have X1 := Lib.hid ((Blk.new' rfl : Blk (w.alloc (.cells #[.int .i64 a.lv, .int .u64 (u a.c), .int .i64 a.ig] 25)) w.heap.size 25 #[.int .i64 a.lv, .int .u64 (u a.c), .int .i64 a.ig]).after hB)
      have HBB : Hid (w.heap.size < bb) := Lib.hid (by simp at hbb; omega)
      have L1 := Lib.hid (hl1.later hB hB.size)
      have HV := Lib.hid (show openV l a = .nilIface by unfold openV; rw [if_pos HO.out])
      rw [HV.out] at hb
      have BB := Lib.hid hb
      have p4 := hb.at_ (i := 4) (v := .nilIface) rfl
      have x0 := X1.out.at_ (i := 0) (v := .int .i64 a.lv) rfl
      have x1 := X1.out.at_ (i := 1) (v := .int .u64 (u a.c)) rfl
      have x2 := X1.out.at_ (i := 2) (v := .int .i64 a.ig) rfl
      clear hbb hb hl1 hB
      go_wp2_with fail
      refine (LUsed_w l v a _ (HL.out.later B1.out B1.out.size)).mono ?_
      rintro e w2 ⟨rfl, hB⟩
      rw [HU.out]
      have B2 := Lib.hid (below_call (w := w) B1.out hB)
      have BB2 := Lib.hid (BB.out.after hB)
      have L2 := Lib.hid (L1.out.later hB hB.size)
      have p5 := BB2.out.at_ (i := 4) (v := .nilIface) rfl
      have f5 := BB2.out.frozen 4
      clear hB p4 x0 x1 x2
      go_wp2_with fail
      refine (set_w bb _ a .nilIface l m _ BB2.out L2.out HO2.out hle HM.out).mono ?_
      rintro e w3 ⟨rfl, v3, hb3, ho3, hT3⟩
      obtain ⟨p3, c3, rfl⟩ := ho3.val
      have BB3 := Lib.hid hb3
      have O3 := Lib.hid ho3
      have B3 : Hid (Below w.heap.size w w3) := Lib.hid (B2.out.trans (hT3.down B2.out.size (fun k hk => by
        have := B2.out.size
        have := HBB.out
        rcases hk with e | e <;> omega)))
      have hz2 := B2.out.size
      clear hb3 ho3 hT3 p5 f5
      go_wp2_with fail
      go_step3
      go_wp2_with fail
      refine (end_ok bb p3 _ c3 a _ BB3.out (Nat.le_trans (set_len l a m) (by omega))).mono ?_
      rintro e w4 ⟨rfl, rfl⟩
      go_wp2_with fail
      rw [jump_ret]
      go_ret2
      exact ⟨_, by rw [HE.out]; rfl, by rw [HL0.out]; exact O3.out.base hz2, B3.out⟩
  · have HO := Lib.hid ho
    have HE : Hid (chargeE l q a n = 20) := Lib.hid (by unfold chargeE; rw [if_neg ho])
    have HL0 : Hid (chargeL l q a n = []) := Lib.hid (by unfold chargeL; rw [HE.out]; rfl)
    clear ho
    go_enter Tryd.func13, Tryd.ntmps13
    go_wp2_with fail
    refine wp_scope_fwd 0 rfl (fun J hJ => ?_)
    have HJ := Lib.hid hJ
    clear hJ
    go_wp2_with fail
    refine (open_w v l a _ (HL.out.later (below_alloc (Below.refl _ _) _) (by simp))).mono ?_
    rintro e w1 ⟨bb, A, rfl, hbb, hb, hl1, hB⟩
    have B1 := Lib.hid (below_call (w := w) (below_alloc (Below.refl _ _) _) hB)
    have X1 := Lib.hid ((Blk.new' rfl : Blk (w.alloc (.cells #[.int .i64 a.lv, .int .u64 (u a.c), .int .i64 a.ig] 25)) w.heap.size 25 #[.int .i64 a.lv, .int .u64 (u a.c), .int .i64 a.ig]).after hB)
    have HBB : Hid (w.heap.size < bb) := Lib.hid (by simp at hbb; omega)
    have L1 := Lib.hid (hl1.later hB hB.size)
    have HV := Lib.hid (show openV l a = wrongV 20 by unfold openV; rw [if_neg HO.out])
    rw [HV.out] at hb
    have BB := Lib.hid hb
    have p4 := hb.at_ (i := 4) (v := wrongV 20) rfl
    unfold wrongV at p4
    clear hbb hb hl1 hB
    go_wp2_with fail
    refine wp_goto ⟨rfl, HJ.out _ _ ?_⟩
    go_wp2_with fail
    refine (end_bad bb _ a 20 _ BB.out (HH.out.up B1.out)).mono ?_
    rintro e w2 ⟨rfl, hB⟩
    have B2 := Lib.hid (below_call (w := w) B1.out hB)
    clear hB
    go_wp2_with fail
    rw [Exit.noGoto_ret]
    go_ret2
    exact ⟨_, by rw [HE.out]; rfl, by rw [HL0.out]; exact World.ownsRow_nil _ _ _ _, B2.out⟩
set_option maxRecDepth 100000 in
set_option maxHeartbeats 8000000 in
theorem Refund_w (v : Value) (l : List Ln) (a : Lab) (n : Int) (w : World) (hl : LnsAt w v l) (hle : l.length ≤ 900) (hh : Handle w) :
    Calls Tryd.prog 15 #[v, .agg #[.int .i64 a.lv, .int .u64 (u a.c), .int .i64 a.ig], .int .i64 n] w fun e w' => ∃ v', e = .returned (.tuple #[v', .int .i64 (refundE l a n)]) ∧ OwnL w.heap.size w' v' (refundL l a n) ∧ Below w.heap.size w w' := by
  have HL := Lib.hid hl
  have HH := Lib.hid hh
  clear hl hh
  by_cases ho : rightLn l = true ∧ okL a = true
  · have HO := Lib.hid ho
    have HO2 := Lib.hid (right_iff.1 ho.1).1
    have hu0 := used_le ho.1 a
    obtain ⟨us, hus⟩ : ∃ us, usedLn l a = us := ⟨_, rfl⟩
    have HU := Lib.hid hus
    rw [hus] at hu0
    by_cases hbad : n < 0 ∨ us < n
    · have HE : Hid (refundE l a n = 70) := Lib.hid (by unfold refundE; rw [if_pos ho, hus, if_pos hbad])
      have HL0 : Hid (refundL l a n = []) := Lib.hid (by unfold refundL; rw [HE.out]; rfl)
      clear ho hus
      by_cases h0 : n < 0
      · have d0 : decide (n < 0) = true := decide_eq_true h0
        clear hbad h0 hu0
        go_enter Tryd.func15, Tryd.ntmps15
        go_wp2_with fail
        refine wp_scope_fwd 0 rfl (fun J hJ => ?_)
        have HJ := Lib.hid hJ
        clear hJ
        go_wp2_with fail
        refine (open_w v l a _ (HL.out.later (below_alloc (Below.refl _ _) _) (by simp))).mono ?_
        rintro e w1 ⟨bb, A, rfl, hbb, hb, hl1, hB⟩
        have B1 := Lib.hid (below_call (w := w) (below_alloc (Below.refl _ _) _) hB)
        have X1 := Lib.hid ((Blk.new' rfl : Blk (w.alloc (.cells #[.int .i64 a.lv, .int .u64 (u a.c), .int .i64 a.ig] 25)) w.heap.size 25 #[.int .i64 a.lv, .int .u64 (u a.c), .int .i64 a.ig]).after hB)
        have HBB : Hid (w.heap.size < bb) := Lib.hid (by simp at hbb; omega)
        have L1 := Lib.hid (hl1.later hB hB.size)
        have HV := Lib.hid (show openV l a = .nilIface by unfold openV; rw [if_pos HO.out])
        rw [HV.out] at hb
        have BB := Lib.hid hb
        have p4 := hb.at_ (i := 4) (v := .nilIface) rfl
        have x0 := X1.out.at_ (i := 0) (v := .int .i64 a.lv) rfl
        have x1 := X1.out.at_ (i := 1) (v := .int .u64 (u a.c)) rfl
        have x2 := X1.out.at_ (i := 2) (v := .int .i64 a.ig) rfl
        clear hbb hb hl1 hB
        go_wp2_with fail
        refine (LUsed_w l v a _ (HL.out.later B1.out B1.out.size)).mono ?_
        rintro e w2 ⟨rfl, hB⟩
        rw [HU.out]
        have B2 := Lib.hid (below_call (w := w) B1.out hB)
        have BB2 := Lib.hid (BB.out.after hB)
        have L2 := Lib.hid (L1.out.later hB hB.size)
        have p5 := BB2.out.at_ (i := 4) (v := .nilIface) rfl
        have f5 := BB2.out.frozen 4
        clear hB p4 x0 x1 x2
        go_wp2_with fail
        refine wp_goto ⟨rfl, HJ.out _ _ ?_⟩
        have BB3 : Hid (Blk (w2.setCell ⟨bb, 4, none⟩ (.iface 55 (.agg #[.int .i64 70]))) bb 53 #[.slice A l.length l.length, .int .i64 a.lv, .int .u64 (u a.c), .int .i64 a.ig, wrongV 70]) := Lib.hid (BB2.out.set' rfl)
        have B3 : Hid (Below w.heap.size w (w2.setCell ⟨bb, 4, none⟩ (.iface 55 (.agg #[.int .i64 70])))) := Lib.hid (below_set B2.out (Nat.le_of_lt HBB.out) _)
        go_wp2_with fail
        refine (end_bad bb _ a 70 _ BB3.out (HH.out.up B3.out)).mono ?_
        rintro e w3 ⟨rfl, hB⟩
        have B4 := Lib.hid (below_call (w := w) B3.out hB)
        clear hB
        go_wp2_with fail
        rw [Exit.noGoto_ret]
        go_ret2
        exact ⟨_, by rw [HE.out]; rfl, by rw [HL0.out]; exact World.ownsRow_nil _ _ _ _, B4.out⟩
      · have d0 : decide (n < 0) = false := decide_eq_false h0
        have d1 : decide (us < n) = true := decide_eq_true (by omega)
        clear hbad h0 hu0
        go_enter Tryd.func15, Tryd.ntmps15
        go_wp2_with fail
        refine wp_scope_fwd 0 rfl (fun J hJ => ?_)
        have HJ := Lib.hid hJ
        clear hJ
        go_wp2_with fail
        refine (open_w v l a _ (HL.out.later (below_alloc (Below.refl _ _) _) (by simp))).mono ?_
        rintro e w1 ⟨bb, A, rfl, hbb, hb, hl1, hB⟩
        have B1 := Lib.hid (below_call (w := w) (below_alloc (Below.refl _ _) _) hB)
        have X1 := Lib.hid ((Blk.new' rfl : Blk (w.alloc (.cells #[.int .i64 a.lv, .int .u64 (u a.c), .int .i64 a.ig] 25)) w.heap.size 25 #[.int .i64 a.lv, .int .u64 (u a.c), .int .i64 a.ig]).after hB)
        have HBB : Hid (w.heap.size < bb) := Lib.hid (by simp at hbb; omega)
        have L1 := Lib.hid (hl1.later hB hB.size)
        have HV := Lib.hid (show openV l a = .nilIface by unfold openV; rw [if_pos HO.out])
        rw [HV.out] at hb
        have BB := Lib.hid hb
        have p4 := hb.at_ (i := 4) (v := .nilIface) rfl
        have x0 := X1.out.at_ (i := 0) (v := .int .i64 a.lv) rfl
        have x1 := X1.out.at_ (i := 1) (v := .int .u64 (u a.c)) rfl
        have x2 := X1.out.at_ (i := 2) (v := .int .i64 a.ig) rfl
        clear hbb hb hl1 hB
        go_wp2_with fail
        refine (LUsed_w l v a _ (HL.out.later B1.out B1.out.size)).mono ?_
        rintro e w2 ⟨rfl, hB⟩
        rw [HU.out]
        have B2 := Lib.hid (below_call (w := w) B1.out hB)
        have BB2 := Lib.hid (BB.out.after hB)
        have L2 := Lib.hid (L1.out.later hB hB.size)
        have p5 := BB2.out.at_ (i := 4) (v := .nilIface) rfl
        have f5 := BB2.out.frozen 4
        clear hB p4 x0 x1 x2
        go_wp2_with fail
        refine wp_goto ⟨rfl, HJ.out _ _ ?_⟩
        have BB3 : Hid (Blk (w2.setCell ⟨bb, 4, none⟩ (.iface 55 (.agg #[.int .i64 70]))) bb 53 #[.slice A l.length l.length, .int .i64 a.lv, .int .u64 (u a.c), .int .i64 a.ig, wrongV 70]) := Lib.hid (BB2.out.set' rfl)
        have B3 : Hid (Below w.heap.size w (w2.setCell ⟨bb, 4, none⟩ (.iface 55 (.agg #[.int .i64 70])))) := Lib.hid (below_set B2.out (Nat.le_of_lt HBB.out) _)
        go_wp2_with fail
        refine (end_bad bb _ a 70 _ BB3.out (HH.out.up B3.out)).mono ?_
        rintro e w3 ⟨rfl, hB⟩
        have B4 := Lib.hid (below_call (w := w) B3.out hB)
        clear hB
        go_wp2_with fail
        rw [Exit.noGoto_ret]
        go_ret2
        exact ⟨_, by rw [HE.out]; rfl, by rw [HL0.out]; exact World.ownsRow_nil _ _ _ _, B4.out⟩
    · have HE : Hid (refundE l a n = 0) := Lib.hid (by unfold refundE; rw [if_pos ho, hus, if_neg hbad])
      obtain ⟨m, hm⟩ : ∃ m, m = us - n := ⟨_, rfl⟩
      have HL0 : Hid (refundL l a n = setLn l a m) := Lib.hid (by unfold refundL; rw [HE.out, hus, hm]; rfl)
      have HM : Hid (0 ≤ m) := Lib.hid (by omega)
      have d0 : decide (n < 0) = false := decide_eq_false (by omega)
      have d1 : decide (us < n) = false := decide_eq_false (by omega)
      have e4 : IntKind.i64.wrap (us - n) = m := by rw [hm]; exact wrapI _ (by omega)
      have e4b : wrap64 (us - n) = m := by rw [hm]; unfold wrap64; omega
      clear ho hus hbad hu0 hm
      go_enter Tryd.func15, Tryd.ntmps15
      go_wp2_with fail
      refine wp_scope_fwd 0 rfl (fun J hJ => ?_)
      have HJ := Lib.hid hJ
      clear hJ
      go_wp2_with fail
      refine (open_w v l a _ (HL.out.later (below_alloc (Below.refl _ _) _) (by simp))).mono ?_
      rintro e w1 ⟨bb, A, rfl, hbb, hb, hl1, hB⟩
      have B1 := Lib.hid (below_call (w := w) (below_alloc (Below.refl _ _) _) hB)
      have X1 := Lib.hid ((Blk.new' rfl : Blk (w.alloc (.cells #[.int .i64 a.lv, .int .u64 (u a.c), .int .i64 a.ig] 25)) w.heap.size 25 #[.int .i64 a.lv, .int .u64 (u a.c), .int .i64 a.ig]).after hB)
      have HBB : Hid (w.heap.size < bb) := Lib.hid (by simp at hbb; omega)
      have L1 := Lib.hid (hl1.later hB hB.size)
      have HV := Lib.hid (show openV l a = .nilIface by unfold openV; rw [if_pos HO.out])
      rw [HV.out] at hb
      have BB := Lib.hid hb
      have p4 := hb.at_ (i := 4) (v := .nilIface) rfl
      have x0 := X1.out.at_ (i := 0) (v := .int .i64 a.lv) rfl
      have x1 := X1.out.at_ (i := 1) (v := .int .u64 (u a.c)) rfl
      have x2 := X1.out.at_ (i := 2) (v := .int .i64 a.ig) rfl
      clear hbb hb hl1 hB
      go_wp2_with fail
      refine (LUsed_w l v a _ (HL.out.later B1.out B1.out.size)).mono ?_
      rintro e w2 ⟨rfl, hB⟩
      rw [HU.out]
      have B2 := Lib.hid (below_call (w := w) B1.out hB)
      have BB2 := Lib.hid (BB.out.after hB)
      have L2 := Lib.hid (L1.out.later hB hB.size)
      have p5 := BB2.out.at_ (i := 4) (v := .nilIface) rfl
      have f5 := BB2.out.frozen 4
      clear hB p4 x0 x1 x2
      go_wp2_with fail
      refine (set_w bb _ a .nilIface l m _ BB2.out L2.out HO2.out hle HM.out).mono ?_
      rintro e w3 ⟨rfl, v3, hb3, ho3, hT3⟩
      obtain ⟨p3, c3, rfl⟩ := ho3.val
      have BB3 := Lib.hid hb3
      have O3 := Lib.hid ho3
      have B3 : Hid (Below w.heap.size w w3) := Lib.hid (B2.out.trans (hT3.down B2.out.size (fun k hk => by
        have := B2.out.size
        have := HBB.out
        rcases hk with e | e <;> omega)))
      have hz2 := B2.out.size
      clear hb3 ho3 hT3 p5 f5
      go_wp2_with fail
      go_step3
      go_wp2_with fail
      refine (end_ok bb p3 _ c3 a _ BB3.out (Nat.le_trans (set_len l a m) (by omega))).mono ?_
      rintro e w4 ⟨rfl, rfl⟩
      go_wp2_with fail
      rw [jump_ret]
      go_ret2
      exact ⟨_, by rw [HE.out]; rfl, by rw [HL0.out]; exact O3.out.base hz2, B3.out⟩
  · have HO := Lib.hid ho
    have HE : Hid (refundE l a n = 20) := Lib.hid (by unfold refundE; rw [if_neg ho])
    have HL0 : Hid (refundL l a n = []) := Lib.hid (by unfold refundL; rw [HE.out]; rfl)
    clear ho
    go_enter Tryd.func15, Tryd.ntmps15
    go_wp2_with fail
    refine wp_scope_fwd 0 rfl (fun J hJ => ?_)
    have HJ := Lib.hid hJ
    clear hJ
    go_wp2_with fail
    refine (open_w v l a _ (HL.out.later (below_alloc (Below.refl _ _) _) (by simp))).mono ?_
    rintro e w1 ⟨bb, A, rfl, hbb, hb, hl1, hB⟩
    have B1 := Lib.hid (below_call (w := w) (below_alloc (Below.refl _ _) _) hB)
    have X1 := Lib.hid ((Blk.new' rfl : Blk (w.alloc (.cells #[.int .i64 a.lv, .int .u64 (u a.c), .int .i64 a.ig] 25)) w.heap.size 25 #[.int .i64 a.lv, .int .u64 (u a.c), .int .i64 a.ig]).after hB)
    have HBB : Hid (w.heap.size < bb) := Lib.hid (by simp at hbb; omega)
    have L1 := Lib.hid (hl1.later hB hB.size)
    have HV := Lib.hid (show openV l a = wrongV 20 by unfold openV; rw [if_neg HO.out])
    rw [HV.out] at hb
    have BB := Lib.hid hb
    have p4 := hb.at_ (i := 4) (v := wrongV 20) rfl
    unfold wrongV at p4
    clear hbb hb hl1 hB
    go_wp2_with fail
    refine wp_goto ⟨rfl, HJ.out _ _ ?_⟩
    go_wp2_with fail
    refine (end_bad bb _ a 20 _ BB.out (HH.out.up B1.out)).mono ?_
    rintro e w2 ⟨rfl, hB⟩
    have B2 := Lib.hid (below_call (w := w) B1.out hB)
    clear hB
    go_wp2_with fail
    rw [Exit.noGoto_ret]
    go_ret2
    exact ⟨_, by rw [HE.out]; rfl, by rw [HL0.out]; exact World.ownsRow_nil _ _ _ _, B2.out⟩
end Go.Proofs.YtbggaijjgnjknaaDoor
