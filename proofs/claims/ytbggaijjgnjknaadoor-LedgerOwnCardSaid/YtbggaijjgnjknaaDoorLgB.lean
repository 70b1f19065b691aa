/-
  PACKAGE ledger: Right.
-/
import Derived.Test.YtbggaijjgnjknaaDoorLgA
import Derived.Test.YtbggaijjgnjknaaDoorTabs
import Derived.Test.YtbggaijjgnjknaaDoorStep
import Derived.Test.YtbggaijjgnjknaaDoorRange
import Derived.Test.YtbggaijjgnjknaaDoorEls
import Derived.LoopN
namespace Go.Proofs.YtbggaijjgnjknaaDoor
open Go.RowKit

attribute [local go_sem] u_and u_or u_andNot u_add u_sub u_bit u_eq_zero u_beq
theorem wrapI (n : Int) (h : -9223372036854775808 ≤ n ∧ n ≤ 9223372036854775807) : IntKind.i64.wrap n = n := by simp [IntKind.wrap, IntKind.bits, IntKind.signed]; omega
abbrev LnsAt (w : World) (v : Value) (l : List Ln) : Prop := RowsAt encLn 4 w.heap.size w v l
theorem isRight_w (x : Ln) (w : World) :
    Calls Tryd.prog 36 #[.agg #[.int .i64 x.a.lv, .int .u64 (u x.a.c), .int .i64 x.a.ig, .int .i64 x.n]] w fun e w' => e = .returned (.bool (okLn x)) ∧ Below w.heap.size w w' := by
  have X : Blk (w.alloc (.cells #[.int .i64 x.a.lv, .int .u64 (u x.a.c), .int .i64 x.a.ig, .int .i64 x.n] 42)) w.heap.size 42 #[.int .i64 x.a.lv, .int .u64 (u x.a.c), .int .i64 x.a.ig, .int .i64 x.n] := Blk.new' rfl
  have c0 := X.at_ (i := 0) (v := .int .i64 x.a.lv) rfl
  have c1 := X.at_ (i := 1) (v := .int .u64 (u x.a.c)) rfl
  have c2 := X.at_ (i := 2) (v := .int .i64 x.a.ig) rfl
  have HX := Lib.hid X
  clear X
  cases ho : okL x.a
  · have HR : Hid (okLn x = false) := Lib.hid (by unfold okLn; rw [ho]; rfl)
    have HO := Lib.hid ho
    clear ho
    go_enter Tryd.func36, Tryd.ntmps36
    go_wp2_with fail
    refine (Right_any x.a _).mono ?_
    rintro e w1 ⟨rfl, hB⟩
    rw [HO.out]
    have B := Lib.hid (below_call (w := w) (below_alloc (Below.refl _ _) _) hB)
    clear hB
    go_wp2_with fail
    go_ret
    exact ⟨by rw [HR.out]; rfl, B.out⟩
  · by_cases h1 : 1 ≤ x.n
    · have HR : Hid (okLn x = decide (x.n ≤ 100000)) := Lib.hid (by unfold okLn; rw [ho, decide_eq_true h1]; rfl)
      have HO := Lib.hid ho
      have d1 : decide (1 ≤ x.n) = true := decide_eq_true h1
      clear ho h1
      go_enter Tryd.func36, Tryd.ntmps36
      go_wp2_with fail
      refine (Right_any x.a _).mono ?_
      rintro e w1 ⟨rfl, hB⟩
      rw [HO.out]
      have B := Lib.hid (below_call (w := w) (below_alloc (Below.refl _ _) _) hB)
      have c3 := (HX.out.after hB).at_ (i := 3) (v := .int .i64 x.n) rfl
      clear hB c0 c1 c2
      go_wp2_with fail
      go_ret
      exact ⟨by rw [HR.out]; rfl, B.out⟩
    · have HR : Hid (okLn x = false) := Lib.hid (by unfold okLn; rw [ho, decide_eq_false h1]; rfl)
      have HO := Lib.hid ho
      have d1 : decide (1 ≤ x.n) = false := decide_eq_false h1
      clear ho h1
      go_enter Tryd.func36, Tryd.ntmps36
      go_wp2_with fail
      refine (Right_any x.a _).mono ?_
      rintro e w1 ⟨rfl, hB⟩
      rw [HO.out]
      have B := Lib.hid (below_call (w := w) (below_alloc (Below.refl _ _) _) hB)
      have c3 := (HX.out.after hB).at_ (i := 3) (v := .int .i64 x.n) rfl
      clear hB c0 c1 c2
      go_wp2_with fail
      go_ret
      exact ⟨by rw [HR.out]; rfl, B.out⟩
theorem right_no {l : List Ln} (h : ¬ goodTo l l.length) : rightLn l = false := by unfold rightLn; rw [decide_eq_false h]; rfl
set_option maxRecDepth 100000 in
set_option maxHeartbeats 8000000 in
theorem LRight_w (v : Value) (l : List Ln) (w : World) (hl : LnsAt w v l) :
    Calls Tryd.prog 19 #[v] w fun e w' => e = .returned (.bool (rightLn l)) ∧ Below w.heap.size w w' := by
  obtain ⟨A, cA, rfl, hcA, hsc, _⟩ := hl.slice
  have HL := Lib.hid hl
  clear hl
  go_enter Tryd.func19, Tryd.ntmps19
  go_wp2_with fail
  go_loopw [7] (fun s wr => ∃ k : Nat, s = .int .i64 k ∧ k ≤ l.length ∧ goodTo l k ∧ Below w.heap.size w wr) (fun s _ => l.length - (intOf s).toNat)
  case atStart => exact ⟨0, rfl, Nat.zero_le _, goodTo_zero l, Below.refl _ _⟩
  case round =>
    obtain ⟨k, rfl, hk, hg, hB⟩ := hrel
    have B := Lib.hid hB
    have HG := Lib.hid hg
    clear hB hg
    by_cases hkl : k < l.length
    · obtain ⟨x, hx⟩ : ∃ x, l[k]? = some x := ⟨_, List.getElem?_eq_getElem hkl⟩
      obtain ⟨b, off, rfl, _, he⟩ := (HL.out.later B.out B.out.size).el hx (Nat.le_refl _)
      have HX := Lib.hid hx
      have HLT := Lib.hid hkl
      have k0 : (0 : Int) ≤ (k : Int) := by omega
      have k1 : (k : Int) < (l.length : Int) := by omega
      have e10 : IntKind.i64.wrap ((k : Int) + 1) = ((k + 1 : Nat) : Int) := wrapI _ (by omega)
      have c0 : wr.cell? ⟨b, off + k * 4, none⟩ = some (.int .i64 x.a.lv) := he.at_ (i := 0) rfl
      have c1 : wr.cell? ⟨b, off + k * 4 + 1, none⟩ = some (.int .u64 (u x.a.c)) := he.at_ (i := 1) rfl
      have c2 : wr.cell? ⟨b, off + k * 4 + 2, none⟩ = some (.int .i64 x.a.ig) := he.at_ (i := 2) rfl
      have c3 : wr.cell? ⟨b, off + k * 4 + 3, none⟩ = some (.int .i64 x.n) := he.at_ (i := 3) rfl
      clear he hx hkl hk
      cases ho : okLn x
      · have HO := Lib.hid ho
        have HR : Hid (rightLn l = false) := Lib.hid (right_no (fun h => by have := (h k x HLT.out HX.out).1; rw [ho] at this; cases this))
        clear ho
        go_wp2_with fail
        clear c0 c1 c2 c3
        have XB : Hid (Blk (wr.alloc (.cells #[.int .i64 x.a.lv, .int .u64 (u x.a.c), .int .i64 x.a.ig, .int .i64 x.n] 42)) wr.heap.size 42 #[.int .i64 x.a.lv, .int .u64 (u x.a.c), .int .i64 x.a.ig, .int .i64 x.n]) := Lib.hid (Blk.new' rfl)
        refine wp_region_gen2 (S := fun W' => Blk W' wr.heap.size 42 #[.int .i64 x.a.lv, .int .u64 (u x.a.c), .int .i64 x.a.ig, .int .i64 x.n]) (N := fun W' => Below w.heap.size w W') (by kernel_rfl) XB.out.drew (below_alloc B.out _).drew (fun w1 hS hN => ?_)
        have B1 := Lib.hid hN
        clear hN
        refine wpAnyH_take (i := 0) (v := ?_) (op_at rfl) (by kernel_rfl) (by kernel_rfl) (by kernel_rfl) (fun _ _ _ h => h) (Or.inl ⟨by rfl, ?_⟩) hS ?_; rotate_left; focus ((intro w' hSw; have q := hSw; have c0 := q.at_ (i := 0) (v := .int .i64 x.a.lv) rfl; have c1 := q.at_ (i := 1) (v := .int .u64 (u x.a.c)) rfl; have c2 := q.at_ (i := 2) (v := .int .i64 x.a.ig) rfl; have c3 := q.at_ (i := 3) (v := .int .i64 x.n) rfl; clear q; clear hSw; go_simp) <;> with_reducible rfl)
        try simp only [Act.put, List.setIfInBounds_toArray, List.set_cons_zero, List.set_cons_succ]
        refine wpAnyH_ready (rs := [1]) (by kernel_rfl) (by simp) ?_
        refine (AllReadyH.cons (op_at rfl) (fun K hK => ?_) AllReadyH.nil)
        go_simp
        refine (isRight_w x _).mono ?_
        rintro e w2 ⟨rfl, hB⟩
        rw [HO.out]
        have B2 := Lib.hid (below_call (w := w) B1.out hB)
        refine hK.out _ _ (Blk.after hS hB) (fun hS => ?_)
        clear hK K hB
        try simp only [Act.put, List.setIfInBounds_toArray, List.set_cons_zero, List.set_cons_succ]
        refine wpAnyH_take (i := 2) (v := ?_) (op_at rfl) (by kernel_rfl) (by kernel_rfl) (by kernel_rfl) (fun _ _ _ h => h) (Or.inl ⟨by rfl, ?_⟩) hS ?_; rotate_left; focus ((intro w' hSw; clear hSw; go_simp) <;> with_reducible rfl)
        try simp only [Act.put, List.setIfInBounds_toArray, List.set_cons_zero, List.set_cons_succ]
        refine wpAnyH_take (i := 3) (v := ?_) (op_at rfl) (by kernel_rfl) (by kernel_rfl) (by kernel_rfl) (fun _ _ _ h => h) (Or.inl ⟨by rfl, ?_⟩) hS ?_; rotate_left; focus ((intro w' hSw; clear hSw; go_simp) <;> with_reducible rfl)
        try simp only [Act.put, List.setIfInBounds_toArray, List.set_cons_zero, List.set_cons_succ]
        refine wpAnyH_take (i := 4) (v := undef) (op_at rfl) (by kernel_rfl) (by kernel_rfl) (by kernel_rfl) (fun _ _ _ h => h) (Or.inr ⟨by rfl, rfl⟩) hS ?_
        try simp only [Act.put, List.setIfInBounds_toArray, List.set_cons_zero, List.set_cons_succ]
        refine wpAnyH_take (i := 5) (v := undef) (op_at rfl) (by kernel_rfl) (by kernel_rfl) (by kernel_rfl) (fun _ _ _ h => h) (Or.inr ⟨by rfl, rfl⟩) hS ?_
        try simp only [Act.put, List.setIfInBounds_toArray, List.set_cons_zero, List.set_cons_succ]
        refine wpAnyH_take (i := 6) (v := undef) (op_at rfl) (by kernel_rfl) (by kernel_rfl) (by kernel_rfl) (fun _ _ _ h => h) (Or.inr ⟨by rfl, rfl⟩) hS ?_
        try simp only [Act.put, List.setIfInBounds_toArray, List.set_cons_zero, List.set_cons_succ]
        refine wpAnyH_take (i := 7) (v := undef) (op_at rfl) (by kernel_rfl) (by kernel_rfl) (by kernel_rfl) (fun _ _ _ h => h) (Or.inr ⟨by rfl, rfl⟩) hS ?_
        try simp only [Act.put, List.setIfInBounds_toArray, List.set_cons_zero, List.set_cons_succ]
        refine wpAnyH_take (i := 8) (v := undef) (op_at rfl) (by kernel_rfl) (by kernel_rfl) (by kernel_rfl) (fun _ _ _ h => h) (Or.inr ⟨by rfl, rfl⟩) hS ?_
        try simp only [Act.put, List.setIfInBounds_toArray, List.set_cons_zero, List.set_cons_succ]
        refine wpAnyH_take (i := 9) (v := undef) (op_at rfl) (by kernel_rfl) (by kernel_rfl) (by kernel_rfl) (fun _ _ _ h => h) (Or.inr ⟨by rfl, rfl⟩) hS ?_
        try simp only [Act.put, List.setIfInBounds_toArray, List.set_cons_zero, List.set_cons_succ]
        refine wpAnyH_take (i := 10) (v := undef) (op_at rfl) (by kernel_rfl) (by kernel_rfl) (by kernel_rfl) (fun _ _ _ h => h) (Or.inr ⟨by rfl, rfl⟩) hS ?_
        try simp only [Act.put, List.setIfInBounds_toArray, List.set_cons_zero, List.set_cons_succ]
        refine wpAnyH_take (i := 11) (v := undef) (op_at rfl) (by kernel_rfl) (by kernel_rfl) (by kernel_rfl) (fun _ _ _ h => h) (Or.inr ⟨by rfl, rfl⟩) hS ?_
        try simp only [Act.put, List.setIfInBounds_toArray, List.set_cons_zero, List.set_cons_succ]
        refine wpAnyH_take (i := 12) (v := undef) (op_at rfl) (by kernel_rfl) (by kernel_rfl) (by kernel_rfl) (fun _ _ _ h => h) (Or.inr ⟨by rfl, rfl⟩) hS ?_
        try simp only [Act.put, List.setIfInBounds_toArray, List.set_cons_zero, List.set_cons_succ]
        refine wpAnyH_take (i := 13) (v := undef) (op_at rfl) (by kernel_rfl) (by kernel_rfl) (by kernel_rfl) (fun _ _ _ h => h) (Or.inr ⟨by rfl, rfl⟩) hS ?_
        try simp only [Act.put, List.setIfInBounds_toArray, List.set_cons_zero, List.set_cons_succ]
        refine wpAnyH_take (i := 14) (v := undef) (op_at rfl) (by kernel_rfl) (by kernel_rfl) (by kernel_rfl) (fun _ _ _ h => h) (Or.inr ⟨by rfl, rfl⟩) hS ?_
        try simp only [Act.put, List.setIfInBounds_toArray, List.set_cons_zero, List.set_cons_succ]
        refine wpAnyH_take (i := 15) (v := undef) (op_at rfl) (by kernel_rfl) (by kernel_rfl) (by kernel_rfl) (fun _ _ _ h => h) (Or.inr ⟨by rfl, rfl⟩) hS ?_
        try simp only [Act.put, List.setIfInBounds_toArray, List.set_cons_zero, List.set_cons_succ]
        refine wpAnyH_take (i := 16) (v := undef) (op_at rfl) (by kernel_rfl) (by kernel_rfl) (by kernel_rfl) (fun _ _ _ h => h) (Or.inr ⟨by rfl, rfl⟩) hS ?_
        try simp only [Act.put, List.setIfInBounds_toArray, List.set_cons_zero, List.set_cons_succ]
        refine wpAnyH_take (i := 17) (v := undef) (op_at rfl) (by kernel_rfl) (by kernel_rfl) (by kernel_rfl) (fun _ _ _ h => h) (Or.inr ⟨by rfl, rfl⟩) hS ?_
        try simp only [Act.put, List.setIfInBounds_toArray, List.set_cons_zero, List.set_cons_succ]
        refine wpAnyH_take (i := 18) (v := ?_) (op_at rfl) (by kernel_rfl) (by kernel_rfl) (by kernel_rfl) (fun _ _ _ h => h) (Or.inl ⟨by rfl, ?_⟩) hS ?_; rotate_left; focus ((intro w' hSw; clear hSw; go_simp) <;> with_reducible rfl)
        try simp only [Act.put, List.setIfInBounds_toArray, List.set_cons_zero, List.set_cons_succ]
        refine wpAnyH_done (by kernel_rfl) ?_ _
        go_wp2_with fail
        go_ret
        exact ⟨by rw [HR.out]; rfl, B2.out⟩
      · have HO := Lib.hid ho
        by_cases hz : k = 0
        · have HG1 : Hid (goodTo l (k + 1)) := Lib.hid (goodTo_next HG.out HX.out ho (fun j y e => absurd e (by omega)))
          have e13 : decide ((0 : Int) < (k : Int)) = false := decide_eq_false (by omega)
          have e14 : ¬ ((0 : Int) < (k : Int)) := by omega
          have e15 : decide (0 < k) = false := decide_eq_false (by omega)
          clear ho hz
          go_wp2_with fail
          clear c0 c1 c2 c3
          have XB : Hid (Blk (wr.alloc (.cells #[.int .i64 x.a.lv, .int .u64 (u x.a.c), .int .i64 x.a.ig, .int .i64 x.n] 42)) wr.heap.size 42 #[.int .i64 x.a.lv, .int .u64 (u x.a.c), .int .i64 x.a.ig, .int .i64 x.n]) := Lib.hid (Blk.new' rfl)
          refine wp_region_gen2 (S := fun W' => Blk W' wr.heap.size 42 #[.int .i64 x.a.lv, .int .u64 (u x.a.c), .int .i64 x.a.ig, .int .i64 x.n]) (N := fun W' => Below w.heap.size w W') (by kernel_rfl) XB.out.drew (below_alloc B.out _).drew (fun w1 hS hN => ?_)
          have B1 := Lib.hid hN
          clear hN
          refine wpAnyH_take (i := 0) (v := ?_) (op_at rfl) (by kernel_rfl) (by kernel_rfl) (by kernel_rfl) (fun _ _ _ h => h) (Or.inl ⟨by rfl, ?_⟩) hS ?_; rotate_left; focus ((intro w' hSw; have q := hSw; have c0 := q.at_ (i := 0) (v := .int .i64 x.a.lv) rfl; have c1 := q.at_ (i := 1) (v := .int .u64 (u x.a.c)) rfl; have c2 := q.at_ (i := 2) (v := .int .i64 x.a.ig) rfl; have c3 := q.at_ (i := 3) (v := .int .i64 x.n) rfl; clear q; clear hSw; go_simp) <;> with_reducible rfl)
          try simp only [Act.put, List.setIfInBounds_toArray, List.set_cons_zero, List.set_cons_succ]
          refine wpAnyH_ready (rs := [1]) (by kernel_rfl) (by simp) ?_
          refine (AllReadyH.cons (op_at rfl) (fun K hK => ?_) AllReadyH.nil)
          go_simp
          refine (isRight_w x _).mono ?_
          rintro e w2 ⟨rfl, hB⟩
          rw [HO.out]
          have B2 := Lib.hid (below_call (w := w) B1.out hB)
          refine hK.out _ _ (Blk.after hS hB) (fun hS => ?_)
          clear hK K hB
          try simp only [Act.put, List.setIfInBounds_toArray, List.set_cons_zero, List.set_cons_succ]
          refine wpAnyH_take (i := 2) (v := ?_) (op_at rfl) (by kernel_rfl) (by kernel_rfl) (by kernel_rfl) (fun _ _ _ h => h) (Or.inl ⟨by rfl, ?_⟩) hS ?_; rotate_left; focus ((intro w' hSw; clear hSw; go_simp) <;> with_reducible rfl)
          try simp only [Act.put, List.setIfInBounds_toArray, List.set_cons_zero, List.set_cons_succ]
          refine wpAnyH_take (i := 3) (v := ?_) (op_at rfl) (by kernel_rfl) (by kernel_rfl) (by kernel_rfl) (fun _ _ _ h => h) (Or.inl ⟨by rfl, ?_⟩) hS ?_; rotate_left; focus ((intro w' hSw; clear hSw; go_simp) <;> with_reducible rfl)
          try simp only [Act.put, List.setIfInBounds_toArray, List.set_cons_zero, List.set_cons_succ]
          refine wpAnyH_take (i := 4) (v := ?_) (op_at rfl) (by kernel_rfl) (by kernel_rfl) (by kernel_rfl) (fun _ _ _ h => h) (Or.inl ⟨by rfl, ?_⟩) hS ?_; rotate_left; focus ((intro w' hSw; clear hSw; go_simp) <;> with_reducible rfl)
          try simp only [Act.put, List.setIfInBounds_toArray, List.set_cons_zero, List.set_cons_succ]
          refine wpAnyH_take (i := 5) (v := ?_) (op_at rfl) (by kernel_rfl) (by kernel_rfl) (by kernel_rfl) (fun _ _ _ h => h) (Or.inl ⟨by rfl, ?_⟩) hS ?_; rotate_left; focus ((intro w' hSw; clear hSw; go_simp) <;> with_reducible rfl)
          try simp only [Act.put, List.setIfInBounds_toArray, List.set_cons_zero, List.set_cons_succ]
          refine wpAnyH_take (i := 6) (v := ?_) (op_at rfl) (by kernel_rfl) (by kernel_rfl) (by kernel_rfl) (fun _ _ _ h => h) (Or.inl ⟨by rfl, ?_⟩) hS ?_; rotate_left; focus ((intro w' hSw; clear hSw; go_simp) <;> with_reducible rfl)
          try simp only [Act.put, List.setIfInBounds_toArray, List.set_cons_zero, List.set_cons_succ]
          refine wpAnyH_take (i := 7) (v := undef) (op_at rfl) (by kernel_rfl) (by kernel_rfl) (by kernel_rfl) (fun _ _ _ h => h) (Or.inr ⟨by rfl, rfl⟩) hS ?_
          try simp only [Act.put, List.setIfInBounds_toArray, List.set_cons_zero, List.set_cons_succ]
          refine wpAnyH_take (i := 8) (v := undef) (op_at rfl) (by kernel_rfl) (by kernel_rfl) (by kernel_rfl) (fun _ _ _ h => h) (Or.inr ⟨by rfl, rfl⟩) hS ?_
          try simp only [Act.put, List.setIfInBounds_toArray, List.set_cons_zero, List.set_cons_succ]
          refine wpAnyH_take (i := 9) (v := undef) (op_at rfl) (by kernel_rfl) (by kernel_rfl) (by kernel_rfl) (fun _ _ _ h => h) (Or.inr ⟨by rfl, rfl⟩) hS ?_
          try simp only [Act.put, List.setIfInBounds_toArray, List.set_cons_zero, List.set_cons_succ]
          refine wpAnyH_take (i := 10) (v := undef) (op_at rfl) (by kernel_rfl) (by kernel_rfl) (by kernel_rfl) (fun _ _ _ h => h) (Or.inr ⟨by rfl, rfl⟩) hS ?_
          try simp only [Act.put, List.setIfInBounds_toArray, List.set_cons_zero, List.set_cons_succ]
          refine wpAnyH_take (i := 11) (v := undef) (op_at rfl) (by kernel_rfl) (by kernel_rfl) (by kernel_rfl) (fun _ _ _ h => h) (Or.inr ⟨by rfl, rfl⟩) hS ?_
          try simp only [Act.put, List.setIfInBounds_toArray, List.set_cons_zero, List.set_cons_succ]
          refine wpAnyH_take (i := 12) (v := undef) (op_at rfl) (by kernel_rfl) (by kernel_rfl) (by kernel_rfl) (fun _ _ _ h => h) (Or.inr ⟨by rfl, rfl⟩) hS ?_
          try simp only [Act.put, List.setIfInBounds_toArray, List.set_cons_zero, List.set_cons_succ]
          refine wpAnyH_take (i := 13) (v := undef) (op_at rfl) (by kernel_rfl) (by kernel_rfl) (by kernel_rfl) (fun _ _ _ h => h) (Or.inr ⟨by rfl, rfl⟩) hS ?_
          try simp only [Act.put, List.setIfInBounds_toArray, List.set_cons_zero, List.set_cons_succ]
          refine wpAnyH_take (i := 14) (v := undef) (op_at rfl) (by kernel_rfl) (by kernel_rfl) (by kernel_rfl) (fun _ _ _ h => h) (Or.inr ⟨by rfl, rfl⟩) hS ?_
          try simp only [Act.put, List.setIfInBounds_toArray, List.set_cons_zero, List.set_cons_succ]
          refine wpAnyH_take (i := 15) (v := undef) (op_at rfl) (by kernel_rfl) (by kernel_rfl) (by kernel_rfl) (fun _ _ _ h => h) (Or.inr ⟨by rfl, rfl⟩) hS ?_
          try simp only [Act.put, List.setIfInBounds_toArray, List.set_cons_zero, List.set_cons_succ]
          refine wpAnyH_take (i := 16) (v := undef) (op_at rfl) (by kernel_rfl) (by kernel_rfl) (by kernel_rfl) (fun _ _ _ h => h) (Or.inr ⟨by rfl, rfl⟩) hS ?_
          try simp only [Act.put, List.setIfInBounds_toArray, List.set_cons_zero, List.set_cons_succ]
          refine wpAnyH_take (i := 17) (v := ?_) (op_at rfl) (by kernel_rfl) (by kernel_rfl) (by kernel_rfl) (fun _ _ _ h => h) (Or.inl ⟨by rfl, ?_⟩) hS ?_; rotate_left; focus ((intro w' hSw; clear hSw; go_simp) <;> with_reducible rfl)
          try simp only [Act.put, List.setIfInBounds_toArray, List.set_cons_zero, List.set_cons_succ]
          refine wpAnyH_take (i := 18) (v := ?_) (op_at rfl) (by kernel_rfl) (by kernel_rfl) (by kernel_rfl) (fun _ _ _ h => h) (Or.inl ⟨by rfl, ?_⟩) hS ?_; rotate_left; focus ((intro w' hSw; clear hSw; go_simp) <;> with_reducible rfl)
          try simp only [Act.put, List.setIfInBounds_toArray, List.set_cons_zero, List.set_cons_succ]
          refine wpAnyH_done (by kernel_rfl) ?_ _
          go_wp2_with fail
          go_roundw
          case rel => exact ⟨k + 1, by first | rfl | go_num, HLT.out, HG1.out, B2.out⟩
          case measure => have := HLT.out; simp [intOf]; omega
        · obtain ⟨j, rfl⟩ : ∃ j, k = j + 1 := ⟨k - 1, by omega⟩
          obtain ⟨y, hy⟩ : ∃ y, l[j]? = some y := ⟨_, List.getElem?_eq_getElem (by have := HLT.out; omega)⟩
          have HY : Hid (Els wr b (off + j * 4) #[.int .i64 y.a.lv, .int .u64 (u y.a.c), .int .i64 y.a.ig, .int .i64 y.n]) := Lib.hid (by
            obtain ⟨b', off', e, _, he⟩ := (HL.out.later B.out B.out.size).el hy (Nat.le_refl _)
            cases e
            exact he)
          obtain ⟨k, hk⟩ : ∃ k, k = j + 1 := ⟨_, rfl⟩
          have e11 : IntKind.i64.wrap ((k : Int) - 1) = (j : Int) := by rw [hk, wrapI _ (by omega)]; omega
          have e12 : decide ((0 : Int) < (k : Int)) = true := decide_eq_true (by omega)
          have e13 : (0 : Int) < (k : Int) := by omega
          have e16 : 0 < k := by omega
          have e17 : decide (0 < k) = true := decide_eq_true e16
          have j0 : (0 : Int) ≤ (j : Int) := by omega
          have j1 : (j : Int) < (l.length : Int) := by omega
          have HY2 := Lib.hid hy
          rw [← hk] at HX HLT HG k0 k1 e10 c0 c1 c2 c3 ⊢
          by_cases hc : cmpL y.a x.a < 0
          · have HC : Hid (cmpL y.a x.a = -1) := Lib.hid (by rcases cmpL_three y.a x.a with h | h | h <;> omega)
            have HG1 : Hid (goodTo l (k + 1)) := Lib.hid (goodTo_next HG.out HX.out ho (fun j' y' e hy' => by
              obtain rfl : j' = j := by omega
              rw [hy] at hy'; cases hy'
              exact hc))
            clear ho hc hy hk hz
            go_wp2_with fail
            clear c0 c1 c2 c3
            have XB : Hid (Blk (wr.alloc (.cells #[.int .i64 x.a.lv, .int .u64 (u x.a.c), .int .i64 x.a.ig, .int .i64 x.n] 42)) wr.heap.size 42 #[.int .i64 x.a.lv, .int .u64 (u x.a.c), .int .i64 x.a.ig, .int .i64 x.n]) := Lib.hid (Blk.new' rfl)
            refine wp_region_gen2 (S := fun W' => Blk W' wr.heap.size 42 #[.int .i64 x.a.lv, .int .u64 (u x.a.c), .int .i64 x.a.ig, .int .i64 x.n] ∧ Els W' b (off + j * 4) #[.int .i64 y.a.lv, .int .u64 (u y.a.c), .int .i64 y.a.ig, .int .i64 y.n]) (N := fun W' => Below w.heap.size w W') (by kernel_rfl) ⟨XB.out.drew, (HY.out.alloc _).drew⟩ (below_alloc B.out _).drew (fun w1 hS hN => ?_)
            have B1 := Lib.hid hN
            clear hN
            refine wpAnyH_take (i := 0) (v := ?_) (op_at rfl) (by kernel_rfl) (by kernel_rfl) (by kernel_rfl) (fun _ _ _ h => h) (Or.inl ⟨by rfl, ?_⟩) hS ?_; rotate_left; focus ((intro w' hSw; have q := hSw.1; have c0 := q.at_ (i := 0) (v := .int .i64 x.a.lv) rfl; have c1 := q.at_ (i := 1) (v := .int .u64 (u x.a.c)) rfl; have c2 := q.at_ (i := 2) (v := .int .i64 x.a.ig) rfl; have c3 := q.at_ (i := 3) (v := .int .i64 x.n) rfl; clear q; clear hSw; go_simp) <;> with_reducible rfl)
            try simp only [Act.put, List.setIfInBounds_toArray, List.set_cons_zero, List.set_cons_succ]
            refine wpAnyH_ready (rs := [1]) (by kernel_rfl) (by simp) ?_
            refine (AllReadyH.cons (op_at rfl) (fun K hK => ?_) AllReadyH.nil)
            go_simp
            refine (isRight_w x _).mono ?_
            rintro e w2 ⟨rfl, hB⟩
            rw [HO.out]
            have B2 := Lib.hid (below_call (w := w) B1.out hB)
            refine hK.out _ _ ⟨Blk.after hS.1 hB, Els.after hS.2 hB⟩ (fun hS => ?_)
            clear hK K hB
            try simp only [Act.put, List.setIfInBounds_toArray, List.set_cons_zero, List.set_cons_succ]
            refine wpAnyH_take (i := 2) (v := ?_) (op_at rfl) (by kernel_rfl) (by kernel_rfl) (by kernel_rfl) (fun _ _ _ h => h) (Or.inl ⟨by rfl, ?_⟩) hS ?_; rotate_left; focus ((intro w' hSw; clear hSw; go_simp) <;> with_reducible rfl)
            try simp only [Act.put, List.setIfInBounds_toArray, List.set_cons_zero, List.set_cons_succ]
            refine wpAnyH_take (i := 3) (v := ?_) (op_at rfl) (by kernel_rfl) (by kernel_rfl) (by kernel_rfl) (fun _ _ _ h => h) (Or.inl ⟨by rfl, ?_⟩) hS ?_; rotate_left; focus ((intro w' hSw; clear hSw; go_simp) <;> with_reducible rfl)
            try simp only [Act.put, List.setIfInBounds_toArray, List.set_cons_zero, List.set_cons_succ]
            refine wpAnyH_take (i := 4) (v := ?_) (op_at rfl) (by kernel_rfl) (by kernel_rfl) (by kernel_rfl) (fun _ _ _ h => h) (Or.inl ⟨by rfl, ?_⟩) hS ?_; rotate_left; focus ((intro w' hSw; clear hSw; go_simp) <;> with_reducible rfl)
            try simp only [Act.put, List.setIfInBounds_toArray, List.set_cons_zero, List.set_cons_succ]
            refine wpAnyH_take (i := 5) (v := ?_) (op_at rfl) (by kernel_rfl) (by kernel_rfl) (by kernel_rfl) (fun _ _ _ h => h) (Or.inl ⟨by rfl, ?_⟩) hS ?_; rotate_left; focus ((intro w' hSw; clear hSw; go_simp) <;> with_reducible rfl)
            try simp only [Act.put, List.setIfInBounds_toArray, List.set_cons_zero, List.set_cons_succ]
            refine wpAnyH_take (i := 6) (v := ?_) (op_at rfl) (by kernel_rfl) (by kernel_rfl) (by kernel_rfl) (fun _ _ _ h => h) (Or.inl ⟨by rfl, ?_⟩) hS ?_; rotate_left; focus ((intro w' hSw; clear hSw; go_simp) <;> with_reducible rfl)
            try simp only [Act.put, List.setIfInBounds_toArray, List.set_cons_zero, List.set_cons_succ]
            refine wpAnyH_take (i := 7) (v := ?_) (op_at rfl) (by kernel_rfl) (by kernel_rfl) (by kernel_rfl) (fun _ _ _ h => h) (Or.inl ⟨by rfl, ?_⟩) hS ?_; rotate_left; focus ((intro w' hSw; clear hSw; go_simp) <;> with_reducible rfl)
            try simp only [Act.put, List.setIfInBounds_toArray, List.set_cons_zero, List.set_cons_succ]
            refine wpAnyH_take (i := 8) (v := ?_) (op_at rfl) (by kernel_rfl) (by kernel_rfl) (by kernel_rfl) (fun _ _ _ h => h) (Or.inl ⟨by rfl, ?_⟩) hS ?_; rotate_left; focus ((intro w' hSw; clear hSw; go_simp) <;> with_reducible rfl)
            try simp only [Act.put, List.setIfInBounds_toArray, List.set_cons_zero, List.set_cons_succ]
            refine wpAnyH_take (i := 9) (v := ?_) (op_at rfl) (by kernel_rfl) (by kernel_rfl) (by kernel_rfl) (fun _ _ _ h => h) (Or.inl ⟨by rfl, ?_⟩) hS ?_; rotate_left; focus ((intro w' hSw; clear hSw; go_simp) <;> with_reducible rfl)
            try simp only [Act.put, List.setIfInBounds_toArray, List.set_cons_zero, List.set_cons_succ]
            refine wpAnyH_take (i := 10) (v := ?_) (op_at rfl) (by kernel_rfl) (by kernel_rfl) (by kernel_rfl) (fun _ _ _ h => h) (Or.inl ⟨by rfl, ?_⟩) hS ?_; rotate_left; focus ((intro w' hSw; clear hSw; go_simp) <;> with_reducible rfl)
            try simp only [Act.put, List.setIfInBounds_toArray, List.set_cons_zero, List.set_cons_succ]
            refine wpAnyH_take (i := 11) (v := ?_) (op_at rfl) (by kernel_rfl) (by kernel_rfl) (by kernel_rfl) (fun _ _ _ h => h) (Or.inl ⟨by rfl, ?_⟩) hS ?_; rotate_left; focus ((intro w' hSw; clear hSw; go_simp) <;> with_reducible rfl)
            try simp only [Act.put, List.setIfInBounds_toArray, List.set_cons_zero, List.set_cons_succ]
            refine wpAnyH_take (i := 12) (v := ?_) (op_at rfl) (by kernel_rfl) (by kernel_rfl) (by kernel_rfl) (fun _ _ _ h => h) (Or.inl ⟨by rfl, ?_⟩) hS ?_; rotate_left; focus ((intro w' hSw; have q := hSw.2; have c0 : w'.cell? ⟨b, off + j * 4, none⟩ = some (.int .i64 y.a.lv) := q.at_ (i := 0) rfl; have c1 : w'.cell? ⟨b, off + j * 4 + 1, none⟩ = some (.int .u64 (u y.a.c)) := q.at_ (i := 1) rfl; have c2 : w'.cell? ⟨b, off + j * 4 + 2, none⟩ = some (.int .i64 y.a.ig) := q.at_ (i := 2) rfl; clear q; clear hSw; go_simp) <;> with_reducible rfl)
            try simp only [Act.put, List.setIfInBounds_toArray, List.set_cons_zero, List.set_cons_succ]
            refine wpAnyH_take (i := 13) (v := ?_) (op_at rfl) (by kernel_rfl) (by kernel_rfl) (by kernel_rfl) (fun _ _ _ h => h) (Or.inl ⟨by rfl, ?_⟩) hS ?_; rotate_left; focus ((intro w' hSw; clear hSw; go_simp) <;> with_reducible rfl)
            try simp only [Act.put, List.setIfInBounds_toArray, List.set_cons_zero, List.set_cons_succ]
            refine wpAnyH_take (i := 14) (v := ?_) (op_at rfl) (by kernel_rfl) (by kernel_rfl) (by kernel_rfl) (fun _ _ _ h => h) (Or.inl ⟨by rfl, ?_⟩) hS ?_; rotate_left; focus ((intro w' hSw; have q := hSw.1; have c0 := q.at_ (i := 0) (v := .int .i64 x.a.lv) rfl; have c1 := q.at_ (i := 1) (v := .int .u64 (u x.a.c)) rfl; have c2 := q.at_ (i := 2) (v := .int .i64 x.a.ig) rfl; have c3 := q.at_ (i := 3) (v := .int .i64 x.n) rfl; clear q; clear hSw; go_simp) <;> with_reducible rfl)
            try simp only [Act.put, List.setIfInBounds_toArray, List.set_cons_zero, List.set_cons_succ]
            refine wpAnyH_ready (rs := [15]) (by kernel_rfl) (by simp) ?_
            refine (AllReadyH.cons (op_at rfl) (fun K hK => ?_) AllReadyH.nil)
            go_simp
            refine (Compare_any y.a x.a _).mono ?_
            rintro e w3 ⟨rfl, hB⟩
            rw [HC.out]
            have B3 := Lib.hid (below_call (w := w) B2.out hB)
            refine hK.out _ _ ⟨Blk.after hS.1 hB, Els.after hS.2 hB⟩ (fun hS => ?_)
            clear hK K hB
            try simp only [Act.put, List.setIfInBounds_toArray, List.set_cons_zero, List.set_cons_succ]
            refine wpAnyH_take (i := 16) (v := ?_) (op_at rfl) (by kernel_rfl) (by kernel_rfl) (by kernel_rfl) (fun _ _ _ h => h) (Or.inl ⟨by rfl, ?_⟩) hS ?_; rotate_left; focus ((intro w' hSw; clear hSw; go_simp) <;> with_reducible rfl)
            try simp only [Act.put, List.setIfInBounds_toArray, List.set_cons_zero, List.set_cons_succ]
            refine wpAnyH_take (i := 17) (v := ?_) (op_at rfl) (by kernel_rfl) (by kernel_rfl) (by kernel_rfl) (fun _ _ _ h => h) (Or.inl ⟨by rfl, ?_⟩) hS ?_; rotate_left; focus ((intro w' hSw; clear hSw; go_simp) <;> with_reducible rfl)
            try simp only [Act.put, List.setIfInBounds_toArray, List.set_cons_zero, List.set_cons_succ]
            refine wpAnyH_take (i := 18) (v := ?_) (op_at rfl) (by kernel_rfl) (by kernel_rfl) (by kernel_rfl) (fun _ _ _ h => h) (Or.inl ⟨by rfl, ?_⟩) hS ?_; rotate_left; focus ((intro w' hSw; clear hSw; go_simp) <;> with_reducible rfl)
            try simp only [Act.put, List.setIfInBounds_toArray, List.set_cons_zero, List.set_cons_succ]
            refine wpAnyH_done (by kernel_rfl) ?_ _
            go_wp2_with fail
            go_roundw
            case rel => exact ⟨k + 1, by first | rfl | go_num, HLT.out, HG1.out, B3.out⟩
            case measure => have := HLT.out; simp [intOf]; omega
          · have HR : Hid (rightLn l = false) := Lib.hid (right_no (fun h => hc ((h k x HLT.out HX.out).2 j y hk hy)))
            obtain ⟨r, hr⟩ : ∃ r, cmpL y.a x.a = r := ⟨_, rfl⟩
            have HC := Lib.hid hr
            have r0 : decide (0 ≤ r) = true := decide_eq_true (by omega)
            clear ho hc hy hk hz hr
            go_wp2_with fail
            clear c0 c1 c2 c3
            have XB : Hid (Blk (wr.alloc (.cells #[.int .i64 x.a.lv, .int .u64 (u x.a.c), .int .i64 x.a.ig, .int .i64 x.n] 42)) wr.heap.size 42 #[.int .i64 x.a.lv, .int .u64 (u x.a.c), .int .i64 x.a.ig, .int .i64 x.n]) := Lib.hid (Blk.new' rfl)
            refine wp_region_gen2 (S := fun W' => Blk W' wr.heap.size 42 #[.int .i64 x.a.lv, .int .u64 (u x.a.c), .int .i64 x.a.ig, .int .i64 x.n] ∧ Els W' b (off + j * 4) #[.int .i64 y.a.lv, .int .u64 (u y.a.c), .int .i64 y.a.ig, .int .i64 y.n]) (N := fun W' => Below w.heap.size w W') (by kernel_rfl) ⟨XB.out.drew, (HY.out.alloc _).drew⟩ (below_alloc B.out _).drew (fun w1 hS hN => ?_)
            have B1 := Lib.hid hN
            clear hN
            refine wpAnyH_take (i := 0) (v := ?_) (op_at rfl) (by kernel_rfl) (by kernel_rfl) (by kernel_rfl) (fun _ _ _ h => h) (Or.inl ⟨by rfl, ?_⟩) hS ?_; rotate_left; focus ((intro w' hSw; have q := hSw.1; have c0 := q.at_ (i := 0) (v := .int .i64 x.a.lv) rfl; have c1 := q.at_ (i := 1) (v := .int .u64 (u x.a.c)) rfl; have c2 := q.at_ (i := 2) (v := .int .i64 x.a.ig) rfl; have c3 := q.at_ (i := 3) (v := .int .i64 x.n) rfl; clear q; clear hSw; go_simp) <;> with_reducible rfl)
            try simp only [Act.put, List.setIfInBounds_toArray, List.set_cons_zero, List.set_cons_succ]
            refine wpAnyH_ready (rs := [1]) (by kernel_rfl) (by simp) ?_
            refine (AllReadyH.cons (op_at rfl) (fun K hK => ?_) AllReadyH.nil)
            go_simp
            refine (isRight_w x _).mono ?_
            rintro e w2 ⟨rfl, hB⟩
            rw [HO.out]
            have B2 := Lib.hid (below_call (w := w) B1.out hB)
            refine hK.out _ _ ⟨Blk.after hS.1 hB, Els.after hS.2 hB⟩ (fun hS => ?_)
            clear hK K hB
            try simp only [Act.put, List.setIfInBounds_toArray, List.set_cons_zero, List.set_cons_succ]
            refine wpAnyH_take (i := 2) (v := ?_) (op_at rfl) (by kernel_rfl) (by kernel_rfl) (by kernel_rfl) (fun _ _ _ h => h) (Or.inl ⟨by rfl, ?_⟩) hS ?_; rotate_left; focus ((intro w' hSw; clear hSw; go_simp) <;> with_reducible rfl)
            try simp only [Act.put, List.setIfInBounds_toArray, List.set_cons_zero, List.set_cons_succ]
            refine wpAnyH_take (i := 3) (v := ?_) (op_at rfl) (by kernel_rfl) (by kernel_rfl) (by kernel_rfl) (fun _ _ _ h => h) (Or.inl ⟨by rfl, ?_⟩) hS ?_; rotate_left; focus ((intro w' hSw; clear hSw; go_simp) <;> with_reducible rfl)
            try simp only [Act.put, List.setIfInBounds_toArray, List.set_cons_zero, List.set_cons_succ]
            refine wpAnyH_take (i := 4) (v := ?_) (op_at rfl) (by kernel_rfl) (by kernel_rfl) (by kernel_rfl) (fun _ _ _ h => h) (Or.inl ⟨by rfl, ?_⟩) hS ?_; rotate_left; focus ((intro w' hSw; clear hSw; go_simp) <;> with_reducible rfl)
            try simp only [Act.put, List.setIfInBounds_toArray, List.set_cons_zero, List.set_cons_succ]
            refine wpAnyH_take (i := 5) (v := ?_) (op_at rfl) (by kernel_rfl) (by kernel_rfl) (by kernel_rfl) (fun _ _ _ h => h) (Or.inl ⟨by rfl, ?_⟩) hS ?_; rotate_left; focus ((intro w' hSw; clear hSw; go_simp) <;> with_reducible rfl)
            try simp only [Act.put, List.setIfInBounds_toArray, List.set_cons_zero, List.set_cons_succ]
            refine wpAnyH_take (i := 6) (v := ?_) (op_at rfl) (by kernel_rfl) (by kernel_rfl) (by kernel_rfl) (fun _ _ _ h => h) (Or.inl ⟨by rfl, ?_⟩) hS ?_; rotate_left; focus ((intro w' hSw; clear hSw; go_simp) <;> with_reducible rfl)
            try simp only [Act.put, List.setIfInBounds_toArray, List.set_cons_zero, List.set_cons_succ]
            refine wpAnyH_take (i := 7) (v := ?_) (op_at rfl) (by kernel_rfl) (by kernel_rfl) (by kernel_rfl) (fun _ _ _ h => h) (Or.inl ⟨by rfl, ?_⟩) hS ?_; rotate_left; focus ((intro w' hSw; clear hSw; go_simp) <;> with_reducible rfl)
            try simp only [Act.put, List.setIfInBounds_toArray, List.set_cons_zero, List.set_cons_succ]
            refine wpAnyH_take (i := 8) (v := ?_) (op_at rfl) (by kernel_rfl) (by kernel_rfl) (by kernel_rfl) (fun _ _ _ h => h) (Or.inl ⟨by rfl, ?_⟩) hS ?_; rotate_left; focus ((intro w' hSw; clear hSw; go_simp) <;> with_reducible rfl)
            try simp only [Act.put, List.setIfInBounds_toArray, List.set_cons_zero, List.set_cons_succ]
            refine wpAnyH_take (i := 9) (v := ?_) (op_at rfl) (by kernel_rfl) (by kernel_rfl) (by kernel_rfl) (fun _ _ _ h => h) (Or.inl ⟨by rfl, ?_⟩) hS ?_; rotate_left; focus ((intro w' hSw; clear hSw; go_simp) <;> with_reducible rfl)
            try simp only [Act.put, List.setIfInBounds_toArray, List.set_cons_zero, List.set_cons_succ]
            refine wpAnyH_take (i := 10) (v := ?_) (op_at rfl) (by kernel_rfl) (by kernel_rfl) (by kernel_rfl) (fun _ _ _ h => h) (Or.inl ⟨by rfl, ?_⟩) hS ?_; rotate_left; focus ((intro w' hSw; clear hSw; go_simp) <;> with_reducible rfl)
            try simp only [Act.put, List.setIfInBounds_toArray, List.set_cons_zero, List.set_cons_succ]
            refine wpAnyH_take (i := 11) (v := ?_) (op_at rfl) (by kernel_rfl) (by kernel_rfl) (by kernel_rfl) (fun _ _ _ h => h) (Or.inl ⟨by rfl, ?_⟩) hS ?_; rotate_left; focus ((intro w' hSw; clear hSw; go_simp) <;> with_reducible rfl)
            try simp only [Act.put, List.setIfInBounds_toArray, List.set_cons_zero, List.set_cons_succ]
            refine wpAnyH_take (i := 12) (v := ?_) (op_at rfl) (by kernel_rfl) (by kernel_rfl) (by kernel_rfl) (fun _ _ _ h => h) (Or.inl ⟨by rfl, ?_⟩) hS ?_; rotate_left; focus ((intro w' hSw; have q := hSw.2; have c0 : w'.cell? ⟨b, off + j * 4, none⟩ = some (.int .i64 y.a.lv) := q.at_ (i := 0) rfl; have c1 : w'.cell? ⟨b, off + j * 4 + 1, none⟩ = some (.int .u64 (u y.a.c)) := q.at_ (i := 1) rfl; have c2 : w'.cell? ⟨b, off + j * 4 + 2, none⟩ = some (.int .i64 y.a.ig) := q.at_ (i := 2) rfl; clear q; clear hSw; go_simp) <;> with_reducible rfl)
            try simp only [Act.put, List.setIfInBounds_toArray, List.set_cons_zero, List.set_cons_succ]
            refine wpAnyH_take (i := 13) (v := ?_) (op_at rfl) (by kernel_rfl) (by kernel_rfl) (by kernel_rfl) (fun _ _ _ h => h) (Or.inl ⟨by rfl, ?_⟩) hS ?_; rotate_left; focus ((intro w' hSw; clear hSw; go_simp) <;> with_reducible rfl)
            try simp only [Act.put, List.setIfInBounds_toArray, List.set_cons_zero, List.set_cons_succ]
            refine wpAnyH_take (i := 14) (v := ?_) (op_at rfl) (by kernel_rfl) (by kernel_rfl) (by kernel_rfl) (fun _ _ _ h => h) (Or.inl ⟨by rfl, ?_⟩) hS ?_; rotate_left; focus ((intro w' hSw; have q := hSw.1; have c0 := q.at_ (i := 0) (v := .int .i64 x.a.lv) rfl; have c1 := q.at_ (i := 1) (v := .int .u64 (u x.a.c)) rfl; have c2 := q.at_ (i := 2) (v := .int .i64 x.a.ig) rfl; have c3 := q.at_ (i := 3) (v := .int .i64 x.n) rfl; clear q; clear hSw; go_simp) <;> with_reducible rfl)
            try simp only [Act.put, List.setIfInBounds_toArray, List.set_cons_zero, List.set_cons_succ]
            refine wpAnyH_ready (rs := [15]) (by kernel_rfl) (by simp) ?_
            refine (AllReadyH.cons (op_at rfl) (fun K hK => ?_) AllReadyH.nil)
            go_simp
            refine (Compare_any y.a x.a _).mono ?_
            rintro e w3 ⟨rfl, hB⟩
            rw [HC.out]
            have B3 := Lib.hid (below_call (w := w) B2.out hB)
            refine hK.out _ _ ⟨Blk.after hS.1 hB, Els.after hS.2 hB⟩ (fun hS => ?_)
            clear hK K hB
            try simp only [Act.put, List.setIfInBounds_toArray, List.set_cons_zero, List.set_cons_succ]
            refine wpAnyH_take (i := 16) (v := ?_) (op_at rfl) (by kernel_rfl) (by kernel_rfl) (by kernel_rfl) (fun _ _ _ h => h) (Or.inl ⟨by rfl, ?_⟩) hS ?_; rotate_left; focus ((intro w' hSw; clear hSw; go_simp) <;> with_reducible rfl)
            try simp only [Act.put, List.setIfInBounds_toArray, List.set_cons_zero, List.set_cons_succ]
            refine wpAnyH_take (i := 17) (v := ?_) (op_at rfl) (by kernel_rfl) (by kernel_rfl) (by kernel_rfl) (fun _ _ _ h => h) (Or.inl ⟨by rfl, ?_⟩) hS ?_; rotate_left; focus ((intro w' hSw; clear hSw; go_simp) <;> with_reducible rfl)
            try simp only [Act.put, List.setIfInBounds_toArray, List.set_cons_zero, List.set_cons_succ]
            refine wpAnyH_take (i := 18) (v := ?_) (op_at rfl) (by kernel_rfl) (by kernel_rfl) (by kernel_rfl) (fun _ _ _ h => h) (Or.inl ⟨by rfl, ?_⟩) hS ?_; rotate_left; focus ((intro w' hSw; clear hSw; go_simp) <;> with_reducible rfl)
            try simp only [Act.put, List.setIfInBounds_toArray, List.set_cons_zero, List.set_cons_succ]
            refine wpAnyH_done (by kernel_rfl) ?_ _
            go_wp2_with fail
            go_ret
            exact ⟨by rw [HR.out]; rfl, B3.out⟩
    · obtain rfl : k = l.length := by omega
      have HR : Hid (rightLn l = decide ((l.length : Int) ≤ 1000)) := Lib.hid (by unfold rightLn; rw [decide_eq_true HG.out, Bool.true_and]; exact decide_eq_decide.2 (by omega))
      clear hk hkl
      go_wp2_with fail
      go_ret
      exact ⟨by rw [HR.out]; rfl, B.out⟩
end Go.Proofs.YtbggaijjgnjknaaDoor
