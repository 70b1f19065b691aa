/-
  PACKAGE ledger: find (slices.BinarySearchFunc at lines).
-/
import Derived.Test.YtbggaijjgnjknaaDoorLgD
import Derived.LoopN
namespace Go.Proofs.YtbggaijjgnjknaaDoor
open Go.RowKit

attribute [local go_sem] u_and u_or u_andNot u_add u_sub u_bit u_eq_zero u_beq

theorem find1_w (x : Ln) (a : Lab) (w : World) :
    Calls Tryd.prog 59 #[.agg #[.int .i64 x.a.lv, .int .u64 (u x.a.c), .int .i64 x.a.ig, .int .i64 x.n], .agg #[.int .i64 a.lv, .int .u64 (u a.c), .int .i64 a.ig]] w fun e w' => e = .returned (.int .i64 (cmpL x.a a)) ∧ Below w.heap.size w w' := by
  have X : Blk (w.alloc (.cells #[.int .i64 x.a.lv, .int .u64 (u x.a.c), .int .i64 x.a.ig, .int .i64 x.n] 42)) w.heap.size 42 #[.int .i64 x.a.lv, .int .u64 (u x.a.c), .int .i64 x.a.ig, .int .i64 x.n] := Blk.new' rfl
  have X2 := X.alloc (.cells #[.int .i64 a.lv, .int .u64 (u a.c), .int .i64 a.ig] 25)
  have c0 := X2.at_ (i := 0) (v := .int .i64 x.a.lv) rfl
  have c1 := X2.at_ (i := 1) (v := .int .u64 (u x.a.c)) rfl
  have c2 := X2.at_ (i := 2) (v := .int .i64 x.a.ig) rfl
  clear X X2
  go_enter Tryd.func59, Tryd.ntmps59
  go_wp2_with fail
  refine (Compare_any x.a a _).mono ?_
  rintro e w1 ⟨rfl, hB⟩
  have B := Lib.hid (below_call (w := w) (below_alloc (below_alloc (Below.refl _ _) _) _) hB)
  clear hB c0 c1 c2
  go_wp2_with fail
  go_ret
  exact ⟨rfl, B.out⟩
/-- where a label's line is, or would be -/
def Pos (l : List Ln) (a : Lab) (i : Nat) : Prop := i ≤ l.length ∧ (∀ k x, k < i → l[k]? = some x → cmpL x.a a < 0) ∧ ∀ k x, i ≤ k → l[k]? = some x → 0 ≤ cmpL x.a a
def hitB (l : List Ln) (a : Lab) (i : Nat) : Bool := match l[i]? with
  | some x => cmpL x.a a == 0
  | none => false
theorem rises_low {l : List Ln} (h : Rises l) {a : Lab} {k j : Nat} {x y : Ln} (hkj : k ≤ j) (hx : l[k]? = some x) (hy : l[j]? = some y) (hc : cmpL y.a a < 0) : cmpL x.a a < 0 := by
  by_cases e : k = j
  · subst e; rw [hx] at hy; cases hy; exact hc
  · exact cmp_lt_trans (rises_get h (by omega) hx hy) hc

set_option maxRecDepth 100000 in
set_option maxHeartbeats 8000000 in
theorem Search_w (v : Value) (l : List Ln) (a : Lab) (w : World) (hl : LnsAt w v l) (hr : Rises l) (hle : l.length ≤ 1000) :
    Calls Tryd.prog 58 #[v, .agg #[.int .i64 a.lv, .int .u64 (u a.c), .int .i64 a.ig], .func (.func 59) #[] #[]] w fun e w' => ∃ i, Pos l a i ∧ e = .returned (.tuple #[.int .i64 (i : Nat), .bool (hitB l a i)]) ∧ Below w.heap.size w w' := by
  obtain ⟨A, cA, rfl, hcA, hsc, _⟩ := hl.slice
  have HL := Lib.hid hl
  have HR := Lib.hid hr
  clear hl hr
  go_enter Tryd.func58, Tryd.ntmps58
  go_wp2_with fail
  go_loopw [9, 10] (fun s t wr => ∃ i j : Nat, s = .int .i64 i ∧ t = .int .i64 j ∧ i ≤ j ∧ j ≤ l.length ∧ (∀ k x, k < i → l[k]? = some x → cmpL x.a a < 0) ∧ (∀ k x, j ≤ k → l[k]? = some x → 0 ≤ cmpL x.a a) ∧ Blk wr w.heap.size 25 #[.int .i64 a.lv, .int .u64 (u a.c), .int .i64 a.ig] ∧ Below w.heap.size w wr) (fun s t _ => (intOf t).toNat - (intOf s).toNat)
  case atStart => exact ⟨0, l.length, rfl, rfl, Nat.zero_le _, Nat.le_refl _, (fun k x h => absurd h (by omega)), (fun k x h hx => by have := (List.getElem?_eq_some_iff.1 hx).1; omega), Blk.new' rfl, below_alloc (Below.refl _ _) _⟩
  case round =>
    obtain ⟨i, j, rfl, rfl, hij, hj, hlo, hhi, hA, hB⟩ := hrel
    have B := Lib.hid hB
    have AB := Lib.hid hA
    have LO := Lib.hid hlo
    have HI := Lib.hid hhi
    clear hB hA hlo hhi
    by_cases hlt : i < j
    · obtain ⟨h, hh⟩ : ∃ h, h = (i + j) / 2 := ⟨_, rfl⟩
      have h1 : i ≤ h ∧ h < j := by omega
      obtain ⟨x, hx⟩ : ∃ x, l[h]? = some x := ⟨_, List.getElem?_eq_getElem (by omega)⟩
      obtain ⟨b, off, rfl, _, he⟩ := (HL.out.later B.out B.out.size).el hx (Nat.le_refl _)
      have EX := Lib.hid (show Els wr b (off + h * 4) #[.int .i64 x.a.lv, .int .u64 (u x.a.c), .int .i64 x.a.ig, .int .i64 x.n] from he)
      have HX := Lib.hid hx
      have HH := Lib.hid (And.intro h1.1 (And.intro h1.2 hj))
      have g0 : (i : Int) < (j : Int) := by omega
      have e1 : IntKind.i64.wrap ((i : Int) + (j : Int)) = ((i + j : Nat) : Int) := wrapI _ (by omega)
      have e2 : IntKind.u64.wrap ((i + j : Nat) : Int) = ((i + j : Nat) : Int) := by simp [IntKind.wrap, IntKind.bits, IntKind.signed]; omega
      have e3 : IntKind.i64.wrap ((h : Nat) : Int) = (h : Int) := wrapI _ (by omega)
      have e4 : ((i + j : Nat) : Int) / 2 = (h : Int) := by omega
      have e5 : (((i + j : Nat) : Int)).tdiv 2 = (h : Int) := by rw [Int.tdiv_eq_ediv_of_nonneg (by omega)]; exact e4
      have e6 : IntKind.u64.wrap ((h : Nat) : Int) = (h : Int) := by simp [IntKind.wrap, IntKind.bits, IntKind.signed]; omega
      have e7 : IntKind.i64.wrap ((h : Int) + 1) = ((h + 1 : Nat) : Int) := wrapI _ (by omega)
      have e8 : ((i : Int) + (j : Int)) / 2 = (h : Int) := by omega
      have hz : (0 : Int) ≤ (h : Int) := by omega
      have hz2 : (h : Int) < (l.length : Int) := by omega
      obtain ⟨r, hr⟩ : ∃ r, cmpL x.a a = r := ⟨_, rfl⟩
      have HC := Lib.hid hr
      by_cases hr0 : r < 0
      · have d0 : decide (r < 0) = true := decide_eq_true hr0
        have NL : Hid (∀ k y, k < h + 1 → l[k]? = some y → cmpL y.a a < 0) := Lib.hid (fun k y hk hy => rises_low HR.out (by omega) hy hx (by rw [hr]; exact hr0))
        clear hh h1 he hx hr hr0 hlt hij hj
        go_wp2_with fail
        refine wp_region_gen2 (S := fun W' => Els W' b (off + h * 4) #[.int .i64 x.a.lv, .int .u64 (u x.a.c), .int .i64 x.a.ig, .int .i64 x.n] ∧ Blk W' w.heap.size 25 #[.int .i64 a.lv, .int .u64 (u a.c), .int .i64 a.ig]) (N := fun W' => Below w.heap.size w W') (by kernel_rfl) ⟨EX.out.drew, AB.out.drew⟩ B.out.drew (fun w1 hS hN => ?_)
        have B1 := Lib.hid hN
        clear hN
        refine wpAnyH_take (i := 0) (v := ?_) (op_at rfl) (by kernel_rfl) (by kernel_rfl) (by kernel_rfl) (fun _ _ _ h => h) (Or.inl ⟨by rfl, ?_⟩) hS ?_; rotate_left; focus ((intro w' hSw; clear hSw; go_simp) <;> with_reducible rfl)
        try simp only [Act.put, List.setIfInBounds_toArray, List.set_cons_zero, List.set_cons_succ]
        refine wpAnyH_take (i := 1) (v := ?_) (op_at rfl) (by kernel_rfl) (by kernel_rfl) (by kernel_rfl) (fun _ _ _ h => h) (Or.inl ⟨by rfl, ?_⟩) hS ?_; rotate_left; focus ((intro w' hSw; clear hSw; go_simp) <;> with_reducible rfl)
        try simp only [Act.put, List.setIfInBounds_toArray, List.set_cons_zero, List.set_cons_succ]
        refine wpAnyH_take (i := 2) (v := ?_) (op_at rfl) (by kernel_rfl) (by kernel_rfl) (by kernel_rfl) (fun _ _ _ h => h) (Or.inl ⟨by rfl, ?_⟩) hS ?_; rotate_left; focus ((intro w' hSw; clear hSw; go_simp) <;> with_reducible rfl)
        try simp only [Act.put, List.setIfInBounds_toArray, List.set_cons_zero, List.set_cons_succ]
        refine wpAnyH_take (i := 3) (v := ?_) (op_at rfl) (by kernel_rfl) (by kernel_rfl) (by kernel_rfl) (fun _ _ _ h => h) (Or.inl ⟨by rfl, ?_⟩) hS ?_; rotate_left; focus ((intro w' hSw; clear hSw; go_simp) <;> with_reducible rfl)
        try simp only [Act.put, List.setIfInBounds_toArray, List.set_cons_zero, List.set_cons_succ]
        refine wpAnyH_take (i := 4) (v := ?_) (op_at rfl) (by kernel_rfl) (by kernel_rfl) (by kernel_rfl) (fun _ _ _ h => h) (Or.inl ⟨by rfl, ?_⟩) hS ?_; rotate_left; focus ((intro w' hSw; have q := hSw.1; have c0 : w'.cell? ⟨b, off + h * 4, none⟩ = some (.int .i64 x.a.lv) := q.at_ (i := 0) rfl; have c1 : w'.cell? ⟨b, off + h * 4 + 1, none⟩ = some (.int .u64 (u x.a.c)) := q.at_ (i := 1) rfl; have c2 : w'.cell? ⟨b, off + h * 4 + 2, none⟩ = some (.int .i64 x.a.ig) := q.at_ (i := 2) rfl; have c3 : w'.cell? ⟨b, off + h * 4 + 3, none⟩ = some (.int .i64 x.n) := q.at_ (i := 3) rfl; clear q; clear hSw; go_simp) <;> with_reducible rfl)
        try simp only [Act.put, List.setIfInBounds_toArray, List.set_cons_zero, List.set_cons_succ]
        refine wpAnyH_take (i := 5) (v := ?_) (op_at rfl) (by kernel_rfl) (by kernel_rfl) (by kernel_rfl) (fun _ _ _ h => h) (Or.inl ⟨by rfl, ?_⟩) hS ?_; rotate_left; focus ((intro w' hSw; have q := hSw.2; have c0 := q.at_ (i := 0) (v := .int .i64 a.lv) rfl; have c1 := q.at_ (i := 1) (v := .int .u64 (u a.c)) rfl; have c2 := q.at_ (i := 2) (v := .int .i64 a.ig) rfl; clear q; clear hSw; go_simp) <;> with_reducible rfl)
        try simp only [Act.put, List.setIfInBounds_toArray, List.set_cons_zero, List.set_cons_succ]
        refine wpAnyH_ready (rs := [6]) (by kernel_rfl) (by simp) ?_
        refine (AllReadyH.cons (op_at rfl) (fun K hK => ?_) AllReadyH.nil)
        go_simp
        refine (find1_w x a _).mono ?_
        rintro e w2 ⟨rfl, hB⟩
        rw [HC.out]
        have B2 := Lib.hid (below_call (w := w) B1.out hB)
        refine hK.out _ _ ⟨Els.after hS.1 hB, Blk.after hS.2 hB⟩ (fun hS => ?_)
        clear hK K hB
        try simp only [Act.put, List.setIfInBounds_toArray, List.set_cons_zero, List.set_cons_succ]
        refine wpAnyH_take (i := 7) (v := ?_) (op_at rfl) (by kernel_rfl) (by kernel_rfl) (by kernel_rfl) (fun _ _ _ h => h) (Or.inl ⟨by rfl, ?_⟩) hS ?_; rotate_left; focus ((intro w' hSw; clear hSw; go_simp) <;> with_reducible rfl)
        try simp only [Act.put, List.setIfInBounds_toArray, List.set_cons_zero, List.set_cons_succ]
        refine wpAnyH_done (by kernel_rfl) ?_ _
        have AB2 := Lib.hid hS.2
        clear hS
        go_wp2_with fail
        go_roundw
        case rel => exact ⟨h + 1, j, by first | rfl | go_num, rfl, HH.out.2.1, HH.out.2.2, NL.out, HI.out, AB2.out, B2.out⟩
        case measure => have := HH.out; simp [intOf]; omega
      · have d0 : decide (r < 0) = false := decide_eq_false hr0
        have NL : Hid (∀ k y, h ≤ k → l[k]? = some y → 0 ≤ cmpL y.a a) := Lib.hid (fun k y hk hy => by
          by_cases hn : cmpL y.a a < 0
          · have := rises_low HR.out hk hx hy hn; rw [hr] at this; omega
          · omega)
        clear hh h1 he hx hr hr0 hlt hij hj
        go_wp2_with fail
        refine wp_region_gen2 (S := fun W' => Els W' b (off + h * 4) #[.int .i64 x.a.lv, .int .u64 (u x.a.c), .int .i64 x.a.ig, .int .i64 x.n] ∧ Blk W' w.heap.size 25 #[.int .i64 a.lv, .int .u64 (u a.c), .int .i64 a.ig]) (N := fun W' => Below w.heap.size w W') (by kernel_rfl) ⟨EX.out.drew, AB.out.drew⟩ B.out.drew (fun w1 hS hN => ?_)
        have B1 := Lib.hid hN
        clear hN
        refine wpAnyH_take (i := 0) (v := ?_) (op_at rfl) (by kernel_rfl) (by kernel_rfl) (by kernel_rfl) (fun _ _ _ h => h) (Or.inl ⟨by rfl, ?_⟩) hS ?_; rotate_left; focus ((intro w' hSw; clear hSw; go_simp) <;> with_reducible rfl)
        try simp only [Act.put, List.setIfInBounds_toArray, List.set_cons_zero, List.set_cons_succ]
        refine wpAnyH_take (i := 1) (v := ?_) (op_at rfl) (by kernel_rfl) (by kernel_rfl) (by kernel_rfl) (fun _ _ _ h => h) (Or.inl ⟨by rfl, ?_⟩) hS ?_; rotate_left; focus ((intro w' hSw; clear hSw; go_simp) <;> with_reducible rfl)
        try simp only [Act.put, List.setIfInBounds_toArray, List.set_cons_zero, List.set_cons_succ]
        refine wpAnyH_take (i := 2) (v := ?_) (op_at rfl) (by kernel_rfl) (by kernel_rfl) (by kernel_rfl) (fun _ _ _ h => h) (Or.inl ⟨by rfl, ?_⟩) hS ?_; rotate_left; focus ((intro w' hSw; clear hSw; go_simp) <;> with_reducible rfl)
        try simp only [Act.put, List.setIfInBounds_toArray, List.set_cons_zero, List.set_cons_succ]
        refine wpAnyH_take (i := 3) (v := ?_) (op_at rfl) (by kernel_rfl) (by kernel_rfl) (by kernel_rfl) (fun _ _ _ h => h) (Or.inl ⟨by rfl, ?_⟩) hS ?_; rotate_left; focus ((intro w' hSw; clear hSw; go_simp) <;> with_reducible rfl)
        try simp only [Act.put, List.setIfInBounds_toArray, List.set_cons_zero, List.set_cons_succ]
        refine wpAnyH_take (i := 4) (v := ?_) (op_at rfl) (by kernel_rfl) (by kernel_rfl) (by kernel_rfl) (fun _ _ _ h => h) (Or.inl ⟨by rfl, ?_⟩) hS ?_; rotate_left; focus ((intro w' hSw; have q := hSw.1; have c0 : w'.cell? ⟨b, off + h * 4, none⟩ = some (.int .i64 x.a.lv) := q.at_ (i := 0) rfl; have c1 : w'.cell? ⟨b, off + h * 4 + 1, none⟩ = some (.int .u64 (u x.a.c)) := q.at_ (i := 1) rfl; have c2 : w'.cell? ⟨b, off + h * 4 + 2, none⟩ = some (.int .i64 x.a.ig) := q.at_ (i := 2) rfl; have c3 : w'.cell? ⟨b, off + h * 4 + 3, none⟩ = some (.int .i64 x.n) := q.at_ (i := 3) rfl; clear q; clear hSw; go_simp) <;> with_reducible rfl)
        try simp only [Act.put, List.setIfInBounds_toArray, List.set_cons_zero, List.set_cons_succ]
        refine wpAnyH_take (i := 5) (v := ?_) (op_at rfl) (by kernel_rfl) (by kernel_rfl) (by kernel_rfl) (fun _ _ _ h => h) (Or.inl ⟨by rfl, ?_⟩) hS ?_; rotate_left; focus ((intro w' hSw; have q := hSw.2; have c0 := q.at_ (i := 0) (v := .int .i64 a.lv) rfl; have c1 := q.at_ (i := 1) (v := .int .u64 (u a.c)) rfl; have c2 := q.at_ (i := 2) (v := .int .i64 a.ig) rfl; clear q; clear hSw; go_simp) <;> with_reducible rfl)
        try simp only [Act.put, List.setIfInBounds_toArray, List.set_cons_zero, List.set_cons_succ]
        refine wpAnyH_ready (rs := [6]) (by kernel_rfl) (by simp) ?_
        refine (AllReadyH.cons (op_at rfl) (fun K hK => ?_) AllReadyH.nil)
        go_simp
        refine (find1_w x a _).mono ?_
        rintro e w2 ⟨rfl, hB⟩
        rw [HC.out]
        have B2 := Lib.hid (below_call (w := w) B1.out hB)
        refine hK.out _ _ ⟨Els.after hS.1 hB, Blk.after hS.2 hB⟩ (fun hS => ?_)
        clear hK K hB
        try simp only [Act.put, List.setIfInBounds_toArray, List.set_cons_zero, List.set_cons_succ]
        refine wpAnyH_take (i := 7) (v := ?_) (op_at rfl) (by kernel_rfl) (by kernel_rfl) (by kernel_rfl) (fun _ _ _ h => h) (Or.inl ⟨by rfl, ?_⟩) hS ?_; rotate_left; focus ((intro w' hSw; clear hSw; go_simp) <;> with_reducible rfl)
        try simp only [Act.put, List.setIfInBounds_toArray, List.set_cons_zero, List.set_cons_succ]
        refine wpAnyH_done (by kernel_rfl) ?_ _
        have AB2 := Lib.hid hS.2
        clear hS
        go_wp2_with fail
        go_roundw
        case rel => exact ⟨i, h, rfl, rfl, HH.out.1, by have := HH.out; omega, LO.out, NL.out, AB2.out, B2.out⟩
        case measure => have := HH.out; simp [intOf]; omega
    · obtain rfl : i = j := by omega
      have HP : Hid (Pos l a i) := Lib.hid ⟨hj, LO.out, HI.out⟩
      by_cases hil : i < l.length
      · obtain ⟨x, hx⟩ : ∃ x, l[i]? = some x := ⟨_, List.getElem?_eq_getElem hil⟩
        obtain ⟨b, off, rfl, _, he⟩ := (HL.out.later B.out B.out.size).el hx (Nat.le_refl _)
        have EX := Lib.hid (show Els wr b (off + i * 4) #[.int .i64 x.a.lv, .int .u64 (u x.a.c), .int .i64 x.a.ig, .int .i64 x.n] from he)
        obtain ⟨r, hr⟩ : ∃ r, cmpL x.a a = r := ⟨_, rfl⟩
        have HC := Lib.hid hr
        have HT : Hid (hitB l a i = (r == 0)) := Lib.hid (by unfold hitB; rw [hx]; simp only [hr])
        have g1 : (i : Int) < (l.length : Int) := by omega
        have g2 : decide ((i : Int) < (l.length : Int)) = true := decide_eq_true g1
        have g3 : decide (i < l.length) = true := decide_eq_true hil
        have g4 : (0 : Int) ≤ (i : Int) := by omega
        clear he hx hr hlt hij hj
        go_wp2_with fail
        refine wp_region_gen2 (S := fun W' => Els W' b (off + i * 4) #[.int .i64 x.a.lv, .int .u64 (u x.a.c), .int .i64 x.a.ig, .int .i64 x.n] ∧ Blk W' w.heap.size 25 #[.int .i64 a.lv, .int .u64 (u a.c), .int .i64 a.ig]) (N := fun W' => Below w.heap.size w W') (by kernel_rfl) ⟨EX.out.drew, AB.out.drew⟩ B.out.drew (fun w1 hS hN => ?_)
        have B1 := Lib.hid hN
        clear hN
        refine wpAnyH_take (i := 0) (v := ?_) (op_at rfl) (by kernel_rfl) (by kernel_rfl) (by kernel_rfl) (fun _ _ _ h => h) (Or.inl ⟨by rfl, ?_⟩) hS ?_; rotate_left; focus ((intro w' hSw; clear hSw; go_simp) <;> with_reducible rfl)
        try simp only [Act.put, List.setIfInBounds_toArray, List.set_cons_zero, List.set_cons_succ]
        refine wpAnyH_take (i := 1) (v := ?_) (op_at rfl) (by kernel_rfl) (by kernel_rfl) (by kernel_rfl) (fun _ _ _ h => h) (Or.inl ⟨by rfl, ?_⟩) hS ?_; rotate_left; focus ((intro w' hSw; clear hSw; go_simp) <;> with_reducible rfl)
        try simp only [Act.put, List.setIfInBounds_toArray, List.set_cons_zero, List.set_cons_succ]
        refine wpAnyH_take (i := 2) (v := ?_) (op_at rfl) (by kernel_rfl) (by kernel_rfl) (by kernel_rfl) (fun _ _ _ h => h) (Or.inl ⟨by rfl, ?_⟩) hS ?_; rotate_left; focus ((intro w' hSw; clear hSw; go_simp) <;> with_reducible rfl)
        try simp only [Act.put, List.setIfInBounds_toArray, List.set_cons_zero, List.set_cons_succ]
        refine wpAnyH_take (i := 3) (v := ?_) (op_at rfl) (by kernel_rfl) (by kernel_rfl) (by kernel_rfl) (fun _ _ _ h => h) (Or.inl ⟨by rfl, ?_⟩) hS ?_; rotate_left; focus ((intro w' hSw; clear hSw; go_simp) <;> with_reducible rfl)
        try simp only [Act.put, List.setIfInBounds_toArray, List.set_cons_zero, List.set_cons_succ]
        refine wpAnyH_take (i := 4) (v := ?_) (op_at rfl) (by kernel_rfl) (by kernel_rfl) (by kernel_rfl) (fun _ _ _ h => h) (Or.inl ⟨by rfl, ?_⟩) hS ?_; rotate_left; focus ((intro w' hSw; clear hSw; go_simp) <;> with_reducible rfl)
        try simp only [Act.put, List.setIfInBounds_toArray, List.set_cons_zero, List.set_cons_succ]
        refine wpAnyH_take (i := 5) (v := ?_) (op_at rfl) (by kernel_rfl) (by kernel_rfl) (by kernel_rfl) (fun _ _ _ h => h) (Or.inl ⟨by rfl, ?_⟩) hS ?_; rotate_left; focus ((intro w' hSw; clear hSw; go_simp) <;> with_reducible rfl)
        try simp only [Act.put, List.setIfInBounds_toArray, List.set_cons_zero, List.set_cons_succ]
        refine wpAnyH_take (i := 6) (v := ?_) (op_at rfl) (by kernel_rfl) (by kernel_rfl) (by kernel_rfl) (fun _ _ _ h => h) (Or.inl ⟨by rfl, ?_⟩) hS ?_; rotate_left; focus ((intro w' hSw; clear hSw; go_simp) <;> with_reducible rfl)
        try simp only [Act.put, List.setIfInBounds_toArray, List.set_cons_zero, List.set_cons_succ]
        refine wpAnyH_take (i := 7) (v := ?_) (op_at rfl) (by kernel_rfl) (by kernel_rfl) (by kernel_rfl) (fun _ _ _ h => h) (Or.inl ⟨by rfl, ?_⟩) hS ?_; rotate_left; focus ((intro w' hSw; clear hSw; go_simp) <;> with_reducible rfl)
        try simp only [Act.put, List.setIfInBounds_toArray, List.set_cons_zero, List.set_cons_succ]
        refine wpAnyH_take (i := 8) (v := ?_) (op_at rfl) (by kernel_rfl) (by kernel_rfl) (by kernel_rfl) (fun _ _ _ h => h) (Or.inl ⟨by rfl, ?_⟩) hS ?_; rotate_left; focus ((intro w' hSw; clear hSw; go_simp) <;> with_reducible rfl)
        try simp only [Act.put, List.setIfInBounds_toArray, List.set_cons_zero, List.set_cons_succ]
        refine wpAnyH_take (i := 9) (v := ?_) (op_at rfl) (by kernel_rfl) (by kernel_rfl) (by kernel_rfl) (fun _ _ _ h => h) (Or.inl ⟨by rfl, ?_⟩) hS ?_; rotate_left; focus ((intro w' hSw; have q := hSw.1; have c0 : w'.cell? ⟨b, off + i * 4, none⟩ = some (.int .i64 x.a.lv) := q.at_ (i := 0) rfl; have c1 : w'.cell? ⟨b, off + i * 4 + 1, none⟩ = some (.int .u64 (u x.a.c)) := q.at_ (i := 1) rfl; have c2 : w'.cell? ⟨b, off + i * 4 + 2, none⟩ = some (.int .i64 x.a.ig) := q.at_ (i := 2) rfl; have c3 : w'.cell? ⟨b, off + i * 4 + 3, none⟩ = some (.int .i64 x.n) := q.at_ (i := 3) rfl; clear q; clear hSw; go_simp) <;> with_reducible rfl)
        try simp only [Act.put, List.setIfInBounds_toArray, List.set_cons_zero, List.set_cons_succ]
        refine wpAnyH_take (i := 10) (v := ?_) (op_at rfl) (by kernel_rfl) (by kernel_rfl) (by kernel_rfl) (fun _ _ _ h => h) (Or.inl ⟨by rfl, ?_⟩) hS ?_; rotate_left; focus ((intro w' hSw; have q := hSw.2; have c0 := q.at_ (i := 0) (v := .int .i64 a.lv) rfl; have c1 := q.at_ (i := 1) (v := .int .u64 (u a.c)) rfl; have c2 := q.at_ (i := 2) (v := .int .i64 a.ig) rfl; clear q; clear hSw; go_simp) <;> with_reducible rfl)
        try simp only [Act.put, List.setIfInBounds_toArray, List.set_cons_zero, List.set_cons_succ]
        refine wpAnyH_ready (rs := [11]) (by kernel_rfl) (by simp) ?_
        refine (AllReadyH.cons (op_at rfl) (fun K hK => ?_) AllReadyH.nil)
        go_simp
        refine (find1_w x a _).mono ?_
        rintro e w2 ⟨rfl, hB⟩
        rw [HC.out]
        have B2 := Lib.hid (below_call (w := w) B1.out hB)
        refine hK.out _ _ ⟨Els.after hS.1 hB, Blk.after hS.2 hB⟩ (fun hS => ?_)
        clear hK K hB
        try simp only [Act.put, List.setIfInBounds_toArray, List.set_cons_zero, List.set_cons_succ]
        refine wpAnyH_take (i := 12) (v := ?_) (op_at rfl) (by kernel_rfl) (by kernel_rfl) (by kernel_rfl) (fun _ _ _ h => h) (Or.inl ⟨by rfl, ?_⟩) hS ?_; rotate_left; focus ((intro w' hSw; clear hSw; go_simp) <;> with_reducible rfl)
        try simp only [Act.put, List.setIfInBounds_toArray, List.set_cons_zero, List.set_cons_succ]
        refine wpAnyH_take (i := 13) (v := ?_) (op_at rfl) (by kernel_rfl) (by kernel_rfl) (by kernel_rfl) (fun _ _ _ h => h) (Or.inl ⟨by rfl, ?_⟩) hS ?_; rotate_left; focus ((intro w' hSw; clear hSw; go_simp) <;> with_reducible rfl)
        try simp only [Act.put, List.setIfInBounds_toArray, List.set_cons_zero, List.set_cons_succ]
        refine wpAnyH_take (i := 14) (v := ?_) (op_at rfl) (by kernel_rfl) (by kernel_rfl) (by kernel_rfl) (fun _ _ _ h => h) (Or.inl ⟨by rfl, ?_⟩) hS ?_; rotate_left; focus ((intro w' hSw; clear hSw; go_simp) <;> with_reducible rfl)
        try simp only [Act.put, List.setIfInBounds_toArray, List.set_cons_zero, List.set_cons_succ]
        refine wpAnyH_take (i := 15) (v := ?_) (op_at rfl) (by kernel_rfl) (by kernel_rfl) (by kernel_rfl) (fun _ _ _ h => h) (Or.inl ⟨by rfl, ?_⟩) hS ?_; rotate_left; focus ((intro w' hSw; clear hSw; go_simp) <;> with_reducible rfl)
        try simp only [Act.put, List.setIfInBounds_toArray, List.set_cons_zero, List.set_cons_succ]
        refine wpAnyH_done (by kernel_rfl) ?_ _
        go_wp2_with fail
        go_ret2
        exact ⟨i, HP.out, by rw [HT.out]; rfl, B2.out⟩
      · have HT : Hid (hitB l a i = false) := Lib.hid (by unfold hitB; rw [List.getElem?_eq_none (by omega)])
        have g1 : ¬ ((i : Int) < (l.length : Int)) := by omega
        have g2 : decide ((i : Int) < (l.length : Int)) = false := decide_eq_false g1
        have g3 : decide (i < l.length) = false := decide_eq_false hil
        clear hlt hij hj hil
        go_wp2_with fail
        refine wp_region_gen2 (S := fun _ => True) (N := fun W' => Below w.heap.size w W') (by kernel_rfl) trivial B.out.drew (fun w1 hS hN => ?_)
        have B1 := Lib.hid hN
        clear hN
        refine wpAnyH_take (i := 0) (v := ?_) (op_at rfl) (by kernel_rfl) (by kernel_rfl) (by kernel_rfl) (fun _ _ _ h => h) (Or.inl ⟨by rfl, ?_⟩) hS ?_; rotate_left; focus ((intro w' hSw; clear hSw; go_simp) <;> with_reducible rfl)
        try simp only [Act.put, List.setIfInBounds_toArray, List.set_cons_zero, List.set_cons_succ]
        refine wpAnyH_take (i := 1) (v := ?_) (op_at rfl) (by kernel_rfl) (by kernel_rfl) (by kernel_rfl) (fun _ _ _ h => h) (Or.inl ⟨by rfl, ?_⟩) hS ?_; rotate_left; focus ((intro w' hSw; clear hSw; go_simp) <;> with_reducible rfl)
        try simp only [Act.put, List.setIfInBounds_toArray, List.set_cons_zero, List.set_cons_succ]
        refine wpAnyH_take (i := 2) (v := ?_) (op_at rfl) (by kernel_rfl) (by kernel_rfl) (by kernel_rfl) (fun _ _ _ h => h) (Or.inl ⟨by rfl, ?_⟩) hS ?_; rotate_left; focus ((intro w' hSw; clear hSw; go_simp) <;> with_reducible rfl)
        try simp only [Act.put, List.setIfInBounds_toArray, List.set_cons_zero, List.set_cons_succ]
        refine wpAnyH_take (i := 3) (v := ?_) (op_at rfl) (by kernel_rfl) (by kernel_rfl) (by kernel_rfl) (fun _ _ _ h => h) (Or.inl ⟨by rfl, ?_⟩) hS ?_; rotate_left; focus ((intro w' hSw; clear hSw; go_simp) <;> with_reducible rfl)
        try simp only [Act.put, List.setIfInBounds_toArray, List.set_cons_zero, List.set_cons_succ]
        refine wpAnyH_take (i := 4) (v := ?_) (op_at rfl) (by kernel_rfl) (by kernel_rfl) (by kernel_rfl) (fun _ _ _ h => h) (Or.inl ⟨by rfl, ?_⟩) hS ?_; rotate_left; focus ((intro w' hSw; clear hSw; go_simp) <;> with_reducible rfl)
        try simp only [Act.put, List.setIfInBounds_toArray, List.set_cons_zero, List.set_cons_succ]
        refine wpAnyH_take (i := 5) (v := undef) (op_at rfl) (by kernel_rfl) (by kernel_rfl) (by kernel_rfl) (fun _ _ _ h => h) (Or.inr ⟨by rfl, rfl⟩) hS ?_
        try simp only [Act.put, List.setIfInBounds_toArray, List.set_cons_zero, List.set_cons_succ]
        refine wpAnyH_take (i := 6) (v := undef) (op_at rfl) (by kernel_rfl) (by kernel_rfl) (by kernel_rfl) (fun _ _ _ h => h) (Or.inr ⟨by rfl, rfl⟩) hS ?_
        try simp only [Act.put, List.setIfInBounds_toArray, List.set_cons_zero, List.set_cons_succ]
        refine wpAnyH_take (i := 7) (v := undef) (op_at rfl) (by kernel_rfl) (by kernel_rfl) (by kernel_rfl) (fun _ _ _ h => h) (Or.inr ⟨by rfl, rfl⟩) hS ?_
        try simp only [Act.put, List.setIfInBounds_toArray, List.set_cons_zero, List.set_cons_succ]
        refine wpAnyH_take (i := 8) (v := undef) (op_at rfl) (by kernel_rfl) (by kernel_rfl) (by kernel_rfl) (fun _ _ _ h => h) (Or.inr ⟨by rfl, rfl⟩) hS ?_
        try simp only [Act.put, List.setIfInBounds_toArray, List.set_cons_zero, List.set_cons_succ]
        refine wpAnyH_take (i := 9) (v := undef) (op_at rfl) (by kernel_rfl) (by kernel_rfl) (by kernel_rfl) (fun _ _ _ h => h) (Or.inr ⟨by rfl, rfl⟩) hS ?_
        try simp only [Act.put, List.setIfInBounds_toArray, List.set_cons_zero, List.set_cons_succ]
        refine wpAnyH_take (i := 10) (v := undef) (op_at rfl) (by kernel_rfl) (by kernel_rfl) (by kernel_rfl) (fun _ _ _ h => h) (Or.inr ⟨by rfl, rfl⟩) hS ?_
        try simp only [Act.put, List.setIfInBounds_toArray, List.set_cons_zero, List.set_cons_succ]
        refine wpAnyH_take (i := 11) (v := undef) (op_at rfl) (by kernel_rfl) (by kernel_rfl) (by kernel_rfl) (fun _ _ _ h => h) (Or.inr ⟨by rfl, rfl⟩) hS ?_
        try simp only [Act.put, List.setIfInBounds_toArray, List.set_cons_zero, List.set_cons_succ]
        refine wpAnyH_take (i := 12) (v := undef) (op_at rfl) (by kernel_rfl) (by kernel_rfl) (by kernel_rfl) (fun _ _ _ h => h) (Or.inr ⟨by rfl, rfl⟩) hS ?_
        try simp only [Act.put, List.setIfInBounds_toArray, List.set_cons_zero, List.set_cons_succ]
        refine wpAnyH_take (i := 13) (v := ?_) (op_at rfl) (by kernel_rfl) (by kernel_rfl) (by kernel_rfl) (fun _ _ _ h => h) (Or.inl ⟨by rfl, ?_⟩) hS ?_; rotate_left; focus ((intro w' hSw; clear hSw; go_simp) <;> with_reducible rfl)
        try simp only [Act.put, List.setIfInBounds_toArray, List.set_cons_zero, List.set_cons_succ]
        refine wpAnyH_take (i := 14) (v := ?_) (op_at rfl) (by kernel_rfl) (by kernel_rfl) (by kernel_rfl) (fun _ _ _ h => h) (Or.inl ⟨by rfl, ?_⟩) hS ?_; rotate_left; focus ((intro w' hSw; clear hSw; go_simp) <;> with_reducible rfl)
        try simp only [Act.put, List.setIfInBounds_toArray, List.set_cons_zero, List.set_cons_succ]
        refine wpAnyH_take (i := 15) (v := ?_) (op_at rfl) (by kernel_rfl) (by kernel_rfl) (by kernel_rfl) (fun _ _ _ h => h) (Or.inl ⟨by rfl, ?_⟩) hS ?_; rotate_left; focus ((intro w' hSw; clear hSw; go_simp) <;> with_reducible rfl)
        try simp only [Act.put, List.setIfInBounds_toArray, List.set_cons_zero, List.set_cons_succ]
        refine wpAnyH_done (by kernel_rfl) ?_ _
        go_wp2_with fail
        go_ret2
        exact ⟨i, HP.out, by rw [HT.out]; rfl, B1.out⟩
set_option maxRecDepth 100000 in
set_option maxHeartbeats 8000000 in
theorem find_w (tb o : Nat) (v : Value) (l : List Ln) (a : Lab) (w : World) (htb : Els w tb o #[v]) (hl : LnsAt w v l) (hr : Rises l) (hle : l.length ≤ 1000) :
    Calls Tryd.prog 46 #[.pointer (some ⟨tb, o, none⟩), .agg #[.int .i64 a.lv, .int .u64 (u a.c), .int .i64 a.ig]] w fun e w' => ∃ i, Pos l a i ∧ e = .returned (.tuple #[.int .i64 (i : Nat), .bool (hitB l a i)]) ∧ Below w.heap.size w w' := by
  have HT := Lib.hid htb
  have HL := Lib.hid hl
  have HR := Lib.hid hr
  clear htb hl hr
  go_enter Tryd.func46, Tryd.ntmps46
  go_wp2_with fail
  refine wp_region_gen2 (S := fun W' => Els W' tb o #[v] ∧ Blk W' w.heap.size 25 #[.int .i64 a.lv, .int .u64 (u a.c), .int .i64 a.ig]) (N := fun W' => Below w.heap.size w W') (by kernel_rfl) ⟨(HT.out.alloc _).drew, (Blk.new' rfl : Blk (w.alloc (.cells #[.int .i64 a.lv, .int .u64 (u a.c), .int .i64 a.ig] 25)) w.heap.size 25 #[.int .i64 a.lv, .int .u64 (u a.c), .int .i64 a.ig]).drew⟩ (below_alloc (Below.refl _ _) _).drew (fun w1 hS hN => ?_)
  have B1 := Lib.hid hN
  clear hN
  refine wpAnyH_take (i := 0) (v := ?_) (op_at rfl) (by kernel_rfl) (by kernel_rfl) (by kernel_rfl) (fun _ _ _ h => h) (Or.inl ⟨by rfl, ?_⟩) hS ?_; rotate_left; focus ((intro w' hSw; clear hSw; go_simp) <;> with_reducible rfl)
  try simp only [Act.put, List.setIfInBounds_toArray, List.set_cons_zero, List.set_cons_succ]
  refine wpAnyH_take (i := 1) (v := ?_) (op_at rfl) (by kernel_rfl) (by kernel_rfl) (by kernel_rfl) (fun _ _ _ h => h) (Or.inl ⟨by rfl, ?_⟩) hS ?_; rotate_left; focus ((intro w' hSw; clear hSw; go_simp) <;> with_reducible rfl)
  try simp only [Act.put, List.setIfInBounds_toArray, List.set_cons_zero, List.set_cons_succ]
  refine wpAnyH_take (i := 2) (v := ?_) (op_at rfl) (by kernel_rfl) (by kernel_rfl) (by kernel_rfl) (fun _ _ _ h => h) (Or.inl ⟨by rfl, ?_⟩) hS ?_; rotate_left; focus ((intro w' hSw; clear hSw; go_simp) <;> with_reducible rfl)
  try simp only [Act.put, List.setIfInBounds_toArray, List.set_cons_zero, List.set_cons_succ]
  refine wpAnyH_take (i := 3) (v := ?_) (op_at rfl) (by kernel_rfl) (by kernel_rfl) (by kernel_rfl) (fun _ _ _ h => h) (Or.inl ⟨by rfl, ?_⟩) hS ?_; rotate_left; focus ((intro w' hSw; have c0 := hSw.1.at_ (i := 0) (v := v) rfl; (try simp only [Nat.add_zero] at c0); clear hSw; go_simp) <;> with_reducible rfl)
  try simp only [Act.put, List.setIfInBounds_toArray, List.set_cons_zero, List.set_cons_succ]
  refine wpAnyH_take (i := 4) (v := ?_) (op_at rfl) (by kernel_rfl) (by kernel_rfl) (by kernel_rfl) (fun _ _ _ h => h) (Or.inl ⟨by rfl, ?_⟩) hS ?_; rotate_left; focus ((intro w' hSw; have q := hSw.2; have c0 := q.at_ (i := 0) (v := .int .i64 a.lv) rfl; have c1 := q.at_ (i := 1) (v := .int .u64 (u a.c)) rfl; have c2 := q.at_ (i := 2) (v := .int .i64 a.ig) rfl; clear q; clear hSw; go_simp) <;> with_reducible rfl)
  try simp only [Act.put, List.setIfInBounds_toArray, List.set_cons_zero, List.set_cons_succ]
  refine wpAnyH_ready (rs := [5]) (by kernel_rfl) (by simp) ?_
  refine (AllReadyH.cons (op_at rfl) (fun K hK => ?_) AllReadyH.nil)
  go_simp
  refine (Search_w v l a _ (HL.out.later B1.out B1.out.size) HR.out hle).mono ?_
  rintro e w2 ⟨i, hP, rfl, hB⟩
  have B2 := Lib.hid (below_call (w := w) B1.out hB)
  have HP := Lib.hid hP
  refine hK.out _ _ ⟨Els.after hS.1 hB, Blk.after hS.2 hB⟩ (fun hS => ?_)
  clear hK K hB hP
  try simp only [Act.put, List.setIfInBounds_toArray, List.set_cons_zero, List.set_cons_succ]
  refine wpAnyH_take (i := 6) (v := ?_) (op_at rfl) (by kernel_rfl) (by kernel_rfl) (by kernel_rfl) (fun _ _ _ h => h) (Or.inl ⟨by rfl, ?_⟩) hS ?_; rotate_left; focus ((intro w' hSw; clear hSw; go_simp) <;> with_reducible rfl)
  try simp only [Act.put, List.setIfInBounds_toArray, List.set_cons_zero, List.set_cons_succ]
  refine wpAnyH_take (i := 7) (v := ?_) (op_at rfl) (by kernel_rfl) (by kernel_rfl) (by kernel_rfl) (fun _ _ _ h => h) (Or.inl ⟨by rfl, ?_⟩) hS ?_; rotate_left; focus ((intro w' hSw; clear hSw; go_simp) <;> with_reducible rfl)
  try simp only [Act.put, List.setIfInBounds_toArray, List.set_cons_zero, List.set_cons_succ]
  refine wpAnyH_take (i := 8) (v := ?_) (op_at rfl) (by kernel_rfl) (by kernel_rfl) (by kernel_rfl) (fun _ _ _ h => h) (Or.inl ⟨by rfl, ?_⟩) hS ?_; rotate_left; focus ((intro w' hSw; clear hSw; go_simp) <;> with_reducible rfl)
  try simp only [Act.put, List.setIfInBounds_toArray, List.set_cons_zero, List.set_cons_succ]
  refine wpAnyH_take (i := 9) (v := ?_) (op_at rfl) (by kernel_rfl) (by kernel_rfl) (by kernel_rfl) (fun _ _ _ h => h) (Or.inl ⟨by rfl, ?_⟩) hS ?_; rotate_left; focus ((intro w' hSw; clear hSw; go_simp) <;> with_reducible rfl)
  try simp only [Act.put, List.setIfInBounds_toArray, List.set_cons_zero, List.set_cons_succ]
  refine wpAnyH_done (by kernel_rfl) ?_ _
  go_wp2_with fail
  go_ret2
  exact ⟨i, HP.out, rfl, B2.out⟩
end Go.Proofs.YtbggaijjgnjknaaDoor
