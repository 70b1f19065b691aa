/-
  THE REFERENCE OF ledger: set.
-/
import Derived.Test.YtbggaijjgnjknaaDoorLgRA
namespace Go.Proofs.YtbggaijjgnjknaaDoor
open Go.RowKit

attribute [local go_sem] u_and u_or u_andNot u_add u_sub u_bit u_eq_zero u_beq

theorem neq_lab (a b : Lab) (w : World) : (binOp .neq 25 (.agg #[.int .i64 a.lv, .int .u64 (u a.c), .int .i64 a.ig]) (.agg #[.int .i64 b.lv, .int .u64 (u b.c), .int .i64 b.ig])).run Tryd.prog w = .ok (.bool (!eqL a b)) w := by
  by_cases h1 : a.lv = b.lv <;> by_cases h2 : a.c = b.c <;> by_cases h3 : a.ig = b.ig <;> go_simp <;> simp [eqL, h1, h2, h3]
theorem neqIs {a b : Lab} {r : Bool} (h : (!eqL a b) = r) : ∀ W, (binOp .neq 25 (.agg #[.int .i64 a.lv, .int .u64 (u a.c), .int .i64 a.ig]) (.agg #[.int .i64 b.lv, .int .u64 (u b.c), .int .i64 b.ig])).run Tryd.prog W = .ok (.bool r) W := fun W => by rw [← h]; exact neq_lab a b W
/-- a line of set's loop -/
def stepS (a : Lab) (n : Int) (s : List Ln × Bool) (x : Ln) : List Ln × Bool :=
  (((if s.2 = false ∧ cmpL a x.a ≤ 0 then s.1 ++ [⟨a, n⟩] else s.1) ++ (if eqL x.a a = true then [] else [x])), s.2 || decide (cmpL a x.a ≤ 0))
def runS (l : List Ln) (a : Lab) (n : Int) (k : Nat) : List Ln × Bool := (l.take k).foldl (stepS a n) ([], n == 0)
theorem runS_next {l : List Ln} {k : Nat} {x : Ln} (hx : l[k]? = some x) (a : Lab) (n : Int) : runS l a n (k + 1) = stepS a n (runS l a n k) x := by
  unfold runS
  rw [List.take_add_one, hx, List.foldl_append]; rfl
theorem run_done (a : Lab) (n : Int) : ∀ (l : List Ln) (o : List Ln), l.foldl (stepS a n) (o, true) = (o ++ l.filter (fun x => !eqL x.a a), true)
  | [], o => by simp
  | x :: r, o => by
    have h : stepS a n (o, true) x = (o ++ (if eqL x.a a = true then [] else [x]), true) := by unfold stepS; simp
    rw [List.foldl_cons, h, run_done a n r, List.filter_cons]
    cases eqL x.a a <;> simp
theorem all_behind {a : Lab} {r : List Ln} (h : ∀ y, y ∈ r → cmpL a y.a < 0) : aheadL r a = [] ∧ behindL r a = r ∧ r.filter (fun x => !eqL x.a a) = r := by
  refine ⟨?_, ?_, ?_⟩
  · unfold aheadL; rw [List.filter_eq_nil_iff]
    intro y hy hd
    have h1 := h y hy
    have h2 := (cmp_flip y.a a).1
    have h3 := (cmp_flip a y.a).1
    simp only [decide_eq_true_eq] at hd
    omega
  · unfold behindL; rw [List.filter_eq_self]
    intro y hy
    exact decide_eq_true ((cmp_flip a y.a).1.1 (h y hy))
  · rw [List.filter_eq_self]
    intro y hy
    have h1 := h y hy
    cases he : eqL y.a a
    · rfl
    · rw [eqL_iff.1 he, cmp_self] at h1; omega
theorem run_free (a : Lab) (n : Int) (hn : n ≠ 0) : ∀ (l : List Ln) (o : List Ln), Rises l → (if (l.foldl (stepS a n) (o, false)).2 = true then (l.foldl (stepS a n) (o, false)).1 else (l.foldl (stepS a n) (o, false)).1 ++ [⟨a, n⟩]) = o ++ setLn l a n
  | [], o, _ => by simp [setLn, aheadL, behindL, lineL, hn]
  | x :: r, o, h => by
    obtain ⟨hx, hr⟩ := h
    by_cases hc : cmpL a x.a ≤ 0
    · have hb : ∀ y, y ∈ r → cmpL a y.a < 0 := fun y hy => by
        have h1 := hx y hy
        by_cases h0 : cmpL a x.a = 0
        · rw [cmp_eq.1 h0]; exact h1
        · exact cmp_lt_trans (by omega) h1
      obtain ⟨h1, h2, h3⟩ := all_behind hb
      have hs : stepS a n (o, false) x = (o ++ [⟨a, n⟩] ++ (if eqL x.a a = true then [] else [x]), true) := by unfold stepS; simp [hc]
      rw [List.foldl_cons, hs, run_done]
      unfold setLn lineL
      unfold aheadL behindL at *
      rw [if_neg hn, List.filter_cons, List.filter_cons, h1, h2, h3]
      by_cases he : x.a = a
      · rw [eqL_iff.2 he, he, cmp_self]; simp
      · have h4 : eqL x.a a = false := by cases h : eqL x.a a; rfl; exact absurd (eqL_iff.1 h) he
        have h5 : 0 < cmpL x.a a := by
          have := (cmp_flip a x.a).1
          have := (cmp_flip a x.a).2
          have h7 : cmpL x.a a ≠ 0 := fun e => he (cmp_eq.1 e)
          omega
        rw [h4, decide_eq_true h5, decide_eq_false (show ¬ cmpL x.a a < 0 by omega)]; simp
    · have h5 : cmpL x.a a < 0 := by have := (cmp_flip x.a a).1; omega
      have h4 : eqL x.a a = false := by cases h : eqL x.a a; rfl; rw [eqL_iff.1 h, cmp_self] at h5; omega
      have hs : stepS a n (o, false) x = (o ++ [x], false) := by unfold stepS; simp [hc, h4]
      rw [List.foldl_cons, hs, run_free a n hn r (o ++ [x]) hr]
      unfold setLn aheadL behindL
      rw [List.filter_cons, List.filter_cons, decide_eq_true h5, decide_eq_false (show ¬ 0 < cmpL x.a a by omega)]; simp
theorem run_set {l : List Ln} (h : Rises l) (a : Lab) (n : Int) : (if (runS l a n l.length).2 = true then (runS l a n l.length).1 else (runS l a n l.length).1 ++ [⟨a, n⟩]) = setLn l a n := by
  unfold runS
  rw [List.take_length]
  by_cases hn : n = 0
  · rw [beq_iff_eq.2 hn, run_done, if_pos rfl, List.nil_append]
    refine rises_ext (rises_filter h _) (set_rises h a n) (fun x => ?_)
    rw [List.mem_filter, mem_set]
    constructor
    · rintro ⟨h1, h2⟩
      exact .inl ⟨h1, fun e => by rw [eqL_iff.2 e] at h2; cases h2⟩
    · rintro (⟨h1, h2⟩ | ⟨h1, _⟩)
      · exact ⟨h1, by cases he : eqL x.a a; rfl; exact absurd (eqL_iff.1 he) h2⟩
      · exact absurd hn h1
  · rw [beq_eq_false_iff_ne.2 hn]
    exact (run_free a n hn l [] h).trans (List.nil_append _)
set_option maxRecDepth 100000 in
set_option maxHeartbeats 16000000 in
theorem rset_w (v0 : Value) (l : List Ln) (a : Lab) (n : Int) (w : World) (hl : LnsAt w v0 l) (hle : l.length ≤ 900) (hr : Rises l) :
    Calls Tryd.prog 34 #[v0, .agg #[.int .i64 a.lv, .int .u64 (u a.c), .int .i64 a.ig], .int .i64 n] w fun e w' => ∃ v', e = .returned v' ∧ OwnL w.heap.size w' v' (setLn l a n) ∧ Below w.heap.size w w' := by
  obtain ⟨i0, hi, hz0, hz1, hz2⟩ := info_parts infoLn
  obtain ⟨A, cA, rfl, hcA, hsc, _⟩ := hl.slice
  have HL := Lib.hid hl
  have HLE := Lib.hid hle
  have HRI := Lib.hid hr
  clear hl hle hr
  go_enter Tryd.func34, Tryd.ntmps34
  go_wp2_with fail
  go_loopw [7, 8, 9] (fun v d s wr => ∃ (k : Nat) (o : List Ln) (dd : Bool) (vv : Value), vv = v ∧ d = .bool dd ∧ s = .int .i64 k ∧ (o, dd) = runS l a n k ∧ k ≤ l.length ∧ o.length ≤ 2 * k ∧ OwnL (w.heap.size + 1) wr vv o ∧ Below w.heap.size w wr ∧ Blk wr w.heap.size 25 #[.int .i64 a.lv, .int .u64 (u a.c), .int .i64 a.ig]) (fun _ _ s _ => l.length - (intOf s).toNat)
  case atStart => exact ⟨0, [], _, _, rfl, rfl, rfl, rfl, Nat.zero_le _, Nat.le_refl _, World.ownsRow_nil _ _ _ _, below_alloc (Below.refl _ _) _, Blk.new' rfl⟩
  case round =>
    obtain ⟨k, o, d, v, rfl, rfl, rfl, hrun, hk, hol, hown, hB, hb⟩ := hrel
    have B := Lib.hid hB
    have BX := Lib.hid hb
    have OW : Hid (OwnL (w.heap.size + 1) wr v o) := Lib.hid hown
    have HRUN := Lib.hid hrun
    clear hB hb hown hrun
    by_cases hkl : k < l.length
    · have HLEN : Hid (o.length ≤ 2 * k) := Lib.hid hol
      have HK : Hid (k ≤ 900) := Lib.hid (by have := HLE.out; omega)
      obtain ⟨x, hx⟩ : ∃ x, l[k]? = some x := ⟨_, List.getElem?_eq_getElem hkl⟩
      obtain ⟨b, off, rfl, _, he⟩ := (HL.out.later B.out B.out.size).el hx (Nat.le_refl _)
      have HX := Lib.hid hx
      have HLT := Lib.hid hkl
      have k0 : (0 : Int) ≤ (k : Int) := by omega
      have k1 : (k : Int) < (l.length : Int) := by omega
      have e10 : IntKind.i64.wrap ((k : Int) + 1) = ((k + 1 : Nat) : Int) := wrapI _ (by omega)
      have EX : Hid (Els wr b (off + k * 4) #[.int .i64 x.a.lv, .int .u64 (u x.a.c), .int .i64 x.a.ig, .int .i64 x.n]) := Lib.hid he
      clear he hx hkl hk hol
      cases d
      · by_cases hc : cmpL a x.a ≤ 0
        · have HCC := Lib.hid hc
          obtain ⟨r, hr⟩ : ∃ r, cmpL a x.a = r := ⟨_, rfl⟩
          have HC := Lib.hid hr
          have d1 : decide (r ≤ 0) = true := decide_eq_true (by rw [← hr]; exact hc)
          have d2 : r ≤ 0 := by rw [← hr]; exact hc
          clear hr hc
          cases hq : eqL x.a a
          · have HQ := Lib.hid hq
            have hE := neqIs (a := x.a) (b := a) (r := true) (by rw [hq]; rfl)
            clear hq
            go_wp2_with fail
            obtain ⟨w1, hw1⟩ : ∃ w1, w1 = wr := ⟨_, rfl⟩
            have B1 : Hid (Below w.heap.size w w1) := Lib.hid (by rw [hw1]; exact B.out)
            replace EX : Hid (Els w1 b (off + k * 4) #[.int .i64 x.a.lv, .int .u64 (u x.a.c), .int .i64 x.a.ig, .int .i64 x.n]) := Lib.hid (by rw [hw1]; exact EX.out)
            replace BX : Hid (Blk w1 w.heap.size 25 #[.int .i64 a.lv, .int .u64 (u a.c), .int .i64 a.ig]) := Lib.hid (by rw [hw1]; exact BX.out)
            replace OW : Hid (OwnL (w.heap.size + 1) w1 v o) := Lib.hid (by rw [hw1]; exact OW.out)
            clear B
            rw [← hw1]
            clear hw1
            refine wp_region_gen2 (S := fun W => Els W b (off + k * 4) #[.int .i64 x.a.lv, .int .u64 (u x.a.c), .int .i64 x.a.ig, .int .i64 x.n] ∧ Blk W w.heap.size 25 #[.int .i64 a.lv, .int .u64 (u a.c), .int .i64 a.ig]) (N := fun W => Below w1.heap.size w1 W) (by kernel_rfl) ⟨EX.out.drew, BX.out.drew⟩ (Below.refl _ _).drew (fun w2 hS hN => ?_)
            have B2 := Lib.hid (below_call (w := w) B1.out hN)
            replace EX := Lib.hid (EX.out.after hN)
            replace BX := Lib.hid (BX.out.after hN)
            replace OW := Lib.hid (OW.out.after hN)
            clear hN
            refine wpAnyH_take (i := 0) (v := ?_) (op_at rfl) (by kernel_rfl) (by kernel_rfl) (by kernel_rfl) (fun _ _ _ h => h) (Or.inl ⟨by rfl, ?_⟩) hS ?_; rotate_left; focus ((intro w' hSw; clear hSw; go_simp) <;> with_reducible rfl)
            try simp only [Act.put, List.setIfInBounds_toArray, List.set_cons_zero, List.set_cons_succ]
            refine wpAnyH_take (i := 1) (v := ?_) (op_at rfl) (by kernel_rfl) (by kernel_rfl) (by kernel_rfl) (fun _ _ _ h => h) (Or.inl ⟨by rfl, ?_⟩) hS ?_; rotate_left; focus ((intro w' hSw; clear hSw; go_simp) <;> with_reducible rfl)
            try simp only [Act.put, List.setIfInBounds_toArray, List.set_cons_zero, List.set_cons_succ]
            refine wpAnyH_take (i := 2) (v := ?_) (op_at rfl) (by kernel_rfl) (by kernel_rfl) (by kernel_rfl) (fun _ _ _ h => h) (Or.inl ⟨by rfl, ?_⟩) hS ?_; rotate_left; focus ((intro w' hSw; clear hSw; go_simp) <;> with_reducible rfl)
            try simp only [Act.put, List.setIfInBounds_toArray, List.set_cons_zero, List.set_cons_succ]
            refine wpAnyH_take (i := 3) (v := ?_) (op_at rfl) (by kernel_rfl) (by kernel_rfl) (by kernel_rfl) (fun _ _ _ h => h) (Or.inl ⟨by rfl, ?_⟩) hS ?_; rotate_left; focus ((intro w' hSw; have qb := hSw.2; have c0 := qb.at_ (i := 0) (v := .int .i64 a.lv) rfl; have c1 := qb.at_ (i := 1) (v := .int .u64 (u a.c)) rfl; have c2 := qb.at_ (i := 2) (v := .int .i64 a.ig) rfl; clear qb; clear hSw; go_simp) <;> with_reducible rfl)
            try simp only [Act.put, List.setIfInBounds_toArray, List.set_cons_zero, List.set_cons_succ]
            refine wpAnyH_take (i := 4) (v := ?_) (op_at rfl) (by kernel_rfl) (by kernel_rfl) (by kernel_rfl) (fun _ _ _ h => h) (Or.inl ⟨by rfl, ?_⟩) hS ?_; rotate_left; focus ((intro w' hSw; clear hSw; go_simp) <;> with_reducible rfl)
            try simp only [Act.put, List.setIfInBounds_toArray, List.set_cons_zero, List.set_cons_succ]
            refine wpAnyH_take (i := 5) (v := ?_) (op_at rfl) (by kernel_rfl) (by kernel_rfl) (by kernel_rfl) (fun _ _ _ h => h) (Or.inl ⟨by rfl, ?_⟩) hS ?_; rotate_left; focus ((intro w' hSw; clear hSw; go_simp) <;> with_reducible rfl)
            try simp only [Act.put, List.setIfInBounds_toArray, List.set_cons_zero, List.set_cons_succ]
            refine wpAnyH_take (i := 6) (v := ?_) (op_at rfl) (by kernel_rfl) (by kernel_rfl) (by kernel_rfl) (fun _ _ _ h => h) (Or.inl ⟨by rfl, ?_⟩) hS ?_; rotate_left; focus ((intro w' hSw; clear hSw; go_simp) <;> with_reducible rfl)
            try simp only [Act.put, List.setIfInBounds_toArray, List.set_cons_zero, List.set_cons_succ]
            refine wpAnyH_take (i := 7) (v := ?_) (op_at rfl) (by kernel_rfl) (by kernel_rfl) (by kernel_rfl) (fun _ _ _ h => h) (Or.inl ⟨by rfl, ?_⟩) hS ?_; rotate_left; focus ((intro w' hSw; clear hSw; go_simp) <;> with_reducible rfl)
            try simp only [Act.put, List.setIfInBounds_toArray, List.set_cons_zero, List.set_cons_succ]
            refine wpAnyH_take (i := 8) (v := ?_) (op_at rfl) (by kernel_rfl) (by kernel_rfl) (by kernel_rfl) (fun _ _ _ h => h) (Or.inl ⟨by rfl, ?_⟩) hS ?_; rotate_left; focus ((intro w' hSw; have qe := hSw.1; have c0 : w'.cell? ⟨b, off + k * 4, none⟩ = some (.int .i64 x.a.lv) := qe.at_ (i := 0) rfl; have c1 : w'.cell? ⟨b, off + k * 4 + 1, none⟩ = some (.int .u64 (u x.a.c)) := qe.at_ (i := 1) rfl; have c2 : w'.cell? ⟨b, off + k * 4 + 2, none⟩ = some (.int .i64 x.a.ig) := qe.at_ (i := 2) rfl; have c3 : w'.cell? ⟨b, off + k * 4 + 3, none⟩ = some (.int .i64 x.n) := qe.at_ (i := 3) rfl; clear qe; clear hSw; go_simp) <;> with_reducible rfl)
            try simp only [Act.put, List.setIfInBounds_toArray, List.set_cons_zero, List.set_cons_succ]
            refine wpAnyH_ready (rs := [9]) (by kernel_rfl) (by simp) ?_
            refine (AllReadyH.cons (op_at rfl) (fun K hK => ?_) AllReadyH.nil)
            go_simp
            refine (rCompare_any a x.a _).mono ?_
            rintro e w3 ⟨rfl, hB⟩
            rw [HC.out]
            have B3 := Lib.hid (below_call (w := w) B2.out hB)
            replace EX := Lib.hid (EX.out.after hB)
            replace BX := Lib.hid (BX.out.after hB)
            replace OW := Lib.hid (OW.out.after hB)
            refine hK.out _ _ ⟨EX.out, BX.out⟩ (fun hS => ?_)
            clear hK K hB
            try simp only [Act.put, List.setIfInBounds_toArray, List.set_cons_zero, List.set_cons_succ]
            refine wpAnyH_take (i := 10) (v := ?_) (op_at rfl) (by kernel_rfl) (by kernel_rfl) (by kernel_rfl) (fun _ _ _ h => h) (Or.inl ⟨by rfl, ?_⟩) hS ?_; rotate_left; focus ((intro w' hSw; clear hSw; go_simp) <;> with_reducible rfl)
            try simp only [Act.put, List.setIfInBounds_toArray, List.set_cons_zero, List.set_cons_succ]
            refine wpAnyH_take (i := 11) (v := ?_) (op_at rfl) (by kernel_rfl) (by kernel_rfl) (by kernel_rfl) (fun _ _ _ h => h) (Or.inl ⟨by rfl, ?_⟩) hS ?_; rotate_left; focus ((intro w' hSw; clear hSw; go_simp) <;> with_reducible rfl)
            try simp only [Act.put, List.setIfInBounds_toArray, List.set_cons_zero, List.set_cons_succ]
            refine wpAnyH_done (by kernel_rfl) ?_ _
            have x0 := BX.out.at_ (i := 0) (v := .int .i64 a.lv) rfl
            have x1 := BX.out.at_ (i := 1) (v := .int .u64 (u a.c)) rfl
            have x2 := BX.out.at_ (i := 2) (v := .int .i64 a.ig) rfl
            have hown := OW.out
            have hsz : w.heap.size + 1 ≤ w3.heap.size := BX.out.lt
            have hlen := HLEN.out
            have hk9 := HK.out
            go_wp2_with (at_builtin; refine wpList_append_own _ rfl _ _ 22 rfl (w.heap.size + 1) 42 i0 (.agg #[.int .i64 0, .int .u64 0, .int .i64 0, .int .i64 0]) 4 32 Tryd.underlying22 hi hz0 hz1 hz2 rfl (by decide) _ _ _ rfl (hown.alloc _) ⟨w3.heap.size, 0, none⟩ 1 1 [.int .i64 a.lv, .int .u64 (u a.c), .int .i64 a.ig, .int .i64 n] rfl rfl (cell_four_new _ _ _ _ _ _) (by simp [Value.oneCell']) (by unfold maxLen; omega) (by omega) (by simp; omega) ?_; intro v' w4 hown' hgrow _; obtain ⟨g', cap', rfl⟩ := ownsRow_succ hown'; have hT := Turns.row_grown hown hgrow)
            have B4 := Lib.hid (B3.out.trans (hT.down B3.out.size (fun _ hk => by omega)))
            replace BX := Lib.hid (BX.out.keepT hT (by omega))
            obtain ⟨o1, ho1⟩ : ∃ o1, o1 = o ++ [⟨a, n⟩] := ⟨_, rfl⟩
            have how := OwnL.snoc (x := ⟨a, n⟩) hown'
            rw [← ho1] at how
            replace HLEN : Hid (o1.length ≤ 2 * k + 1) := Lib.hid (by rw [ho1, List.length_append, List.length_singleton]; have := HLEN.out; omega)
            have Eo1 := Lib.hid ho1
            replace OW := Lib.hid how
            clear hown hsz hlen hk9 hown' hgrow hT ho1 how
            clear x0 x1 x2
            replace EX : Hid (Els w4 b (off + k * 4) #[.int .i64 x.a.lv, .int .u64 (u x.a.c), .int .i64 x.a.ig, .int .i64 x.n]) := Lib.hid (Els.same (HL.out.later B4.out B4.out.size) rfl HX.out)
            refine wp_region_gen2 (S := fun W => Els W b (off + k * 4) #[.int .i64 x.a.lv, .int .u64 (u x.a.c), .int .i64 x.a.ig, .int .i64 x.n] ∧ Blk W w.heap.size 25 #[.int .i64 a.lv, .int .u64 (u a.c), .int .i64 a.ig]) (N := fun W => Below w4.heap.size w4 W) (by kernel_rfl) ⟨EX.out.drew, BX.out.drew⟩ (Below.refl _ _).drew (fun w5 hS hN => ?_)
            have B5 := Lib.hid (below_call (w := w) B4.out hN)
            replace EX := Lib.hid (EX.out.after hN)
            replace BX := Lib.hid (BX.out.after hN)
            replace OW := Lib.hid (OW.out.after hN)
            clear hN
            refine wpAnyH_take (i := 0) (v := ?_) (op_at rfl) (by kernel_rfl) (by kernel_rfl) (by kernel_rfl) (fun _ _ _ h => h) (Or.inl ⟨by rfl, ?_⟩) hS ?_; rotate_left; focus ((intro w' hSw; clear hSw; go_simp) <;> with_reducible rfl)
            try simp only [Act.put, List.setIfInBounds_toArray, List.set_cons_zero, List.set_cons_succ]
            refine wpAnyH_take (i := 1) (v := ?_) (op_at rfl) (by kernel_rfl) (by kernel_rfl) (by kernel_rfl) (fun _ _ _ h => h) (Or.inl ⟨by rfl, ?_⟩) hS ?_; rotate_left; focus ((intro w' hSw; clear hSw; go_simp) <;> with_reducible rfl)
            try simp only [Act.put, List.setIfInBounds_toArray, List.set_cons_zero, List.set_cons_succ]
            refine wpAnyH_take (i := 2) (v := ?_) (op_at rfl) (by kernel_rfl) (by kernel_rfl) (by kernel_rfl) (fun _ _ _ h => h) (Or.inl ⟨by rfl, ?_⟩) hS ?_; rotate_left; focus ((intro w' hSw; clear hSw; go_simp) <;> with_reducible rfl)
            try simp only [Act.put, List.setIfInBounds_toArray, List.set_cons_zero, List.set_cons_succ]
            refine wpAnyH_take (i := 3) (v := ?_) (op_at rfl) (by kernel_rfl) (by kernel_rfl) (by kernel_rfl) (fun _ _ _ h => h) (Or.inl ⟨by rfl, ?_⟩) hS ?_; rotate_left; focus ((intro w' hSw; clear hSw; go_simp) <;> with_reducible rfl)
            try simp only [Act.put, List.setIfInBounds_toArray, List.set_cons_zero, List.set_cons_succ]
            refine wpAnyH_take (i := 4) (v := ?_) (op_at rfl) (by kernel_rfl) (by kernel_rfl) (by kernel_rfl) (fun _ _ _ h => h) (Or.inl ⟨by rfl, ?_⟩) hS ?_; rotate_left; focus ((intro w' hSw; have qe := hSw.1; have c0 : w'.cell? ⟨b, off + k * 4, none⟩ = some (.int .i64 x.a.lv) := qe.at_ (i := 0) rfl; have c1 : w'.cell? ⟨b, off + k * 4 + 1, none⟩ = some (.int .u64 (u x.a.c)) := qe.at_ (i := 1) rfl; have c2 : w'.cell? ⟨b, off + k * 4 + 2, none⟩ = some (.int .i64 x.a.ig) := qe.at_ (i := 2) rfl; have c3 : w'.cell? ⟨b, off + k * 4 + 3, none⟩ = some (.int .i64 x.n) := qe.at_ (i := 3) rfl; clear qe; clear hSw; go_simp) <;> with_reducible rfl)
            try simp only [Act.put, List.setIfInBounds_toArray, List.set_cons_zero, List.set_cons_succ]
            refine wpAnyH_take (i := 5) (v := ?_) (op_at rfl) (by kernel_rfl) (by kernel_rfl) (by kernel_rfl) (fun _ _ _ h => h) (Or.inl ⟨by rfl, ?_⟩) hS ?_; rotate_left; focus ((intro w' hSw; have qb := hSw.2; have c0 := qb.at_ (i := 0) (v := .int .i64 a.lv) rfl; have c1 := qb.at_ (i := 1) (v := .int .u64 (u a.c)) rfl; have c2 := qb.at_ (i := 2) (v := .int .i64 a.ig) rfl; clear qb; clear hSw; go_simp) <;> with_reducible rfl)
            try simp only [Act.put, List.setIfInBounds_toArray, List.set_cons_zero, List.set_cons_succ]
            refine wpAnyH_take (i := 6) (v := ?_) (op_at rfl) (by kernel_rfl) (by kernel_rfl) (by kernel_rfl) (fun _ _ _ h => h) (Or.inl ⟨by rfl, ?_⟩) hS ?_; rotate_left; focus ((intro w' hSw; clear hSw; go_simp) <;> with_reducible rfl)
            try simp only [Act.put, List.setIfInBounds_toArray, List.set_cons_zero, List.set_cons_succ]
            refine wpAnyH_done (by kernel_rfl) ?_ _
            have c0 : w5.cell? ⟨b, off + k * 4, none⟩ = some (.int .i64 x.a.lv) := EX.out.at_ (i := 0) rfl
            have c1 : w5.cell? ⟨b, off + k * 4 + 1, none⟩ = some (.int .u64 (u x.a.c)) := EX.out.at_ (i := 1) rfl
            have c2 : w5.cell? ⟨b, off + k * 4 + 2, none⟩ = some (.int .i64 x.a.ig) := EX.out.at_ (i := 2) rfl
            have c3 : w5.cell? ⟨b, off + k * 4 + 3, none⟩ = some (.int .i64 x.n) := EX.out.at_ (i := 3) rfl
            have hown := OW.out
            have hsz : w.heap.size + 1 ≤ w5.heap.size := BX.out.lt
            have hlen := HLEN.out
            have hk9 := HK.out
            go_wp2_with (at_builtin; refine wpList_append_own _ rfl _ _ 22 rfl (w.heap.size + 1) 42 i0 (.agg #[.int .i64 0, .int .u64 0, .int .i64 0, .int .i64 0]) 4 32 Tryd.underlying22 hi hz0 hz1 hz2 rfl (by decide) _ _ _ rfl (hown.alloc _) ⟨w5.heap.size, 0, none⟩ 1 1 [.int .i64 x.a.lv, .int .u64 (u x.a.c), .int .i64 x.a.ig, .int .i64 x.n] rfl rfl (cell_four_new _ _ _ _ _ _) (by simp [Value.oneCell']) (by unfold maxLen; omega) (by omega) (by simp; omega) ?_; intro v' w6 hown' hgrow _; obtain ⟨g', cap', rfl⟩ := ownsRow_succ hown'; have hT := Turns.row_grown hown hgrow)
            have B6 := Lib.hid (B5.out.trans (hT.down B5.out.size (fun _ hk => by omega)))
            replace BX := Lib.hid (BX.out.keepT hT (by omega))
            obtain ⟨o2, ho2⟩ : ∃ o2, o2 = o1 ++ [x] := ⟨_, rfl⟩
            have how := OwnL.snoc (x := x) hown'
            rw [← ho2] at how
            replace HLEN : Hid (o2.length ≤ 2 * k + 2) := Lib.hid (by rw [ho2, List.length_append, List.length_singleton]; have := HLEN.out; omega)
            have Eo2 := Lib.hid ho2
            replace OW := Lib.hid how
            clear hown hsz hlen hk9 hown' hgrow hT ho2 how
            clear c0 c1 c2 c3
            go_roundw
            case rel => exact ⟨k + 1, o2, true, _, rfl, rfl, by first | rfl | go_num, by rw [runS_next HX.out, ← HRUN.out]; unfold stepS; simp [Eo2.out, Eo1.out, HQ.out, HCC.out], HLT.out, by have := HLEN.out; omega, OW.out, B6.out, BX.out⟩
            case measure => have := HLT.out; simp [intOf]; omega
          · have HQ := Lib.hid hq
            have hE := neqIs (a := x.a) (b := a) (r := false) (by rw [hq]; rfl)
            clear hq
            go_wp2_with fail
            obtain ⟨w1, hw1⟩ : ∃ w1, w1 = wr := ⟨_, rfl⟩
            have B1 : Hid (Below w.heap.size w w1) := Lib.hid (by rw [hw1]; exact B.out)
            replace EX : Hid (Els w1 b (off + k * 4) #[.int .i64 x.a.lv, .int .u64 (u x.a.c), .int .i64 x.a.ig, .int .i64 x.n]) := Lib.hid (by rw [hw1]; exact EX.out)
            replace BX : Hid (Blk w1 w.heap.size 25 #[.int .i64 a.lv, .int .u64 (u a.c), .int .i64 a.ig]) := Lib.hid (by rw [hw1]; exact BX.out)
            replace OW : Hid (OwnL (w.heap.size + 1) w1 v o) := Lib.hid (by rw [hw1]; exact OW.out)
            clear B
            rw [← hw1]
            clear hw1
            refine wp_region_gen2 (S := fun W => Els W b (off + k * 4) #[.int .i64 x.a.lv, .int .u64 (u x.a.c), .int .i64 x.a.ig, .int .i64 x.n] ∧ Blk W w.heap.size 25 #[.int .i64 a.lv, .int .u64 (u a.c), .int .i64 a.ig]) (N := fun W => Below w1.heap.size w1 W) (by kernel_rfl) ⟨EX.out.drew, BX.out.drew⟩ (Below.refl _ _).drew (fun w2 hS hN => ?_)
            have B2 := Lib.hid (below_call (w := w) B1.out hN)
            replace EX := Lib.hid (EX.out.after hN)
            replace BX := Lib.hid (BX.out.after hN)
            replace OW := Lib.hid (OW.out.after hN)
            clear hN
            refine wpAnyH_take (i := 0) (v := ?_) (op_at rfl) (by kernel_rfl) (by kernel_rfl) (by kernel_rfl) (fun _ _ _ h => h) (Or.inl ⟨by rfl, ?_⟩) hS ?_; rotate_left; focus ((intro w' hSw; clear hSw; go_simp) <;> with_reducible rfl)
            try simp only [Act.put, List.setIfInBounds_toArray, List.set_cons_zero, List.set_cons_succ]
            refine wpAnyH_take (i := 1) (v := ?_) (op_at rfl) (by kernel_rfl) (by kernel_rfl) (by kernel_rfl) (fun _ _ _ h => h) (Or.inl ⟨by rfl, ?_⟩) hS ?_; rotate_left; focus ((intro w' hSw; clear hSw; go_simp) <;> with_reducible rfl)
            try simp only [Act.put, List.setIfInBounds_toArray, List.set_cons_zero, List.set_cons_succ]
            refine wpAnyH_take (i := 2) (v := ?_) (op_at rfl) (by kernel_rfl) (by kernel_rfl) (by kernel_rfl) (fun _ _ _ h => h) (Or.inl ⟨by rfl, ?_⟩) hS ?_; rotate_left; focus ((intro w' hSw; clear hSw; go_simp) <;> with_reducible rfl)
            try simp only [Act.put, List.setIfInBounds_toArray, List.set_cons_zero, List.set_cons_succ]
            refine wpAnyH_take (i := 3) (v := ?_) (op_at rfl) (by kernel_rfl) (by kernel_rfl) (by kernel_rfl) (fun _ _ _ h => h) (Or.inl ⟨by rfl, ?_⟩) hS ?_; rotate_left; focus ((intro w' hSw; have qb := hSw.2; have c0 := qb.at_ (i := 0) (v := .int .i64 a.lv) rfl; have c1 := qb.at_ (i := 1) (v := .int .u64 (u a.c)) rfl; have c2 := qb.at_ (i := 2) (v := .int .i64 a.ig) rfl; clear qb; clear hSw; go_simp) <;> with_reducible rfl)
            try simp only [Act.put, List.setIfInBounds_toArray, List.set_cons_zero, List.set_cons_succ]
            refine wpAnyH_take (i := 4) (v := ?_) (op_at rfl) (by kernel_rfl) (by kernel_rfl) (by kernel_rfl) (fun _ _ _ h => h) (Or.inl ⟨by rfl, ?_⟩) hS ?_; rotate_left; focus ((intro w' hSw; clear hSw; go_simp) <;> with_reducible rfl)
            try simp only [Act.put, List.setIfInBounds_toArray, List.set_cons_zero, List.set_cons_succ]
            refine wpAnyH_take (i := 5) (v := ?_) (op_at rfl) (by kernel_rfl) (by kernel_rfl) (by kernel_rfl) (fun _ _ _ h => h) (Or.inl ⟨by rfl, ?_⟩) hS ?_; rotate_left; focus ((intro w' hSw; clear hSw; go_simp) <;> with_reducible rfl)
            try simp only [Act.put, List.setIfInBounds_toArray, List.set_cons_zero, List.set_cons_succ]
            refine wpAnyH_take (i := 6) (v := ?_) (op_at rfl) (by kernel_rfl) (by kernel_rfl) (by kernel_rfl) (fun _ _ _ h => h) (Or.inl ⟨by rfl, ?_⟩) hS ?_; rotate_left; focus ((intro w' hSw; clear hSw; go_simp) <;> with_reducible rfl)
            try simp only [Act.put, List.setIfInBounds_toArray, List.set_cons_zero, List.set_cons_succ]
            refine wpAnyH_take (i := 7) (v := ?_) (op_at rfl) (by kernel_rfl) (by kernel_rfl) (by kernel_rfl) (fun _ _ _ h => h) (Or.inl ⟨by rfl, ?_⟩) hS ?_; rotate_left; focus ((intro w' hSw; clear hSw; go_simp) <;> with_reducible rfl)
            try simp only [Act.put, List.setIfInBounds_toArray, List.set_cons_zero, List.set_cons_succ]
            refine wpAnyH_take (i := 8) (v := ?_) (op_at rfl) (by kernel_rfl) (by kernel_rfl) (by kernel_rfl) (fun _ _ _ h => h) (Or.inl ⟨by rfl, ?_⟩) hS ?_; rotate_left; focus ((intro w' hSw; have qe := hSw.1; have c0 : w'.cell? ⟨b, off + k * 4, none⟩ = some (.int .i64 x.a.lv) := qe.at_ (i := 0) rfl; have c1 : w'.cell? ⟨b, off + k * 4 + 1, none⟩ = some (.int .u64 (u x.a.c)) := qe.at_ (i := 1) rfl; have c2 : w'.cell? ⟨b, off + k * 4 + 2, none⟩ = some (.int .i64 x.a.ig) := qe.at_ (i := 2) rfl; have c3 : w'.cell? ⟨b, off + k * 4 + 3, none⟩ = some (.int .i64 x.n) := qe.at_ (i := 3) rfl; clear qe; clear hSw; go_simp) <;> with_reducible rfl)
            try simp only [Act.put, List.setIfInBounds_toArray, List.set_cons_zero, List.set_cons_succ]
            refine wpAnyH_ready (rs := [9]) (by kernel_rfl) (by simp) ?_
            refine (AllReadyH.cons (op_at rfl) (fun K hK => ?_) AllReadyH.nil)
            go_simp
            refine (rCompare_any a x.a _).mono ?_
            rintro e w3 ⟨rfl, hB⟩
            rw [HC.out]
            have B3 := Lib.hid (below_call (w := w) B2.out hB)
            replace EX := Lib.hid (EX.out.after hB)
            replace BX := Lib.hid (BX.out.after hB)
            replace OW := Lib.hid (OW.out.after hB)
            refine hK.out _ _ ⟨EX.out, BX.out⟩ (fun hS => ?_)
            clear hK K hB
            try simp only [Act.put, List.setIfInBounds_toArray, List.set_cons_zero, List.set_cons_succ]
            refine wpAnyH_take (i := 10) (v := ?_) (op_at rfl) (by kernel_rfl) (by kernel_rfl) (by kernel_rfl) (fun _ _ _ h => h) (Or.inl ⟨by rfl, ?_⟩) hS ?_; rotate_left; focus ((intro w' hSw; clear hSw; go_simp) <;> with_reducible rfl)
            try simp only [Act.put, List.setIfInBounds_toArray, List.set_cons_zero, List.set_cons_succ]
            refine wpAnyH_take (i := 11) (v := ?_) (op_at rfl) (by kernel_rfl) (by kernel_rfl) (by kernel_rfl) (fun _ _ _ h => h) (Or.inl ⟨by rfl, ?_⟩) hS ?_; rotate_left; focus ((intro w' hSw; clear hSw; go_simp) <;> with_reducible rfl)
            try simp only [Act.put, List.setIfInBounds_toArray, List.set_cons_zero, List.set_cons_succ]
            refine wpAnyH_done (by kernel_rfl) ?_ _
            have x0 := BX.out.at_ (i := 0) (v := .int .i64 a.lv) rfl
            have x1 := BX.out.at_ (i := 1) (v := .int .u64 (u a.c)) rfl
            have x2 := BX.out.at_ (i := 2) (v := .int .i64 a.ig) rfl
            have hown := OW.out
            have hsz : w.heap.size + 1 ≤ w3.heap.size := BX.out.lt
            have hlen := HLEN.out
            have hk9 := HK.out
            go_wp2_with (at_builtin; refine wpList_append_own _ rfl _ _ 22 rfl (w.heap.size + 1) 42 i0 (.agg #[.int .i64 0, .int .u64 0, .int .i64 0, .int .i64 0]) 4 32 Tryd.underlying22 hi hz0 hz1 hz2 rfl (by decide) _ _ _ rfl (hown.alloc _) ⟨w3.heap.size, 0, none⟩ 1 1 [.int .i64 a.lv, .int .u64 (u a.c), .int .i64 a.ig, .int .i64 n] rfl rfl (cell_four_new _ _ _ _ _ _) (by simp [Value.oneCell']) (by unfold maxLen; omega) (by omega) (by simp; omega) ?_; intro v' w4 hown' hgrow _; obtain ⟨g', cap', rfl⟩ := ownsRow_succ hown'; have hT := Turns.row_grown hown hgrow)
            have B4 := Lib.hid (B3.out.trans (hT.down B3.out.size (fun _ hk => by omega)))
            replace BX := Lib.hid (BX.out.keepT hT (by omega))
            obtain ⟨o1, ho1⟩ : ∃ o1, o1 = o ++ [⟨a, n⟩] := ⟨_, rfl⟩
            have how := OwnL.snoc (x := ⟨a, n⟩) hown'
            rw [← ho1] at how
            replace HLEN : Hid (o1.length ≤ 2 * k + 1) := Lib.hid (by rw [ho1, List.length_append, List.length_singleton]; have := HLEN.out; omega)
            have Eo1 := Lib.hid ho1
            replace OW := Lib.hid how
            clear hown hsz hlen hk9 hown' hgrow hT ho1 how
            clear x0 x1 x2
            replace EX : Hid (Els w4 b (off + k * 4) #[.int .i64 x.a.lv, .int .u64 (u x.a.c), .int .i64 x.a.ig, .int .i64 x.n]) := Lib.hid (Els.same (HL.out.later B4.out B4.out.size) rfl HX.out)
            refine wp_region_gen2 (S := fun W => Els W b (off + k * 4) #[.int .i64 x.a.lv, .int .u64 (u x.a.c), .int .i64 x.a.ig, .int .i64 x.n] ∧ Blk W w.heap.size 25 #[.int .i64 a.lv, .int .u64 (u a.c), .int .i64 a.ig]) (N := fun W => Below w4.heap.size w4 W) (by kernel_rfl) ⟨EX.out.drew, BX.out.drew⟩ (Below.refl _ _).drew (fun w5 hS hN => ?_)
            have B5 := Lib.hid (below_call (w := w) B4.out hN)
            replace EX := Lib.hid (EX.out.after hN)
            replace BX := Lib.hid (BX.out.after hN)
            replace OW := Lib.hid (OW.out.after hN)
            clear hN
            refine wpAnyH_take (i := 0) (v := ?_) (op_at rfl) (by kernel_rfl) (by kernel_rfl) (by kernel_rfl) (fun _ _ _ h => h) (Or.inl ⟨by rfl, ?_⟩) hS ?_; rotate_left; focus ((intro w' hSw; clear hSw; go_simp) <;> with_reducible rfl)
            try simp only [Act.put, List.setIfInBounds_toArray, List.set_cons_zero, List.set_cons_succ]
            refine wpAnyH_take (i := 1) (v := ?_) (op_at rfl) (by kernel_rfl) (by kernel_rfl) (by kernel_rfl) (fun _ _ _ h => h) (Or.inl ⟨by rfl, ?_⟩) hS ?_; rotate_left; focus ((intro w' hSw; clear hSw; go_simp) <;> with_reducible rfl)
            try simp only [Act.put, List.setIfInBounds_toArray, List.set_cons_zero, List.set_cons_succ]
            refine wpAnyH_take (i := 2) (v := ?_) (op_at rfl) (by kernel_rfl) (by kernel_rfl) (by kernel_rfl) (fun _ _ _ h => h) (Or.inl ⟨by rfl, ?_⟩) hS ?_; rotate_left; focus ((intro w' hSw; clear hSw; go_simp) <;> with_reducible rfl)
            try simp only [Act.put, List.setIfInBounds_toArray, List.set_cons_zero, List.set_cons_succ]
            refine wpAnyH_take (i := 3) (v := ?_) (op_at rfl) (by kernel_rfl) (by kernel_rfl) (by kernel_rfl) (fun _ _ _ h => h) (Or.inl ⟨by rfl, ?_⟩) hS ?_; rotate_left; focus ((intro w' hSw; clear hSw; go_simp) <;> with_reducible rfl)
            try simp only [Act.put, List.setIfInBounds_toArray, List.set_cons_zero, List.set_cons_succ]
            refine wpAnyH_take (i := 4) (v := ?_) (op_at rfl) (by kernel_rfl) (by kernel_rfl) (by kernel_rfl) (fun _ _ _ h => h) (Or.inl ⟨by rfl, ?_⟩) hS ?_; rotate_left; focus ((intro w' hSw; have qe := hSw.1; have c0 : w'.cell? ⟨b, off + k * 4, none⟩ = some (.int .i64 x.a.lv) := qe.at_ (i := 0) rfl; have c1 : w'.cell? ⟨b, off + k * 4 + 1, none⟩ = some (.int .u64 (u x.a.c)) := qe.at_ (i := 1) rfl; have c2 : w'.cell? ⟨b, off + k * 4 + 2, none⟩ = some (.int .i64 x.a.ig) := qe.at_ (i := 2) rfl; have c3 : w'.cell? ⟨b, off + k * 4 + 3, none⟩ = some (.int .i64 x.n) := qe.at_ (i := 3) rfl; clear qe; clear hSw; go_simp) <;> with_reducible rfl)
            try simp only [Act.put, List.setIfInBounds_toArray, List.set_cons_zero, List.set_cons_succ]
            refine wpAnyH_take (i := 5) (v := ?_) (op_at rfl) (by kernel_rfl) (by kernel_rfl) (by kernel_rfl) (fun _ _ _ h => h) (Or.inl ⟨by rfl, ?_⟩) hS ?_; rotate_left; focus ((intro w' hSw; have qb := hSw.2; have c0 := qb.at_ (i := 0) (v := .int .i64 a.lv) rfl; have c1 := qb.at_ (i := 1) (v := .int .u64 (u a.c)) rfl; have c2 := qb.at_ (i := 2) (v := .int .i64 a.ig) rfl; clear qb; clear hSw; go_simp) <;> with_reducible rfl)
            try simp only [Act.put, List.setIfInBounds_toArray, List.set_cons_zero, List.set_cons_succ]
            refine wpAnyH_take (i := 6) (v := ?_) (op_at rfl) (by kernel_rfl) (by kernel_rfl) (by kernel_rfl) (fun _ _ _ h => h) (Or.inl ⟨by rfl, ?_⟩) hS ?_; rotate_left; focus ((intro w' hSw; clear hSw; go_simp) <;> with_reducible rfl)
            try simp only [Act.put, List.setIfInBounds_toArray, List.set_cons_zero, List.set_cons_succ]
            refine wpAnyH_done (by kernel_rfl) ?_ _
            go_wp2_with fail
            go_roundw
            case rel => exact ⟨k + 1, o1, true, _, rfl, rfl, by first | rfl | go_num, by rw [runS_next HX.out, ← HRUN.out]; unfold stepS; simp [Eo1.out, HQ.out, HCC.out], HLT.out, by have := HLEN.out; omega, OW.out, B5.out, BX.out⟩
            case measure => have := HLT.out; simp [intOf]; omega
        · have HCC := Lib.hid hc
          obtain ⟨r, hr⟩ : ∃ r, cmpL a x.a = r := ⟨_, rfl⟩
          have HC := Lib.hid hr
          have d1 : decide (r ≤ 0) = false := decide_eq_false (by rw [← hr]; exact hc)
          have d2 : ¬ r ≤ 0 := by rw [← hr]; exact hc
          have hq : eqL x.a a = false := nbool fun h => hc (by rw [eqL_iff.1 h, cmp_self]; decide)
          have HQ := Lib.hid hq
          have hE := neqIs (a := x.a) (b := a) (r := true) (by rw [hq]; rfl)
          clear hr hc hq
          go_wp2_with fail
          obtain ⟨w1, hw1⟩ : ∃ w1, w1 = wr := ⟨_, rfl⟩
          have B1 : Hid (Below w.heap.size w w1) := Lib.hid (by rw [hw1]; exact B.out)
          replace EX : Hid (Els w1 b (off + k * 4) #[.int .i64 x.a.lv, .int .u64 (u x.a.c), .int .i64 x.a.ig, .int .i64 x.n]) := Lib.hid (by rw [hw1]; exact EX.out)
          replace BX : Hid (Blk w1 w.heap.size 25 #[.int .i64 a.lv, .int .u64 (u a.c), .int .i64 a.ig]) := Lib.hid (by rw [hw1]; exact BX.out)
          replace OW : Hid (OwnL (w.heap.size + 1) w1 v o) := Lib.hid (by rw [hw1]; exact OW.out)
          clear B
          rw [← hw1]
          clear hw1
          refine wp_region_gen2 (S := fun W => Els W b (off + k * 4) #[.int .i64 x.a.lv, .int .u64 (u x.a.c), .int .i64 x.a.ig, .int .i64 x.n] ∧ Blk W w.heap.size 25 #[.int .i64 a.lv, .int .u64 (u a.c), .int .i64 a.ig]) (N := fun W => Below w1.heap.size w1 W) (by kernel_rfl) ⟨EX.out.drew, BX.out.drew⟩ (Below.refl _ _).drew (fun w2 hS hN => ?_)
          have B2 := Lib.hid (below_call (w := w) B1.out hN)
          replace EX := Lib.hid (EX.out.after hN)
          replace BX := Lib.hid (BX.out.after hN)
          replace OW := Lib.hid (OW.out.after hN)
          clear hN
          refine wpAnyH_take (i := 0) (v := ?_) (op_at rfl) (by kernel_rfl) (by kernel_rfl) (by kernel_rfl) (fun _ _ _ h => h) (Or.inl ⟨by rfl, ?_⟩) hS ?_; rotate_left; focus ((intro w' hSw; clear hSw; go_simp) <;> with_reducible rfl)
          try simp only [Act.put, List.setIfInBounds_toArray, List.set_cons_zero, List.set_cons_succ]
          refine wpAnyH_take (i := 1) (v := ?_) (op_at rfl) (by kernel_rfl) (by kernel_rfl) (by kernel_rfl) (fun _ _ _ h => h) (Or.inl ⟨by rfl, ?_⟩) hS ?_; rotate_left; focus ((intro w' hSw; clear hSw; go_simp) <;> with_reducible rfl)
          try simp only [Act.put, List.setIfInBounds_toArray, List.set_cons_zero, List.set_cons_succ]
          refine wpAnyH_take (i := 2) (v := ?_) (op_at rfl) (by kernel_rfl) (by kernel_rfl) (by kernel_rfl) (fun _ _ _ h => h) (Or.inl ⟨by rfl, ?_⟩) hS ?_; rotate_left; focus ((intro w' hSw; clear hSw; go_simp) <;> with_reducible rfl)
          try simp only [Act.put, List.setIfInBounds_toArray, List.set_cons_zero, List.set_cons_succ]
          refine wpAnyH_take (i := 3) (v := ?_) (op_at rfl) (by kernel_rfl) (by kernel_rfl) (by kernel_rfl) (fun _ _ _ h => h) (Or.inl ⟨by rfl, ?_⟩) hS ?_; rotate_left; focus ((intro w' hSw; have qb := hSw.2; have c0 := qb.at_ (i := 0) (v := .int .i64 a.lv) rfl; have c1 := qb.at_ (i := 1) (v := .int .u64 (u a.c)) rfl; have c2 := qb.at_ (i := 2) (v := .int .i64 a.ig) rfl; clear qb; clear hSw; go_simp) <;> with_reducible rfl)
          try simp only [Act.put, List.setIfInBounds_toArray, List.set_cons_zero, List.set_cons_succ]
          refine wpAnyH_take (i := 4) (v := ?_) (op_at rfl) (by kernel_rfl) (by kernel_rfl) (by kernel_rfl) (fun _ _ _ h => h) (Or.inl ⟨by rfl, ?_⟩) hS ?_; rotate_left; focus ((intro w' hSw; clear hSw; go_simp) <;> with_reducible rfl)
          try simp only [Act.put, List.setIfInBounds_toArray, List.set_cons_zero, List.set_cons_succ]
          refine wpAnyH_take (i := 5) (v := ?_) (op_at rfl) (by kernel_rfl) (by kernel_rfl) (by kernel_rfl) (fun _ _ _ h => h) (Or.inl ⟨by rfl, ?_⟩) hS ?_; rotate_left; focus ((intro w' hSw; clear hSw; go_simp) <;> with_reducible rfl)
          try simp only [Act.put, List.setIfInBounds_toArray, List.set_cons_zero, List.set_cons_succ]
          refine wpAnyH_take (i := 6) (v := ?_) (op_at rfl) (by kernel_rfl) (by kernel_rfl) (by kernel_rfl) (fun _ _ _ h => h) (Or.inl ⟨by rfl, ?_⟩) hS ?_; rotate_left; focus ((intro w' hSw; clear hSw; go_simp) <;> with_reducible rfl)
          try simp only [Act.put, List.setIfInBounds_toArray, List.set_cons_zero, List.set_cons_succ]
          refine wpAnyH_take (i := 7) (v := ?_) (op_at rfl) (by kernel_rfl) (by kernel_rfl) (by kernel_rfl) (fun _ _ _ h => h) (Or.inl ⟨by rfl, ?_⟩) hS ?_; rotate_left; focus ((intro w' hSw; clear hSw; go_simp) <;> with_reducible rfl)
          try simp only [Act.put, List.setIfInBounds_toArray, List.set_cons_zero, List.set_cons_succ]
          refine wpAnyH_take (i := 8) (v := ?_) (op_at rfl) (by kernel_rfl) (by kernel_rfl) (by kernel_rfl) (fun _ _ _ h => h) (Or.inl ⟨by rfl, ?_⟩) hS ?_; rotate_left; focus ((intro w' hSw; have qe := hSw.1; have c0 : w'.cell? ⟨b, off + k * 4, none⟩ = some (.int .i64 x.a.lv) := qe.at_ (i := 0) rfl; have c1 : w'.cell? ⟨b, off + k * 4 + 1, none⟩ = some (.int .u64 (u x.a.c)) := qe.at_ (i := 1) rfl; have c2 : w'.cell? ⟨b, off + k * 4 + 2, none⟩ = some (.int .i64 x.a.ig) := qe.at_ (i := 2) rfl; have c3 : w'.cell? ⟨b, off + k * 4 + 3, none⟩ = some (.int .i64 x.n) := qe.at_ (i := 3) rfl; clear qe; clear hSw; go_simp) <;> with_reducible rfl)
          try simp only [Act.put, List.setIfInBounds_toArray, List.set_cons_zero, List.set_cons_succ]
          refine wpAnyH_ready (rs := [9]) (by kernel_rfl) (by simp) ?_
          refine (AllReadyH.cons (op_at rfl) (fun K hK => ?_) AllReadyH.nil)
          go_simp
          refine (rCompare_any a x.a _).mono ?_
          rintro e w3 ⟨rfl, hB⟩
          rw [HC.out]
          have B3 := Lib.hid (below_call (w := w) B2.out hB)
          replace EX := Lib.hid (EX.out.after hB)
          replace BX := Lib.hid (BX.out.after hB)
          replace OW := Lib.hid (OW.out.after hB)
          refine hK.out _ _ ⟨EX.out, BX.out⟩ (fun hS => ?_)
          clear hK K hB
          try simp only [Act.put, List.setIfInBounds_toArray, List.set_cons_zero, List.set_cons_succ]
          refine wpAnyH_take (i := 10) (v := ?_) (op_at rfl) (by kernel_rfl) (by kernel_rfl) (by kernel_rfl) (fun _ _ _ h => h) (Or.inl ⟨by rfl, ?_⟩) hS ?_; rotate_left; focus ((intro w' hSw; clear hSw; go_simp) <;> with_reducible rfl)
          try simp only [Act.put, List.setIfInBounds_toArray, List.set_cons_zero, List.set_cons_succ]
          refine wpAnyH_take (i := 11) (v := ?_) (op_at rfl) (by kernel_rfl) (by kernel_rfl) (by kernel_rfl) (fun _ _ _ h => h) (Or.inl ⟨by rfl, ?_⟩) hS ?_; rotate_left; focus ((intro w' hSw; clear hSw; go_simp) <;> with_reducible rfl)
          try simp only [Act.put, List.setIfInBounds_toArray, List.set_cons_zero, List.set_cons_succ]
          refine wpAnyH_done (by kernel_rfl) ?_ _
          go_wp2_with fail
          refine wp_region_gen2 (S := fun W => Els W b (off + k * 4) #[.int .i64 x.a.lv, .int .u64 (u x.a.c), .int .i64 x.a.ig, .int .i64 x.n] ∧ Blk W w.heap.size 25 #[.int .i64 a.lv, .int .u64 (u a.c), .int .i64 a.ig]) (N := fun W => Below w3.heap.size w3 W) (by kernel_rfl) ⟨EX.out.drew, BX.out.drew⟩ (Below.refl _ _).drew (fun w4 hS hN => ?_)
          have B4 := Lib.hid (below_call (w := w) B3.out hN)
          replace EX := Lib.hid (EX.out.after hN)
          replace BX := Lib.hid (BX.out.after hN)
          replace OW := Lib.hid (OW.out.after hN)
          clear hN
          refine wpAnyH_take (i := 0) (v := ?_) (op_at rfl) (by kernel_rfl) (by kernel_rfl) (by kernel_rfl) (fun _ _ _ h => h) (Or.inl ⟨by rfl, ?_⟩) hS ?_; rotate_left; focus ((intro w' hSw; clear hSw; go_simp) <;> with_reducible rfl)
          try simp only [Act.put, List.setIfInBounds_toArray, List.set_cons_zero, List.set_cons_succ]
          refine wpAnyH_take (i := 1) (v := ?_) (op_at rfl) (by kernel_rfl) (by kernel_rfl) (by kernel_rfl) (fun _ _ _ h => h) (Or.inl ⟨by rfl, ?_⟩) hS ?_; rotate_left; focus ((intro w' hSw; clear hSw; go_simp) <;> with_reducible rfl)
          try simp only [Act.put, List.setIfInBounds_toArray, List.set_cons_zero, List.set_cons_succ]
          refine wpAnyH_take (i := 2) (v := ?_) (op_at rfl) (by kernel_rfl) (by kernel_rfl) (by kernel_rfl) (fun _ _ _ h => h) (Or.inl ⟨by rfl, ?_⟩) hS ?_; rotate_left; focus ((intro w' hSw; clear hSw; go_simp) <;> with_reducible rfl)
          try simp only [Act.put, List.setIfInBounds_toArray, List.set_cons_zero, List.set_cons_succ]
          refine wpAnyH_take (i := 3) (v := ?_) (op_at rfl) (by kernel_rfl) (by kernel_rfl) (by kernel_rfl) (fun _ _ _ h => h) (Or.inl ⟨by rfl, ?_⟩) hS ?_; rotate_left; focus ((intro w' hSw; clear hSw; go_simp) <;> with_reducible rfl)
          try simp only [Act.put, List.setIfInBounds_toArray, List.set_cons_zero, List.set_cons_succ]
          refine wpAnyH_take (i := 4) (v := ?_) (op_at rfl) (by kernel_rfl) (by kernel_rfl) (by kernel_rfl) (fun _ _ _ h => h) (Or.inl ⟨by rfl, ?_⟩) hS ?_; rotate_left; focus ((intro w' hSw; have qe := hSw.1; have c0 : w'.cell? ⟨b, off + k * 4, none⟩ = some (.int .i64 x.a.lv) := qe.at_ (i := 0) rfl; have c1 : w'.cell? ⟨b, off + k * 4 + 1, none⟩ = some (.int .u64 (u x.a.c)) := qe.at_ (i := 1) rfl; have c2 : w'.cell? ⟨b, off + k * 4 + 2, none⟩ = some (.int .i64 x.a.ig) := qe.at_ (i := 2) rfl; have c3 : w'.cell? ⟨b, off + k * 4 + 3, none⟩ = some (.int .i64 x.n) := qe.at_ (i := 3) rfl; clear qe; clear hSw; go_simp) <;> with_reducible rfl)
          try simp only [Act.put, List.setIfInBounds_toArray, List.set_cons_zero, List.set_cons_succ]
          refine wpAnyH_take (i := 5) (v := ?_) (op_at rfl) (by kernel_rfl) (by kernel_rfl) (by kernel_rfl) (fun _ _ _ h => h) (Or.inl ⟨by rfl, ?_⟩) hS ?_; rotate_left; focus ((intro w' hSw; have qb := hSw.2; have c0 := qb.at_ (i := 0) (v := .int .i64 a.lv) rfl; have c1 := qb.at_ (i := 1) (v := .int .u64 (u a.c)) rfl; have c2 := qb.at_ (i := 2) (v := .int .i64 a.ig) rfl; clear qb; clear hSw; go_simp) <;> with_reducible rfl)
          try simp only [Act.put, List.setIfInBounds_toArray, List.set_cons_zero, List.set_cons_succ]
          refine wpAnyH_take (i := 6) (v := ?_) (op_at rfl) (by kernel_rfl) (by kernel_rfl) (by kernel_rfl) (fun _ _ _ h => h) (Or.inl ⟨by rfl, ?_⟩) hS ?_; rotate_left; focus ((intro w' hSw; clear hSw; go_simp) <;> with_reducible rfl)
          try simp only [Act.put, List.setIfInBounds_toArray, List.set_cons_zero, List.set_cons_succ]
          refine wpAnyH_done (by kernel_rfl) ?_ _
          have c0 : w4.cell? ⟨b, off + k * 4, none⟩ = some (.int .i64 x.a.lv) := EX.out.at_ (i := 0) rfl
          have c1 : w4.cell? ⟨b, off + k * 4 + 1, none⟩ = some (.int .u64 (u x.a.c)) := EX.out.at_ (i := 1) rfl
          have c2 : w4.cell? ⟨b, off + k * 4 + 2, none⟩ = some (.int .i64 x.a.ig) := EX.out.at_ (i := 2) rfl
          have c3 : w4.cell? ⟨b, off + k * 4 + 3, none⟩ = some (.int .i64 x.n) := EX.out.at_ (i := 3) rfl
          have hown := OW.out
          have hsz : w.heap.size + 1 ≤ w4.heap.size := BX.out.lt
          have hlen := HLEN.out
          have hk9 := HK.out
          go_wp2_with (at_builtin; refine wpList_append_own _ rfl _ _ 22 rfl (w.heap.size + 1) 42 i0 (.agg #[.int .i64 0, .int .u64 0, .int .i64 0, .int .i64 0]) 4 32 Tryd.underlying22 hi hz0 hz1 hz2 rfl (by decide) _ _ _ rfl (hown.alloc _) ⟨w4.heap.size, 0, none⟩ 1 1 [.int .i64 x.a.lv, .int .u64 (u x.a.c), .int .i64 x.a.ig, .int .i64 x.n] rfl rfl (cell_four_new _ _ _ _ _ _) (by simp [Value.oneCell']) (by unfold maxLen; omega) (by omega) (by simp; omega) ?_; intro v' w5 hown' hgrow _; obtain ⟨g', cap', rfl⟩ := ownsRow_succ hown'; have hT := Turns.row_grown hown hgrow)
          have B5 := Lib.hid (B4.out.trans (hT.down B4.out.size (fun _ hk => by omega)))
          replace BX := Lib.hid (BX.out.keepT hT (by omega))
          obtain ⟨o2, ho2⟩ : ∃ o2, o2 = o ++ [x] := ⟨_, rfl⟩
          have how := OwnL.snoc (x := x) hown'
          rw [← ho2] at how
          replace HLEN : Hid (o2.length ≤ 2 * k + 1) := Lib.hid (by rw [ho2, List.length_append, List.length_singleton]; have := HLEN.out; omega)
          have Eo2 := Lib.hid ho2
          replace OW := Lib.hid how
          clear hown hsz hlen hk9 hown' hgrow hT ho2 how
          clear c0 c1 c2 c3
          go_roundw
          case rel => exact ⟨k + 1, o2, false, _, rfl, rfl, by first | rfl | go_num, by rw [runS_next HX.out, ← HRUN.out]; unfold stepS; simp [Eo2.out, HQ.out, HCC.out], HLT.out, by have := HLEN.out; omega, OW.out, B5.out, BX.out⟩
          case measure => have := HLT.out; simp [intOf]; omega
      · cases hq : eqL x.a a
        · have HQ := Lib.hid hq
          have hE := neqIs (a := x.a) (b := a) (r := true) (by rw [hq]; rfl)
          clear hq
          go_wp2_with fail
          obtain ⟨w1, hw1⟩ : ∃ w1, w1 = wr := ⟨_, rfl⟩
          have B1 : Hid (Below w.heap.size w w1) := Lib.hid (by rw [hw1]; exact B.out)
          replace EX : Hid (Els w1 b (off + k * 4) #[.int .i64 x.a.lv, .int .u64 (u x.a.c), .int .i64 x.a.ig, .int .i64 x.n]) := Lib.hid (by rw [hw1]; exact EX.out)
          replace BX : Hid (Blk w1 w.heap.size 25 #[.int .i64 a.lv, .int .u64 (u a.c), .int .i64 a.ig]) := Lib.hid (by rw [hw1]; exact BX.out)
          replace OW : Hid (OwnL (w.heap.size + 1) w1 v o) := Lib.hid (by rw [hw1]; exact OW.out)
          clear B
          rw [← hw1]
          clear hw1
          refine wp_region_gen2 (S := fun W => Els W b (off + k * 4) #[.int .i64 x.a.lv, .int .u64 (u x.a.c), .int .i64 x.a.ig, .int .i64 x.n] ∧ Blk W w.heap.size 25 #[.int .i64 a.lv, .int .u64 (u a.c), .int .i64 a.ig]) (N := fun W => Below w1.heap.size w1 W) (by kernel_rfl) ⟨EX.out.drew, BX.out.drew⟩ (Below.refl _ _).drew (fun w2 hS hN => ?_)
          have B2 := Lib.hid (below_call (w := w) B1.out hN)
          replace EX := Lib.hid (EX.out.after hN)
          replace BX := Lib.hid (BX.out.after hN)
          replace OW := Lib.hid (OW.out.after hN)
          clear hN
          refine wpAnyH_take (i := 0) (v := ?_) (op_at rfl) (by kernel_rfl) (by kernel_rfl) (by kernel_rfl) (fun _ _ _ h => h) (Or.inl ⟨by rfl, ?_⟩) hS ?_; rotate_left; focus ((intro w' hSw; clear hSw; go_simp) <;> with_reducible rfl)
          try simp only [Act.put, List.setIfInBounds_toArray, List.set_cons_zero, List.set_cons_succ]
          refine wpAnyH_take (i := 1) (v := ?_) (op_at rfl) (by kernel_rfl) (by kernel_rfl) (by kernel_rfl) (fun _ _ _ h => h) (Or.inl ⟨by rfl, ?_⟩) hS ?_; rotate_left; focus ((intro w' hSw; clear hSw; go_simp) <;> with_reducible rfl)
          try simp only [Act.put, List.setIfInBounds_toArray, List.set_cons_zero, List.set_cons_succ]
          refine wpAnyH_take (i := 2) (v := ?_) (op_at rfl) (by kernel_rfl) (by kernel_rfl) (by kernel_rfl) (fun _ _ _ h => h) (Or.inl ⟨by rfl, ?_⟩) hS ?_; rotate_left; focus ((intro w' hSw; clear hSw; go_simp) <;> with_reducible rfl)
          try simp only [Act.put, List.setIfInBounds_toArray, List.set_cons_zero, List.set_cons_succ]
          refine wpAnyH_take (i := 3) (v := undef) (op_at rfl) (by kernel_rfl) (by kernel_rfl) (by kernel_rfl) (fun _ _ _ h => h) (Or.inr ⟨by rfl, rfl⟩) hS ?_
          try simp only [Act.put, List.setIfInBounds_toArray, List.set_cons_zero, List.set_cons_succ]
          refine wpAnyH_take (i := 4) (v := undef) (op_at rfl) (by kernel_rfl) (by kernel_rfl) (by kernel_rfl) (fun _ _ _ h => h) (Or.inr ⟨by rfl, rfl⟩) hS ?_
          try simp only [Act.put, List.setIfInBounds_toArray, List.set_cons_zero, List.set_cons_succ]
          refine wpAnyH_take (i := 5) (v := undef) (op_at rfl) (by kernel_rfl) (by kernel_rfl) (by kernel_rfl) (fun _ _ _ h => h) (Or.inr ⟨by rfl, rfl⟩) hS ?_
          try simp only [Act.put, List.setIfInBounds_toArray, List.set_cons_zero, List.set_cons_succ]
          refine wpAnyH_take (i := 6) (v := undef) (op_at rfl) (by kernel_rfl) (by kernel_rfl) (by kernel_rfl) (fun _ _ _ h => h) (Or.inr ⟨by rfl, rfl⟩) hS ?_
          try simp only [Act.put, List.setIfInBounds_toArray, List.set_cons_zero, List.set_cons_succ]
          refine wpAnyH_take (i := 7) (v := undef) (op_at rfl) (by kernel_rfl) (by kernel_rfl) (by kernel_rfl) (fun _ _ _ h => h) (Or.inr ⟨by rfl, rfl⟩) hS ?_
          try simp only [Act.put, List.setIfInBounds_toArray, List.set_cons_zero, List.set_cons_succ]
          refine wpAnyH_take (i := 8) (v := undef) (op_at rfl) (by kernel_rfl) (by kernel_rfl) (by kernel_rfl) (fun _ _ _ h => h) (Or.inr ⟨by rfl, rfl⟩) hS ?_
          try simp only [Act.put, List.setIfInBounds_toArray, List.set_cons_zero, List.set_cons_succ]
          refine wpAnyH_take (i := 9) (v := undef) (op_at rfl) (by kernel_rfl) (by kernel_rfl) (by kernel_rfl) (fun _ _ _ h => h) (Or.inr ⟨by rfl, rfl⟩) hS ?_
          try simp only [Act.put, List.setIfInBounds_toArray, List.set_cons_zero, List.set_cons_succ]
          refine wpAnyH_take (i := 10) (v := undef) (op_at rfl) (by kernel_rfl) (by kernel_rfl) (by kernel_rfl) (fun _ _ _ h => h) (Or.inr ⟨by rfl, rfl⟩) hS ?_
          try simp only [Act.put, List.setIfInBounds_toArray, List.set_cons_zero, List.set_cons_succ]
          refine wpAnyH_take (i := 11) (v := ?_) (op_at rfl) (by kernel_rfl) (by kernel_rfl) (by kernel_rfl) (fun _ _ _ h => h) (Or.inl ⟨by rfl, ?_⟩) hS ?_; rotate_left; focus ((intro w' hSw; clear hSw; go_simp) <;> with_reducible rfl)
          try simp only [Act.put, List.setIfInBounds_toArray, List.set_cons_zero, List.set_cons_succ]
          refine wpAnyH_done (by kernel_rfl) ?_ _
          go_wp2_with fail
          refine wp_region_gen2 (S := fun W => Els W b (off + k * 4) #[.int .i64 x.a.lv, .int .u64 (u x.a.c), .int .i64 x.a.ig, .int .i64 x.n] ∧ Blk W w.heap.size 25 #[.int .i64 a.lv, .int .u64 (u a.c), .int .i64 a.ig]) (N := fun W => Below w2.heap.size w2 W) (by kernel_rfl) ⟨EX.out.drew, BX.out.drew⟩ (Below.refl _ _).drew (fun w3 hS hN => ?_)
          have B3 := Lib.hid (below_call (w := w) B2.out hN)
          replace EX := Lib.hid (EX.out.after hN)
          replace BX := Lib.hid (BX.out.after hN)
          replace OW := Lib.hid (OW.out.after hN)
          clear hN
          refine wpAnyH_take (i := 0) (v := ?_) (op_at rfl) (by kernel_rfl) (by kernel_rfl) (by kernel_rfl) (fun _ _ _ h => h) (Or.inl ⟨by rfl, ?_⟩) hS ?_; rotate_left; focus ((intro w' hSw; clear hSw; go_simp) <;> with_reducible rfl)
          try simp only [Act.put, List.setIfInBounds_toArray, List.set_cons_zero, List.set_cons_succ]
          refine wpAnyH_take (i := 1) (v := ?_) (op_at rfl) (by kernel_rfl) (by kernel_rfl) (by kernel_rfl) (fun _ _ _ h => h) (Or.inl ⟨by rfl, ?_⟩) hS ?_; rotate_left; focus ((intro w' hSw; clear hSw; go_simp) <;> with_reducible rfl)
          try simp only [Act.put, List.setIfInBounds_toArray, List.set_cons_zero, List.set_cons_succ]
          refine wpAnyH_take (i := 2) (v := ?_) (op_at rfl) (by kernel_rfl) (by kernel_rfl) (by kernel_rfl) (fun _ _ _ h => h) (Or.inl ⟨by rfl, ?_⟩) hS ?_; rotate_left; focus ((intro w' hSw; clear hSw; go_simp) <;> with_reducible rfl)
          try simp only [Act.put, List.setIfInBounds_toArray, List.set_cons_zero, List.set_cons_succ]
          refine wpAnyH_take (i := 3) (v := ?_) (op_at rfl) (by kernel_rfl) (by kernel_rfl) (by kernel_rfl) (fun _ _ _ h => h) (Or.inl ⟨by rfl, ?_⟩) hS ?_; rotate_left; focus ((intro w' hSw; clear hSw; go_simp) <;> with_reducible rfl)
          try simp only [Act.put, List.setIfInBounds_toArray, List.set_cons_zero, List.set_cons_succ]
          refine wpAnyH_take (i := 4) (v := ?_) (op_at rfl) (by kernel_rfl) (by kernel_rfl) (by kernel_rfl) (fun _ _ _ h => h) (Or.inl ⟨by rfl, ?_⟩) hS ?_; rotate_left; focus ((intro w' hSw; have qe := hSw.1; have c0 : w'.cell? ⟨b, off + k * 4, none⟩ = some (.int .i64 x.a.lv) := qe.at_ (i := 0) rfl; have c1 : w'.cell? ⟨b, off + k * 4 + 1, none⟩ = some (.int .u64 (u x.a.c)) := qe.at_ (i := 1) rfl; have c2 : w'.cell? ⟨b, off + k * 4 + 2, none⟩ = some (.int .i64 x.a.ig) := qe.at_ (i := 2) rfl; have c3 : w'.cell? ⟨b, off + k * 4 + 3, none⟩ = some (.int .i64 x.n) := qe.at_ (i := 3) rfl; clear qe; clear hSw; go_simp) <;> with_reducible rfl)
          try simp only [Act.put, List.setIfInBounds_toArray, List.set_cons_zero, List.set_cons_succ]
          refine wpAnyH_take (i := 5) (v := ?_) (op_at rfl) (by kernel_rfl) (by kernel_rfl) (by kernel_rfl) (fun _ _ _ h => h) (Or.inl ⟨by rfl, ?_⟩) hS ?_; rotate_left; focus ((intro w' hSw; have qb := hSw.2; have c0 := qb.at_ (i := 0) (v := .int .i64 a.lv) rfl; have c1 := qb.at_ (i := 1) (v := .int .u64 (u a.c)) rfl; have c2 := qb.at_ (i := 2) (v := .int .i64 a.ig) rfl; clear qb; clear hSw; go_simp) <;> with_reducible rfl)
          try simp only [Act.put, List.setIfInBounds_toArray, List.set_cons_zero, List.set_cons_succ]
          refine wpAnyH_take (i := 6) (v := ?_) (op_at rfl) (by kernel_rfl) (by kernel_rfl) (by kernel_rfl) (fun _ _ _ h => h) (Or.inl ⟨by rfl, ?_⟩) hS ?_; rotate_left; focus ((intro w' hSw; clear hSw; go_simp) <;> with_reducible rfl)
          try simp only [Act.put, List.setIfInBounds_toArray, List.set_cons_zero, List.set_cons_succ]
          refine wpAnyH_done (by kernel_rfl) ?_ _
          have c0 : w3.cell? ⟨b, off + k * 4, none⟩ = some (.int .i64 x.a.lv) := EX.out.at_ (i := 0) rfl
          have c1 : w3.cell? ⟨b, off + k * 4 + 1, none⟩ = some (.int .u64 (u x.a.c)) := EX.out.at_ (i := 1) rfl
          have c2 : w3.cell? ⟨b, off + k * 4 + 2, none⟩ = some (.int .i64 x.a.ig) := EX.out.at_ (i := 2) rfl
          have c3 : w3.cell? ⟨b, off + k * 4 + 3, none⟩ = some (.int .i64 x.n) := EX.out.at_ (i := 3) rfl
          have hown := OW.out
          have hsz : w.heap.size + 1 ≤ w3.heap.size := BX.out.lt
          have hlen := HLEN.out
          have hk9 := HK.out
          go_wp2_with (at_builtin; refine wpList_append_own _ rfl _ _ 22 rfl (w.heap.size + 1) 42 i0 (.agg #[.int .i64 0, .int .u64 0, .int .i64 0, .int .i64 0]) 4 32 Tryd.underlying22 hi hz0 hz1 hz2 rfl (by decide) _ _ _ rfl (hown.alloc _) ⟨w3.heap.size, 0, none⟩ 1 1 [.int .i64 x.a.lv, .int .u64 (u x.a.c), .int .i64 x.a.ig, .int .i64 x.n] rfl rfl (cell_four_new _ _ _ _ _ _) (by simp [Value.oneCell']) (by unfold maxLen; omega) (by omega) (by simp; omega) ?_; intro v' w4 hown' hgrow _; obtain ⟨g', cap', rfl⟩ := ownsRow_succ hown'; have hT := Turns.row_grown hown hgrow)
          have B4 := Lib.hid (B3.out.trans (hT.down B3.out.size (fun _ hk => by omega)))
          replace BX := Lib.hid (BX.out.keepT hT (by omega))
          obtain ⟨o2, ho2⟩ : ∃ o2, o2 = o ++ [x] := ⟨_, rfl⟩
          have how := OwnL.snoc (x := x) hown'
          rw [← ho2] at how
          replace HLEN : Hid (o2.length ≤ 2 * k + 1) := Lib.hid (by rw [ho2, List.length_append, List.length_singleton]; have := HLEN.out; omega)
          have Eo2 := Lib.hid ho2
          replace OW := Lib.hid how
          clear hown hsz hlen hk9 hown' hgrow hT ho2 how
          clear c0 c1 c2 c3
          go_roundw
          case rel => exact ⟨k + 1, o2, true, _, rfl, rfl, by first | rfl | go_num, by rw [runS_next HX.out, ← HRUN.out]; unfold stepS; simp [Eo2.out, HQ.out], HLT.out, by have := HLEN.out; omega, OW.out, B4.out, BX.out⟩
          case measure => have := HLT.out; simp [intOf]; omega
        · have HQ := Lib.hid hq
          have hE := neqIs (a := x.a) (b := a) (r := false) (by rw [hq]; rfl)
          clear hq
          go_wp2_with fail
          obtain ⟨w1, hw1⟩ : ∃ w1, w1 = wr := ⟨_, rfl⟩
          have B1 : Hid (Below w.heap.size w w1) := Lib.hid (by rw [hw1]; exact B.out)
          replace EX : Hid (Els w1 b (off + k * 4) #[.int .i64 x.a.lv, .int .u64 (u x.a.c), .int .i64 x.a.ig, .int .i64 x.n]) := Lib.hid (by rw [hw1]; exact EX.out)
          replace BX : Hid (Blk w1 w.heap.size 25 #[.int .i64 a.lv, .int .u64 (u a.c), .int .i64 a.ig]) := Lib.hid (by rw [hw1]; exact BX.out)
          replace OW : Hid (OwnL (w.heap.size + 1) w1 v o) := Lib.hid (by rw [hw1]; exact OW.out)
          clear B
          rw [← hw1]
          clear hw1
          refine wp_region_gen2 (S := fun W => Els W b (off + k * 4) #[.int .i64 x.a.lv, .int .u64 (u x.a.c), .int .i64 x.a.ig, .int .i64 x.n] ∧ Blk W w.heap.size 25 #[.int .i64 a.lv, .int .u64 (u a.c), .int .i64 a.ig]) (N := fun W => Below w1.heap.size w1 W) (by kernel_rfl) ⟨EX.out.drew, BX.out.drew⟩ (Below.refl _ _).drew (fun w2 hS hN => ?_)
          have B2 := Lib.hid (below_call (w := w) B1.out hN)
          replace EX := Lib.hid (EX.out.after hN)
          replace BX := Lib.hid (BX.out.after hN)
          replace OW := Lib.hid (OW.out.after hN)
          clear hN
          refine wpAnyH_take (i := 0) (v := ?_) (op_at rfl) (by kernel_rfl) (by kernel_rfl) (by kernel_rfl) (fun _ _ _ h => h) (Or.inl ⟨by rfl, ?_⟩) hS ?_; rotate_left; focus ((intro w' hSw; clear hSw; go_simp) <;> with_reducible rfl)
          try simp only [Act.put, List.setIfInBounds_toArray, List.set_cons_zero, List.set_cons_succ]
          refine wpAnyH_take (i := 1) (v := ?_) (op_at rfl) (by kernel_rfl) (by kernel_rfl) (by kernel_rfl) (fun _ _ _ h => h) (Or.inl ⟨by rfl, ?_⟩) hS ?_; rotate_left; focus ((intro w' hSw; clear hSw; go_simp) <;> with_reducible rfl)
          try simp only [Act.put, List.setIfInBounds_toArray, List.set_cons_zero, List.set_cons_succ]
          refine wpAnyH_take (i := 2) (v := ?_) (op_at rfl) (by kernel_rfl) (by kernel_rfl) (by kernel_rfl) (fun _ _ _ h => h) (Or.inl ⟨by rfl, ?_⟩) hS ?_; rotate_left; focus ((intro w' hSw; clear hSw; go_simp) <;> with_reducible rfl)
          try simp only [Act.put, List.setIfInBounds_toArray, List.set_cons_zero, List.set_cons_succ]
          refine wpAnyH_take (i := 3) (v := undef) (op_at rfl) (by kernel_rfl) (by kernel_rfl) (by kernel_rfl) (fun _ _ _ h => h) (Or.inr ⟨by rfl, rfl⟩) hS ?_
          try simp only [Act.put, List.setIfInBounds_toArray, List.set_cons_zero, List.set_cons_succ]
          refine wpAnyH_take (i := 4) (v := undef) (op_at rfl) (by kernel_rfl) (by kernel_rfl) (by kernel_rfl) (fun _ _ _ h => h) (Or.inr ⟨by rfl, rfl⟩) hS ?_
          try simp only [Act.put, List.setIfInBounds_toArray, List.set_cons_zero, List.set_cons_succ]
          refine wpAnyH_take (i := 5) (v := undef) (op_at rfl) (by kernel_rfl) (by kernel_rfl) (by kernel_rfl) (fun _ _ _ h => h) (Or.inr ⟨by rfl, rfl⟩) hS ?_
          try simp only [Act.put, List.setIfInBounds_toArray, List.set_cons_zero, List.set_cons_succ]
          refine wpAnyH_take (i := 6) (v := undef) (op_at rfl) (by kernel_rfl) (by kernel_rfl) (by kernel_rfl) (fun _ _ _ h => h) (Or.inr ⟨by rfl, rfl⟩) hS ?_
          try simp only [Act.put, List.setIfInBounds_toArray, List.set_cons_zero, List.set_cons_succ]
          refine wpAnyH_take (i := 7) (v := undef) (op_at rfl) (by kernel_rfl) (by kernel_rfl) (by kernel_rfl) (fun _ _ _ h => h) (Or.inr ⟨by rfl, rfl⟩) hS ?_
          try simp only [Act.put, List.setIfInBounds_toArray, List.set_cons_zero, List.set_cons_succ]
          refine wpAnyH_take (i := 8) (v := undef) (op_at rfl) (by kernel_rfl) (by kernel_rfl) (by kernel_rfl) (fun _ _ _ h => h) (Or.inr ⟨by rfl, rfl⟩) hS ?_
          try simp only [Act.put, List.setIfInBounds_toArray, List.set_cons_zero, List.set_cons_succ]
          refine wpAnyH_take (i := 9) (v := undef) (op_at rfl) (by kernel_rfl) (by kernel_rfl) (by kernel_rfl) (fun _ _ _ h => h) (Or.inr ⟨by rfl, rfl⟩) hS ?_
          try simp only [Act.put, List.setIfInBounds_toArray, List.set_cons_zero, List.set_cons_succ]
          refine wpAnyH_take (i := 10) (v := undef) (op_at rfl) (by kernel_rfl) (by kernel_rfl) (by kernel_rfl) (fun _ _ _ h => h) (Or.inr ⟨by rfl, rfl⟩) hS ?_
          try simp only [Act.put, List.setIfInBounds_toArray, List.set_cons_zero, List.set_cons_succ]
          refine wpAnyH_take (i := 11) (v := ?_) (op_at rfl) (by kernel_rfl) (by kernel_rfl) (by kernel_rfl) (fun _ _ _ h => h) (Or.inl ⟨by rfl, ?_⟩) hS ?_; rotate_left; focus ((intro w' hSw; clear hSw; go_simp) <;> with_reducible rfl)
          try simp only [Act.put, List.setIfInBounds_toArray, List.set_cons_zero, List.set_cons_succ]
          refine wpAnyH_done (by kernel_rfl) ?_ _
          go_wp2_with fail
          refine wp_region_gen2 (S := fun W => Els W b (off + k * 4) #[.int .i64 x.a.lv, .int .u64 (u x.a.c), .int .i64 x.a.ig, .int .i64 x.n] ∧ Blk W w.heap.size 25 #[.int .i64 a.lv, .int .u64 (u a.c), .int .i64 a.ig]) (N := fun W => Below w2.heap.size w2 W) (by kernel_rfl) ⟨EX.out.drew, BX.out.drew⟩ (Below.refl _ _).drew (fun w3 hS hN => ?_)
          have B3 := Lib.hid (below_call (w := w) B2.out hN)
          replace EX := Lib.hid (EX.out.after hN)
          replace BX := Lib.hid (BX.out.after hN)
          replace OW := Lib.hid (OW.out.after hN)
          clear hN
          refine wpAnyH_take (i := 0) (v := ?_) (op_at rfl) (by kernel_rfl) (by kernel_rfl) (by kernel_rfl) (fun _ _ _ h => h) (Or.inl ⟨by rfl, ?_⟩) hS ?_; rotate_left; focus ((intro w' hSw; clear hSw; go_simp) <;> with_reducible rfl)
          try simp only [Act.put, List.setIfInBounds_toArray, List.set_cons_zero, List.set_cons_succ]
          refine wpAnyH_take (i := 1) (v := ?_) (op_at rfl) (by kernel_rfl) (by kernel_rfl) (by kernel_rfl) (fun _ _ _ h => h) (Or.inl ⟨by rfl, ?_⟩) hS ?_; rotate_left; focus ((intro w' hSw; clear hSw; go_simp) <;> with_reducible rfl)
          try simp only [Act.put, List.setIfInBounds_toArray, List.set_cons_zero, List.set_cons_succ]
          refine wpAnyH_take (i := 2) (v := ?_) (op_at rfl) (by kernel_rfl) (by kernel_rfl) (by kernel_rfl) (fun _ _ _ h => h) (Or.inl ⟨by rfl, ?_⟩) hS ?_; rotate_left; focus ((intro w' hSw; clear hSw; go_simp) <;> with_reducible rfl)
          try simp only [Act.put, List.setIfInBounds_toArray, List.set_cons_zero, List.set_cons_succ]
          refine wpAnyH_take (i := 3) (v := ?_) (op_at rfl) (by kernel_rfl) (by kernel_rfl) (by kernel_rfl) (fun _ _ _ h => h) (Or.inl ⟨by rfl, ?_⟩) hS ?_; rotate_left; focus ((intro w' hSw; clear hSw; go_simp) <;> with_reducible rfl)
          try simp only [Act.put, List.setIfInBounds_toArray, List.set_cons_zero, List.set_cons_succ]
          refine wpAnyH_take (i := 4) (v := ?_) (op_at rfl) (by kernel_rfl) (by kernel_rfl) (by kernel_rfl) (fun _ _ _ h => h) (Or.inl ⟨by rfl, ?_⟩) hS ?_; rotate_left; focus ((intro w' hSw; have qe := hSw.1; have c0 : w'.cell? ⟨b, off + k * 4, none⟩ = some (.int .i64 x.a.lv) := qe.at_ (i := 0) rfl; have c1 : w'.cell? ⟨b, off + k * 4 + 1, none⟩ = some (.int .u64 (u x.a.c)) := qe.at_ (i := 1) rfl; have c2 : w'.cell? ⟨b, off + k * 4 + 2, none⟩ = some (.int .i64 x.a.ig) := qe.at_ (i := 2) rfl; have c3 : w'.cell? ⟨b, off + k * 4 + 3, none⟩ = some (.int .i64 x.n) := qe.at_ (i := 3) rfl; clear qe; clear hSw; go_simp) <;> with_reducible rfl)
          try simp only [Act.put, List.setIfInBounds_toArray, List.set_cons_zero, List.set_cons_succ]
          refine wpAnyH_take (i := 5) (v := ?_) (op_at rfl) (by kernel_rfl) (by kernel_rfl) (by kernel_rfl) (fun _ _ _ h => h) (Or.inl ⟨by rfl, ?_⟩) hS ?_; rotate_left; focus ((intro w' hSw; have qb := hSw.2; have c0 := qb.at_ (i := 0) (v := .int .i64 a.lv) rfl; have c1 := qb.at_ (i := 1) (v := .int .u64 (u a.c)) rfl; have c2 := qb.at_ (i := 2) (v := .int .i64 a.ig) rfl; clear qb; clear hSw; go_simp) <;> with_reducible rfl)
          try simp only [Act.put, List.setIfInBounds_toArray, List.set_cons_zero, List.set_cons_succ]
          refine wpAnyH_take (i := 6) (v := ?_) (op_at rfl) (by kernel_rfl) (by kernel_rfl) (by kernel_rfl) (fun _ _ _ h => h) (Or.inl ⟨by rfl, ?_⟩) hS ?_; rotate_left; focus ((intro w' hSw; clear hSw; go_simp) <;> with_reducible rfl)
          try simp only [Act.put, List.setIfInBounds_toArray, List.set_cons_zero, List.set_cons_succ]
          refine wpAnyH_done (by kernel_rfl) ?_ _
          go_wp2_with fail
          go_roundw
          case rel => exact ⟨k + 1, o, true, _, rfl, rfl, by first | rfl | go_num, by rw [runS_next HX.out, ← HRUN.out]; unfold stepS; simp [HQ.out], HLT.out, by have := HLEN.out; omega, OW.out, B3.out, BX.out⟩
          case measure => have := HLT.out; simp [intOf]; omega
    · obtain rfl : k = l.length := by omega
      have HS := Lib.hid (run_set HRI.out a n)
      have k1 : ¬ ((l.length : Int) < (l.length : Int)) := by omega
      cases d
      · have HS2 : Hid (o ++ [⟨a, n⟩] = setLn l a n) := Lib.hid (by have := HS.out; rw [← HRUN.out] at this; simpa using this)
        have HLEN : Hid (o.length ≤ 2 * l.length) := Lib.hid hol
        have hl9 := HLE.out
        obtain ⟨w1, hw1⟩ : ∃ w1, w1 = wr := ⟨_, rfl⟩
        have B1 : Hid (Below w.heap.size w w1) := Lib.hid (by rw [hw1]; exact B.out)
        replace BX : Hid (Blk w1 w.heap.size 25 #[.int .i64 a.lv, .int .u64 (u a.c), .int .i64 a.ig]) := Lib.hid (by rw [hw1]; exact BX.out)
        replace OW : Hid (OwnL (w.heap.size + 1) w1 v o) := Lib.hid (by rw [hw1]; exact OW.out)
        clear B hol hk hkl HS
        rw [← hw1]
        clear hw1
        have x0 := BX.out.at_ (i := 0) (v := .int .i64 a.lv) rfl
        have x1 := BX.out.at_ (i := 1) (v := .int .u64 (u a.c)) rfl
        have x2 := BX.out.at_ (i := 2) (v := .int .i64 a.ig) rfl
        have hown := OW.out
        have hsz : w.heap.size + 1 ≤ w1.heap.size := BX.out.lt
        have hlen := HLEN.out
        go_wp2_with (at_builtin; refine wpList_append_own _ rfl _ _ 22 rfl (w.heap.size + 1) 42 i0 (.agg #[.int .i64 0, .int .u64 0, .int .i64 0, .int .i64 0]) 4 32 Tryd.underlying22 hi hz0 hz1 hz2 rfl (by decide) _ _ _ rfl (hown.alloc _) ⟨w1.heap.size, 0, none⟩ 1 1 [.int .i64 a.lv, .int .u64 (u a.c), .int .i64 a.ig, .int .i64 n] rfl rfl (cell_four_new _ _ _ _ _ _) (by simp [Value.oneCell']) (by unfold maxLen; omega) (by omega) (by simp; omega) ?_; intro v' w2 hown' hgrow _; obtain ⟨g', cap', rfl⟩ := ownsRow_succ hown'; have hT := Turns.row_grown hown hgrow)
        go_ret
        exact ⟨_, rfl, by rw [← HS2.out]; exact (OwnL.snoc (x := ⟨a, n⟩) hown').base (by omega), B1.out.trans (hT.down B1.out.size (fun _ hk => by omega))⟩
      · have HS2 : Hid (o = setLn l a n) := Lib.hid (by have := HS.out; rw [← HRUN.out] at this; simpa using this)
        clear hol hk hkl HS
        go_wp2_with fail
        go_ret
        exact ⟨v, rfl, by rw [← HS2.out]; exact OW.out.base (by omega), B.out⟩
end Go.Proofs.YtbggaijjgnjknaaDoor
