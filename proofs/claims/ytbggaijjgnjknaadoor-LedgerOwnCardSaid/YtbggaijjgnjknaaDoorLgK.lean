/-
  PACKAGE ledger: the plain laws on set; insert, set.
-/
import Derived.Test.YtbggaijjgnjknaaDoorLgT
namespace Go.Proofs.YtbggaijjgnjknaaDoor
open Go.RowKit

attribute [local go_sem] u_and u_or u_andNot u_add u_sub u_bit u_eq_zero u_beq

theorem pos_ahead {l : List Ln} {a : Lab} {i : Nat} (h : Pos l a i) : aheadL l a = l.take i := by
  obtain ⟨_, h1, h2⟩ := h
  unfold aheadL
  conv => lhs; rw [← List.take_append_drop i l]
  rw [List.filter_append, List.filter_eq_self.2, List.filter_eq_nil_iff.2, List.append_nil]
  · intro x hx
    obtain ⟨k, hk⟩ := List.getElem?_of_mem hx
    rw [List.getElem?_drop] at hk
    have := h2 (i + k) x (by omega) hk
    simp; omega
  · intro x hx
    obtain ⟨k, hk⟩ := List.getElem?_of_mem hx
    rw [List.getElem?_take] at hk
    split at hk
    · have := h1 k x (by assumption) hk
      simpa using this
    · cases hk
theorem behind_of {l : List Ln} {a : Lab} {i j : Nat} (h : Pos l a i) (_hij : i ≤ j) (h1 : ∀ k x, i ≤ k → k < j → l[k]? = some x → cmpL x.a a = 0) (h2 : ∀ k x, j ≤ k → l[k]? = some x → 0 < cmpL x.a a) : behindL l a = l.drop j := by
  obtain ⟨_, h0, _⟩ := h
  unfold behindL
  conv => lhs; rw [← List.take_append_drop j l]
  rw [List.filter_append, List.filter_eq_nil_iff.2, List.filter_eq_self.2, List.nil_append]
  · intro x hx
    obtain ⟨k, hk⟩ := List.getElem?_of_mem hx
    rw [List.getElem?_drop] at hk
    have := h2 (j + k) x (by omega) hk
    simpa using this
  · intro x hx
    obtain ⟨k, hk⟩ := List.getElem?_of_mem hx
    rw [List.getElem?_take] at hk
    split at hk
    · rename_i hkj
      by_cases hki : k < i
      · have := h0 k x hki hk
        simp; omega
      · have := h1 k x (by omega) hkj hk
        simp; omega
    · cases hk
theorem pos_hit {l : List Ln} {a : Lab} {i : Nat} (hr : Rises l) (h : Pos l a i) (hh : hitB l a i = true) : i < l.length ∧ behindL l a = l.drop (i + 1) ∧ ∃ x, l[i]? = some x ∧ x.a = a := by
  unfold hitB at hh
  split at hh
  · rename_i x hx
    have hc : cmpL x.a a = 0 := by simpa using hh
    refine ⟨(List.getElem?_eq_some_iff.1 hx).1, behind_of h (Nat.le_succ i) (fun k y h1 h2 hy => ?_) (fun k y h1 hy => ?_), x, hx, cmp_eq.1 hc⟩
    · obtain rfl : k = i := by omega
      rw [hx] at hy; cases hy
      exact hc
    · have := rises_get hr (by omega : i < k) hx hy
      rw [cmp_eq.1 hc] at this
      exact (cmp_flip a y.a).1.1 this
  · cases hh
theorem pos_miss {l : List Ln} {a : Lab} {i : Nat} (hr : Rises l) (h : Pos l a i) (hh : hitB l a i = false) : behindL l a = l.drop i := by
  refine behind_of h (Nat.le_refl i) (fun k y h1 h2 => absurd h2 (by omega)) (fun k y h1 hy => ?_)
  have hl : i < l.length := by have := (List.getElem?_eq_some_iff.1 hy).1; omega
  obtain ⟨x, hx⟩ : ∃ x, l[i]? = some x := ⟨_, List.getElem?_eq_getElem hl⟩
  have h0 := h.2.2 i x (Nat.le_refl i) hx
  have hx0 : 0 < cmpL x.a a := by
    unfold hitB at hh
    rw [hx] at hh
    have : cmpL x.a a ≠ 0 := by simpa using hh
    omega
  by_cases e : i = k
  · subst e; rw [hx] at hy; cases hy; exact hx0
  · have h1' := rises_get hr (by omega : i < k) hx hy
    have h2' : cmpL a x.a < 0 := (cmp_flip a x.a).1.2 hx0
    exact (cmp_flip a y.a).1.1 (cmp_lt_trans h2' h1')
theorem set_del {l : List Ln} {a : Lab} {i : Nat} (hr : Rises l) (h : Pos l a i) (hh : hitB l a i = true) : l.take i ++ l.drop (i + 1) = setLn l a 0 := by
  unfold setLn
  rw [pos_ahead h, (pos_hit hr h hh).2.1]; rfl
theorem set_same {l : List Ln} {a : Lab} {i : Nat} (hr : Rises l) (h : Pos l a i) (hh : hitB l a i = false) : l = setLn l a 0 := by
  unfold setLn
  rw [pos_ahead h, pos_miss hr h hh]
  exact (List.take_append_drop i l).symm
theorem set_ins {l : List Ln} {a : Lab} {i : Nat} {n : Int} (hr : Rises l) (h : Pos l a i) (hh : hitB l a i = false) (hn : n ≠ 0) : insL l i ⟨a, n⟩ = setLn l a n := by
  unfold setLn insL lineL
  rw [pos_ahead h, pos_miss hr h hh, if_neg hn]; rfl
theorem set_put {l : List Ln} {a : Lab} {i : Nat} {n : Int} (hr : Rises l) (h : Pos l a i) (hh : hitB l a i = true) (hn : n ≠ 0) : l.set i ⟨a, n⟩ = setLn l a n := by
  obtain ⟨h1, h2, _⟩ := pos_hit hr h hh
  unfold setLn lineL
  rw [pos_ahead h, h2, if_neg hn, List.set_eq_take_append_cons_drop, if_pos h1]; rfl
theorem set_len (l : List Ln) (a : Lab) (n : Int) : (setLn l a n).length ≤ l.length + 1 := by
  unfold setLn
  rw [List.length_append, List.length_append]
  have h : ∀ l : List Ln, (aheadL l a).length + (behindL l a).length ≤ l.length := by
    intro l
    induction l with
    | nil => simp [aheadL, behindL]
    | cons x r ih =>
      unfold aheadL behindL at *
      rw [List.filter_cons, List.filter_cons]
      by_cases h1 : cmpL x.a a < 0
      · have h2 : ¬ 0 < cmpL x.a a := by omega
        simp only [h1, h2, decide_true, decide_false, if_true, List.length_cons, Bool.false_eq_true, if_false]; omega
      · by_cases h2 : 0 < cmpL x.a a
        · simp only [h1, h2, decide_true, decide_false, if_true, List.length_cons, Bool.false_eq_true, if_false]; omega
        · simp only [h1, h2, decide_false, List.length_cons, Bool.false_eq_true, if_false]; omega
  have := h l
  have h3 : (lineL a n).length ≤ 1 := by unfold lineL; split <;> simp
  omega
theorem lcells_set : ∀ (l : List Ln) (i : Nat) (y : Ln) (n : Int), l[i]? = some y → (lcells l).set (i * 4 + 3) (.int .i64 n) = lcells (l.set i ⟨y.a, n⟩)
  | [], i, y, n, h => by cases h
  | x :: r, 0, y, n, h => by cases h; rfl
  | x :: r, i + 1, y, n, h => by
    have ih := lcells_set r i y n h
    have e : lcells (x :: r) = [.int .i64 x.a.lv, .int .u64 (u x.a.c), .int .i64 x.a.ig, .int .i64 x.n] ++ lcells r := rfl
    have e2 : lcells ((x :: r).set (i + 1) ⟨y.a, n⟩) = [.int .i64 x.a.lv, .int .u64 (u x.a.c), .int .i64 x.a.ig, .int .i64 x.n] ++ lcells (r.set i ⟨y.a, n⟩) := rfl
    rw [e, e2, ← ih, List.set_append_right _ _ (by simp; omega)]
    congr 2
    simp; omega
theorem RowL.put {W : World} {g cap : Nat} {cur : Array Value} {l : List Ln} (h : RowL W g cap cur l) {i : Nat} {y : Ln} (hy : l[i]? = some y) {a : Lab} (ha : y.a = a) (n : Int) : RowL (W.setCell ⟨g, i * 4 + 3, none⟩ (.int .i64 n)) g cap (cur.setIfInBounds (i * 4 + 3) (.int .i64 n)) (l.set i ⟨a, n⟩) := by
  have hb : Blk W g 42 cur := h.hp
  have hi := (List.getElem?_eq_some_iff.1 hy).1
  refine ⟨hb.set' rfl, by rw [List.length_set]; exact h.le, h.mx, by rw [Array.size_setIfInBounds]; exact h.sz, ?_⟩
  rw [List.length_set, Array.toList_setIfInBounds, ← ha, ← lcells_set l i y n hy, ← h.tk, List.take_set]
set_option maxRecDepth 100000 in
set_option maxHeartbeats 8000000 in
theorem insert_w (bb : Nat) (v : Value) (a : Lab) (ev : Value) (l : List Ln) (i : Nat) (x : Ln) (vb : Nat) (w : World) (hb : Blk w bb 53 #[v, .int .i64 a.lv, .int .u64 (u a.c), .int .i64 a.ig, ev]) (hl : LnsAt w v l) (hi : i ≤ l.length) (hx : Blk w vb 42 #[.int .i64 x.a.lv, .int .u64 (u x.a.c), .int .i64 x.a.ig, .int .i64 x.n]) (hle : l.length ≤ 1500) :
    Calls Tryd.prog 49 #[.pointer (some ⟨bb, 0, none⟩), .int .i64 i, .slice (some ⟨vb, 0, none⟩) 1 1] w fun e w' => e = .returned (.tuple #[]) ∧ ∃ v', Blk w' bb 53 #[v', .int .i64 a.lv, .int .u64 (u a.c), .int .i64 a.ig, ev] ∧ OwnL w.heap.size w' v' (insL l i x) ∧ Turns (fun k => k = bb ∨ w.heap.size ≤ k) w w' := by
  have HB := Lib.hid hb
  have HL := Lib.hid hl
  have HX := Lib.hid hx
  have hbl := hb.lt
  have hxl := hx.lt
  have p0 := hb.at_ (i := 0) (v := v) rfl
  clear hb hl hx
  go_enter Tryd.func49, Tryd.ntmps49
  go_wp2_with fail
  refine (Clone_w v l w HL.out (by omega)).mono ?_
  rintro e w1 ⟨v1, rfl, hO, hB⟩
  have B1 := Lib.hid hB
  have O1 := Lib.hid hO
  have hz1 := hB.size
  clear hO hB p0
  go_wp2_with fail
  refine (Insert_w w.heap.size v1 l i x vb w1 O1.out B1.out.size hi (HX.out.after B1.out) (by omega) (fun e => by have := (O1.out.blk e).1; omega)).mono ?_
  rintro e w2 ⟨v2, rfl, hO, hw, hT⟩
  obtain ⟨p2, c2, rfl⟩ := hO.val
  have hT2 : Turns (fun k => w.heap.size ≤ k) w1 w2 := hT.mono (fun k hk => by
    rcases hk with e | e
    · exact (O1.out.blk e).1
    · omega)
  have BB := Lib.hid (HB.out.after B1.out |>.keepT hT2 (by omega))
  have O2 := Lib.hid hO
  have T2 : Hid (Turns (fun k => k = bb ∨ w.heap.size ≤ k) w w2) := Lib.hid ((Turns.of_below B1.out).trans (hT2.mono (fun k hk => .inr hk)))
  have NE : Hid (∀ g, (Value.slice p2 (insL l i x).length c2).ownBlock = some g → g ≠ bb) := Lib.hid (fun g hg => by have := (hO.blk hg).1; omega)
  have p1 := BB.out.at_ (i := 0) (v := v) rfl
  have f1 := BB.out.frozen 0
  clear hO hw hT hT2
  go_wp2_with fail
  go_end0
  exact ⟨rfl, _, BB.out.set' rfl, O2.out.keepT ((Turns.refl (fun k => k = bb) _).setCell (p := ⟨bb, 0, none⟩) rfl _) (fun g hg e => NE.out g hg e), T2.out.setCell (p := ⟨bb, 0, none⟩) (.inl rfl) _⟩
set_option maxRecDepth 100000 in
set_option maxHeartbeats 8000000 in
theorem set_w (bb : Nat) (v : Value) (a : Lab) (ev : Value) (l : List Ln) (n : Int) (w : World) (hb : Blk w bb 53 #[v, .int .i64 a.lv, .int .u64 (u a.c), .int .i64 a.ig, ev]) (hl : LnsAt w v l) (hr : Rises l) (hle : l.length ≤ 900) (hn : 0 ≤ n) :
    Calls Tryd.prog 31 #[.pointer (some ⟨bb, 0, none⟩), .int .i64 n] w fun e w' => e = .returned (.tuple #[]) ∧ ∃ v', Blk w' bb 53 #[v', .int .i64 a.lv, .int .u64 (u a.c), .int .i64 a.ig, ev] ∧ OwnL w.heap.size w' v' (setLn l a n) ∧ Turns (fun k => k = bb ∨ w.heap.size ≤ k) w w' := by
  have HB := Lib.hid hb
  have HL := Lib.hid hl
  have HR := Lib.hid hr
  have hbl := hb.lt
  clear hb hl hr
  go_enter Tryd.func31, Tryd.ntmps31
  go_wp2_with fail
  refine wp_region_gen2 (S := fun W' => Blk W' bb 53 #[v, .int .i64 a.lv, .int .u64 (u a.c), .int .i64 a.ig, ev]) (N := fun W' => Below w.heap.size w W') (by kernel_rfl) HB.out.drew (Below.refl _ _).drew (fun w1 hS hN => ?_)
  have B1 := Lib.hid hN
  clear hN
  refine wpAnyH_take (i := 0) (v := ?_) (op_at rfl) (by kernel_rfl) (by kernel_rfl) (by kernel_rfl) (fun _ _ _ h => h) (Or.inl ⟨by rfl, ?_⟩) hS ?_; rotate_left; focus ((intro w' hSw; clear hSw; go_simp) <;> with_reducible rfl)
  try simp only [Act.put, List.setIfInBounds_toArray, List.set_cons_zero, List.set_cons_succ]
  refine wpAnyH_take (i := 1) (v := ?_) (op_at rfl) (by kernel_rfl) (by kernel_rfl) (by kernel_rfl) (fun _ _ _ h => h) (Or.inl ⟨by rfl, ?_⟩) hS ?_; rotate_left; focus ((intro w' hSw; clear hSw; go_simp) <;> with_reducible rfl)
  try simp only [Act.put, List.setIfInBounds_toArray, List.set_cons_zero, List.set_cons_succ]
  refine wpAnyH_take (i := 2) (v := ?_) (op_at rfl) (by kernel_rfl) (by kernel_rfl) (by kernel_rfl) (fun _ _ _ h => h) (Or.inl ⟨by rfl, ?_⟩) hS ?_; rotate_left; focus ((intro w' hSw; clear hSw; go_simp) <;> with_reducible rfl)
  try simp only [Act.put, List.setIfInBounds_toArray, List.set_cons_zero, List.set_cons_succ]
  refine wpAnyH_take (i := 3) (v := ?_) (op_at rfl) (by kernel_rfl) (by kernel_rfl) (by kernel_rfl) (fun _ _ _ h => h) (Or.inl ⟨by rfl, ?_⟩) hS ?_; rotate_left; focus ((intro w' hSw; clear hSw; go_simp) <;> with_reducible rfl)
  try simp only [Act.put, List.setIfInBounds_toArray, List.set_cons_zero, List.set_cons_succ]
  refine wpAnyH_take (i := 4) (v := ?_) (op_at rfl) (by kernel_rfl) (by kernel_rfl) (by kernel_rfl) (fun _ _ _ h => h) (Or.inl ⟨by rfl, ?_⟩) hS ?_; rotate_left; focus ((intro w' hSw; clear hSw; go_simp) <;> with_reducible rfl)
  try simp only [Act.put, List.setIfInBounds_toArray, List.set_cons_zero, List.set_cons_succ]
  refine wpAnyH_take (i := 5) (v := ?_) (op_at rfl) (by kernel_rfl) (by kernel_rfl) (by kernel_rfl) (fun _ _ _ h => h) (Or.inl ⟨by rfl, ?_⟩) hS ?_; rotate_left; focus ((intro w' hSw; clear hSw; go_simp) <;> with_reducible rfl)
  try simp only [Act.put, List.setIfInBounds_toArray, List.set_cons_zero, List.set_cons_succ]
  refine wpAnyH_take (i := 6) (v := ?_) (op_at rfl) (by kernel_rfl) (by kernel_rfl) (by kernel_rfl) (fun _ _ _ h => h) (Or.inl ⟨by rfl, ?_⟩) hS ?_; rotate_left; focus ((intro w' hSw; have q := hSw; have c1 := q.at_ (i := 1) (v := .int .i64 a.lv) rfl; have c2 := q.at_ (i := 2) (v := .int .u64 (u a.c)) rfl; have c3 := q.at_ (i := 3) (v := .int .i64 a.ig) rfl; clear q; clear hSw; go_simp) <;> with_reducible rfl)
  try simp only [Act.put, List.setIfInBounds_toArray, List.set_cons_zero, List.set_cons_succ]
  refine wpAnyH_ready (rs := [7]) (by kernel_rfl) (by simp) ?_
  refine (AllReadyH.cons (op_at rfl) (fun K hK => ?_) AllReadyH.nil)
  go_simp
  refine (find_w bb 0 v l a _ (show Els _ bb 0 #[v] from ⟨hS.lt, fun j u hu => by
    match j, hu with
    | 0, hu => cases hu; exact hS.at_ (i := 0) rfl⟩) (HL.out.later B1.out B1.out.size) HR.out (Nat.le_trans hle (by decide))).mono ?_
  rintro e w2 ⟨i, hP, rfl, hB⟩
  have B2 := Lib.hid (below_call (w := w) B1.out hB)
  have HP := Lib.hid hP
  refine hK.out _ _ (Blk.after hS hB) (fun hS => ?_)
  clear hK K hB hP
  try simp only [Act.put, List.setIfInBounds_toArray, List.set_cons_zero, List.set_cons_succ]
  refine wpAnyH_take (i := 8) (v := ?_) (op_at rfl) (by kernel_rfl) (by kernel_rfl) (by kernel_rfl) (fun _ _ _ h => h) (Or.inl ⟨by rfl, ?_⟩) hS ?_; rotate_left; focus ((intro w' hSw; clear hSw; go_simp) <;> with_reducible rfl)
  try simp only [Act.put, List.setIfInBounds_toArray, List.set_cons_zero, List.set_cons_succ]
  refine wpAnyH_take (i := 9) (v := ?_) (op_at rfl) (by kernel_rfl) (by kernel_rfl) (by kernel_rfl) (fun _ _ _ h => h) (Or.inl ⟨by rfl, ?_⟩) hS ?_; rotate_left; focus ((intro w' hSw; clear hSw; go_simp) <;> with_reducible rfl)
  try simp only [Act.put, List.setIfInBounds_toArray, List.set_cons_zero, List.set_cons_succ]
  refine wpAnyH_take (i := 10) (v := ?_) (op_at rfl) (by kernel_rfl) (by kernel_rfl) (by kernel_rfl) (fun _ _ _ h => h) (Or.inl ⟨by rfl, ?_⟩) hS ?_; rotate_left; focus ((intro w' hSw; clear hSw; go_simp) <;> with_reducible rfl)
  try simp only [Act.put, List.setIfInBounds_toArray, List.set_cons_zero, List.set_cons_succ]
  refine wpAnyH_take (i := 11) (v := ?_) (op_at rfl) (by kernel_rfl) (by kernel_rfl) (by kernel_rfl) (fun _ _ _ h => h) (Or.inl ⟨by rfl, ?_⟩) hS ?_; rotate_left; focus ((intro w' hSw; clear hSw; go_simp) <;> with_reducible rfl)
  try simp only [Act.put, List.setIfInBounds_toArray, List.set_cons_zero, List.set_cons_succ]
  refine wpAnyH_take (i := 12) (v := ?_) (op_at rfl) (by kernel_rfl) (by kernel_rfl) (by kernel_rfl) (fun _ _ _ h => h) (Or.inl ⟨by rfl, ?_⟩) hS ?_; rotate_left; focus ((intro w' hSw; clear hSw; go_simp) <;> with_reducible rfl)
  try simp only [Act.put, List.setIfInBounds_toArray, List.set_cons_zero, List.set_cons_succ]
  refine wpAnyH_done (by kernel_rfl) ?_ _
  have BB := Lib.hid hS
  clear hS
  have hz2 := B2.out.size
  have p0 := BB.out.at_ (i := 0) (v := v) rfl
  have f0 := BB.out.frozen 0
  go_wp2_with fail
  refine (Clone_w v l w2 (HL.out.later B2.out B2.out.size) (by omega)).mono ?_
  rintro e w3 ⟨v3, rfl, hO, hB⟩
  obtain ⟨p3, c3, rfl⟩ := hO.val
  have B3 := Lib.hid (below_call (w := w) B2.out hB)
  have hz3 := hB.size
  have O3 := Lib.hid (hO.base (b' := w.heap.size) (by omega))
  have BB3 := Lib.hid (BB.out.after hB)
  have p1 := BB3.out.at_ (i := 0) (v := v) rfl
  have f1 := BB3.out.frozen 0
  have NE : Hid (∀ g, (Value.slice p3 l.length c3).ownBlock = some g → g ≠ bb) := Lib.hid (fun g hg => by have := (O3.out.blk hg).1; omega)
  clear hO hB p0 f0
  have B4 : Hid (Blk (w3.setCell ⟨bb, 0, none⟩ (.slice p3 l.length c3)) bb 53 #[.slice p3 l.length c3, .int .i64 a.lv, .int .u64 (u a.c), .int .i64 a.ig, ev]) := Lib.hid (BB3.out.set' rfl)
  have O4 : Hid (OwnL w.heap.size (w3.setCell ⟨bb, 0, none⟩ (.slice p3 l.length c3)) (.slice p3 l.length c3) l) := Lib.hid (O3.out.keepT ((Turns.refl (fun k => k = bb) _).setCell (p := ⟨bb, 0, none⟩) rfl _) (fun g hg e => NE.out g hg e))
  have T4 : Hid (Turns (fun k => k = bb ∨ w.heap.size ≤ k) w (w3.setCell ⟨bb, 0, none⟩ (.slice p3 l.length c3))) := Lib.hid ((Turns.of_below B3.out).setCell (p := ⟨bb, 0, none⟩) (.inl rfl) _)
  have hz4 : (w3.setCell ⟨bb, 0, none⟩ (.slice p3 l.length c3)).heap.size = w3.heap.size := by simp [World.setCell]
  have d0 := B4.out.at_ (i := 0) (v := .slice p3 l.length c3) rfl
  have d1 := B4.out.at_ (i := 1) (v := .int .i64 a.lv) rfl
  have d2 := B4.out.at_ (i := 2) (v := .int .u64 (u a.c)) rfl
  have d3 := B4.out.at_ (i := 3) (v := .int .i64 a.ig) rfl
  have g0 := B4.out.frozen 0
  cases hh : hitB l a i
  · by_cases hn0 : 0 < n
    · have e1 : decide (0 < n) = true := decide_eq_true hn0
      have HS := Lib.hid (set_ins HR.out HP.out hh (by omega : n ≠ 0))
      have HI := Lib.hid HP.out.1
      clear hh hn0
      go_wp2_with fail
      have O5 := O4.out.after (below_alloc (Below.refl _ _) (.cells #[.int .i64 a.lv, .int .u64 (u a.c), .int .i64 a.ig, .int .i64 n] 42))
      refine (insert_w bb (.slice p3 l.length c3) a ev l i ⟨a, n⟩ w3.heap.size _ (B4.out.alloc _) O5.lns HI.out (Blk.new' hz4.symm) (by omega)).mono ?_
      rintro e w6 ⟨rfl, v6, hb6, ho6, hT6⟩
      have BB6 := Lib.hid hb6
      have O6 : Hid (OwnL w.heap.size w6 v6 (setLn l a n)) := Lib.hid (by rw [← HS.out]; exact ho6.base (by simp; omega))
      have T6 : Hid (Turns (fun k => k = bb ∨ w.heap.size ≤ k) w w6) := Lib.hid ((T4.out.alloc _).trans (hT6.mono (fun k hk => by
        rcases hk with e | e
        · exact .inl e
        · simp at e; exact .inr (by omega))))
      clear hb6 ho6 hT6 O5 d0 d1 d2 d3 g0
      go_wp2_with fail
      go_end0
      exact ⟨rfl, v6, BB6.out, O6.out, T6.out⟩
    · obtain rfl : n = 0 := by omega
      have HS := Lib.hid (set_same HR.out HP.out hh)
      clear hh hn0
      go_wp2_with fail
      go_end0
      exact ⟨rfl, _, B4.out, by rw [← HS.out]; exact O4.out, T4.out⟩
  · obtain ⟨hil, -, y, hy, hya⟩ := pos_hit HR.out HP.out hh
    by_cases hn0 : n = 0
    · subst hn0
      have HS := Lib.hid (set_del HR.out HP.out hh)
      obtain ⟨g, cap, cur, hv, hbg, hrow⟩ := O4.out.open (by rintro rfl; exact absurd hil (by simp))
      cases hv
      have hbn : bb ≠ g := fun e => NE.out g rfl e.symm
      have e7 : IntKind.i64.wrap ((i : Int) + 1) = ((i + 1 : Nat) : Int) := wrapI _ (by omega)
      have HRW := Lib.hid hrow
      clear hh hrow hy hya
      go_wp2_with fail
      refine (Delete_w g c3 i cur l _ HRW.out hil (by omega)).mono ?_
      rintro e w6 ⟨rfl, ⟨cur6, hr6⟩, hT6⟩
      have BB6 := Lib.hid (B4.out.keepT hT6 hbn)
      have R6 := Lib.hid hr6
      have T6 : Hid (Turns (fun k => k = bb ∨ w.heap.size ≤ k) w w6) := Lib.hid (T4.out.trans (hT6.mono (fun k hk => .inr (by rw [hk]; exact hbg))))
      have q0 := BB6.out.at_ (i := 0) (v := .slice (some ⟨g, 0, none⟩) l.length c3) rfl
      have q1 := BB6.out.frozen 0
      clear hr6 hT6 d0 d1 d2 d3 g0 HRW
      go_wp2_with fail
      go_end0
      refine ⟨rfl, _, BB6.out.set' rfl, ?_, T6.out.setCell (p := ⟨bb, 0, none⟩) (.inl rfl) _⟩
      rw [← HS.out]
      exact ((R6.out.turn ((Turns.refl (fun k => k = bb) _).setCell (p := ⟨bb, 0, none⟩) rfl _) (fun e => hbn e.symm))).own hbg (by rw [List.length_append, List.length_take, List.length_drop]; omega)
    · have e1 : (n == 0) = false := beq_eq_false_iff_ne.2 hn0
      have HS := Lib.hid (set_put HR.out HP.out hh hn0)
      obtain ⟨g, cap, cur, hv, hbg, hrow⟩ := O4.out.open (by rintro rfl; exact absurd hil (by simp))
      cases hv
      have hbn : bb ≠ g := fun e => NE.out g rfl e.symm
      have i0 : (0 : Int) ≤ (i : Int) := by omega
      have i1 : (i : Int) < (l.length : Int) := by omega
      have r0 := (hrow.cell hy).at_ (i := 3) (v := .int .i64 y.n) rfl
      have r1 := (show Blk _ g 42 cur from hrow.hp).frozen (i * 4 + 3)
      have HRW := Lib.hid (hrow.put hy hya n)
      clear hh hrow hy hya
      go_wp2_with fail
      go_end0
      refine ⟨rfl, _, B4.out.far hbn _, ?_, T4.out.setCell (p := ⟨g, i * 4 + 3, none⟩) (.inr hbg) _⟩
      rw [← HS.out]
      exact HRW.out.own hbg (by rw [List.length_set])
end Go.Proofs.YtbggaijjgnjknaaDoor
