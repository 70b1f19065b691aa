/-
  STATEMENT LedgerTells: its walk.
-/
import Derived.Test.YtbggaijjgnjknaaDoorLgRC
namespace Go.Proofs.YtbggaijjgnjknaaDoor
open Go.RowKit

theorem right_at2 (v : Value) (l : List Ln) (w : World) (hl : LnsAt w v l) :
    Calls Tryd.prog 19 #[v] w fun e w' => ∃ r, e = .returned (.bool r) ∧ Hid (r = rightLn l) ∧ Below w.heap.size w w' :=
  (LRight_w v l w hl).mono (fun _ _ k => ⟨_, k.1, Lib.hid rfl, k.2⟩)
theorem rright_at (v : Value) (l : List Ln) (w : World) (hl : LnsAt w v l) :
    Calls Tryd.prog 24 #[v] w fun e w' => ∃ r, e = .returned (.bool r) ∧ Hid (r = rightLn l) ∧ Below w.heap.size w w' :=
  (rRight_w v l w hl).mono (fun _ _ k => ⟨_, k.1, Lib.hid rfl, k.2⟩)
theorem rused_at (v : Value) (l : List Ln) (a : Lab) (w : World) (hl : LnsAt w v l) :
    Calls Tryd.prog 25 #[v, .agg #[.int .i64 a.lv, .int .u64 (u a.c), .int .i64 a.ig]] w fun e w' => ∃ r, e = .returned (.int .i64 r) ∧ Hid (r = usedLn l a) ∧ Below w.heap.size w w' :=
  (rUsed_w v l a w hl).mono (fun _ _ h => ⟨_, h.1, Lib.hid rfl, h.2⟩)
theorem rtotal_at (v : Value) (l : List Ln) (w : World) (hl : LnsAt w v l) :
    Calls Tryd.prog 27 #[v] w fun e w' => ∃ r, e = .returned (.int .i64 r) ∧ Hid (r = totalLn l) ∧ Below w.heap.size w w' :=
  (rTotal_w v l w hl).mono (fun _ _ h => ⟨_, h.1, Lib.hid rfl, h.2⟩)
theorem rseen_at (v : Value) (l : List Ln) (a : Lab) (w : World) (hl : LnsAt w v l) (hle : l.length ≤ 900) :
    Calls Tryd.prog 26 #[v, .agg #[.int .i64 a.lv, .int .u64 (u a.c), .int .i64 a.ig]] w fun e w' => ∃ p c L, e = .returned (.slice p L.length c) ∧ Hid (L = seenLn l a) ∧ OwnL w.heap.size w' (.slice p L.length c) L ∧ Below w.heap.size w w' :=
  (rSeen_w v l a w hl hle).mono (fun _ _ ⟨_, h1, h2, h3⟩ => by
    obtain ⟨p, c, rfl⟩ := h2.val
    exact ⟨p, c, _, h1, Lib.hid rfl, h2, h3⟩)
theorem same_at (v0 v1 : Value) (a b : List Ln) (w : World) (ha : LnsAt w v0 a) (hb : LnsAt w v1 b) :
    Calls Tryd.prog 18 #[v0, v1] w fun e w' => ∃ r, e = .returned (.bool r) ∧ Hid (r = decide (a = b)) ∧ Below w.heap.size w w' :=
  (LSame_w v0 v1 a b w ha hb).mono (fun _ _ k => ⟨_, k.1, Lib.hid rfl, k.2⟩)
theorem rsame_at (v0 v1 : Value) (a b : List Ln) (w : World) (ha : LnsAt w v0 a) (hb : LnsAt w v1 b) :
    Calls Tryd.prog 17 #[v0, v1] w fun e w' => ∃ r, e = .returned (.bool r) ∧ Hid (r = decide (a = b)) ∧ Below w.heap.size w w' :=
  (rSame_w v0 v1 a b w ha hb).mono (fun _ _ k => ⟨_, k.1, Lib.hid rfl, k.2⟩)
set_option maxRecDepth 100000 in
set_option maxHeartbeats 16000000 in
theorem tells_walk (v : Value) (l : List Ln) (a : Lab) (v2 : Value) (m : List Ln) (w : World) (hh : Handle w) (hl : LnsAt w v l) (hm : LnsAt w v2 m) :
    Calls Tryd.prog 8 #[v, .agg #[.int .i64 a.lv, .int .u64 (u a.c), .int .i64 a.ig], v2] w (Yes w) := by
  have HH := Lib.hid hh
  have HL := Lib.hid hl
  obtain ⟨A, c, rfl, _, _, _⟩ := hl.slice
  have HM := Lib.hid hm
  obtain ⟨A2, c2, rfl, _, _, _⟩ := hm.slice
  clear hh hl hm
  go_enter Tryd.func8, Tryd.ntmps8
  go_wp2_with fail
  refine (shown_any _ (HH.out.up (below_alloc (Below.refl _ _) _))).mono ?_
  rintro e w1 ⟨rfl, hB⟩
  have B1 := Lib.hid (below_call (w := w) (below_alloc (Below.refl _ _) _) hB)
  have LA := Lib.hid ((Blk.new' rfl : Blk (w.alloc (.cells #[.int .i64 a.lv, .int .u64 (u a.c), .int .i64 a.ig] 25)) w.heap.size 25 #[.int .i64 a.lv, .int .u64 (u a.c), .int .i64 a.ig]).after hB)
  clear hB
  go_wp2_with fail
  refine (few_at _ l _ (HL.out.later B1.out B1.out.size)).mono ?_
  rintro e w2 ⟨p, c, L, rfl, H42, hT, rfl⟩
  have HT := Lib.hid hT
  have HLE := Lib.hid (Nat.le_trans H42.out (by decide : (42 : Nat) ≤ 900))
  clear hT HL
  go_wp2_with fail
  refine (few_at _ m _ (HM.out.later B1.out B1.out.size)).mono ?_
  rintro e w2 ⟨p2, c2, M, rfl, _, hN, rfl⟩
  have HN := Lib.hid hN
  clear hN HM
  go_wp2_with fail
  refine wp_region_gen2 (S := fun W => Blk W w.heap.size 25 #[.int .i64 a.lv, .int .u64 (u a.c), .int .i64 a.ig]) (N := fun W => Below w1.heap.size w1 W) (by kernel_rfl) LA.out.drew (Below.refl _ _).drew (fun w2 hS hN => ?_)
  have B2 := Lib.hid (below_call (w := w) B1.out hN)
  replace LA := Lib.hid (LA.out.after hN)
  replace HT := Lib.hid (HT.out.after hN)
  replace HN := Lib.hid (HN.out.after hN)
  clear hN
  refine wpAnyH_take (i := 0) (v := ?_) (op_at rfl) (by kernel_rfl) (by kernel_rfl) (by kernel_rfl) (fun _ _ _ h => h) (Or.inl ⟨by rfl, ?_⟩) hS ?_; rotate_left; focus ((intro w' hSw; clear hSw; go_simp) <;> with_reducible rfl)
  try simp only [Act.put, List.setIfInBounds_toArray, List.set_cons_zero, List.set_cons_succ]
  refine wpAnyH_take (i := 1) (v := ?_) (op_at rfl) (by kernel_rfl) (by kernel_rfl) (by kernel_rfl) (fun _ _ _ h => h) (Or.inl ⟨by rfl, ?_⟩) hS ?_; rotate_left; focus ((intro w' hSw; clear hSw; go_simp) <;> with_reducible rfl)
  try simp only [Act.put, List.setIfInBounds_toArray, List.set_cons_zero, List.set_cons_succ]
  refine wpAnyH_take (i := 2) (v := ?_) (op_at rfl) (by kernel_rfl) (by kernel_rfl) (by kernel_rfl) (fun _ _ _ h => h) (Or.inl ⟨by rfl, ?_⟩) hS ?_; rotate_left; focus ((intro w' hSw; clear hSw; go_simp) <;> with_reducible rfl)
  try simp only [Act.put, List.setIfInBounds_toArray, List.set_cons_zero, List.set_cons_succ]
  refine wpAnyH_take (i := 4) (v := ?_) (op_at rfl) (by kernel_rfl) (by kernel_rfl) (by kernel_rfl) (fun _ _ _ h => h) (Or.inl ⟨by rfl, ?_⟩) hS ?_; rotate_left; focus ((intro w' hSw; clear hSw; go_simp) <;> with_reducible rfl)
  try simp only [Act.put, List.setIfInBounds_toArray, List.set_cons_zero, List.set_cons_succ]
  refine wpAnyH_ready (rs := [3]) (by kernel_rfl) (by simp) ?_
  refine (AllReadyH.cons (op_at rfl) (fun K hK => ?_) AllReadyH.nil)
  go_simp
  refine (right_at2 _ L _ HT.out).mono ?_
  rintro e w3 ⟨r1, rfl, hr1, hB⟩
  have R1 := hr1
  clear hr1
  have B3 := Lib.hid (below_call (w := w) B2.out hB)
  replace LA := Lib.hid (LA.out.after hB)
  replace HT := Lib.hid (HT.out.after hB)
  replace HN := Lib.hid (HN.out.after hB)
  refine hK.out _ _ LA.out (fun hS => ?_)
  clear hK K hB
  try simp only [Act.put, List.setIfInBounds_toArray, List.set_cons_zero, List.set_cons_succ]
  refine wpAnyH_ready (rs := [5]) (by kernel_rfl) (by simp) ?_
  refine (AllReadyH.cons (op_at rfl) (fun K hK => ?_) AllReadyH.nil)
  go_simp
  refine (rright_at _ L _ HT.out).mono ?_
  rintro e w4 ⟨r2, rfl, hr2, hB⟩
  obtain rfl : r2 = r1 := by rw [hr2.out, R1.out]
  clear hr2 R1
  have EQ1 : (r2 == r2) = true := beq_self_eq_true r2
  have B4 := Lib.hid (below_call (w := w) B3.out hB)
  replace LA := Lib.hid (LA.out.after hB)
  replace HT := Lib.hid (HT.out.after hB)
  replace HN := Lib.hid (HN.out.after hB)
  refine hK.out _ _ LA.out (fun hS => ?_)
  clear hK K hB
  try simp only [Act.put, List.setIfInBounds_toArray, List.set_cons_zero, List.set_cons_succ]
  refine wpAnyH_take (i := 6) (v := ?_) (op_at rfl) (by kernel_rfl) (by kernel_rfl) (by kernel_rfl) (fun _ _ _ h => h) (Or.inl ⟨by rfl, ?_⟩) hS ?_; rotate_left; focus ((intro w' hSw; clear hSw; go_simp) <;> with_reducible rfl)
  try simp only [Act.put, List.setIfInBounds_toArray, List.set_cons_zero, List.set_cons_succ]
  refine wpAnyH_take (i := 7) (v := ?_) (op_at rfl) (by kernel_rfl) (by kernel_rfl) (by kernel_rfl) (fun _ _ _ h => h) (Or.inl ⟨by rfl, ?_⟩) hS ?_; rotate_left; focus ((intro w' hSw; clear hSw; go_simp) <;> with_reducible rfl)
  try simp only [Act.put, List.setIfInBounds_toArray, List.set_cons_zero, List.set_cons_succ]
  refine wpAnyH_take (i := 8) (v := ?_) (op_at rfl) (by kernel_rfl) (by kernel_rfl) (by kernel_rfl) (fun _ _ _ h => h) (Or.inl ⟨by rfl, ?_⟩) hS ?_; rotate_left; focus ((intro w' hSw; clear hSw; go_simp) <;> with_reducible rfl)
  try simp only [Act.put, List.setIfInBounds_toArray, List.set_cons_zero, List.set_cons_succ]
  refine wpAnyH_take (i := 9) (v := ?_) (op_at rfl) (by kernel_rfl) (by kernel_rfl) (by kernel_rfl) (fun _ _ _ h => h) (Or.inl ⟨by rfl, ?_⟩) hS ?_; rotate_left; focus ((intro w' hSw; clear hSw; go_simp) <;> with_reducible rfl)
  try simp only [Act.put, List.setIfInBounds_toArray, List.set_cons_zero, List.set_cons_succ]
  refine wpAnyH_take (i := 10) (v := ?_) (op_at rfl) (by kernel_rfl) (by kernel_rfl) (by kernel_rfl) (fun _ _ _ h => h) (Or.inl ⟨by rfl, ?_⟩) hS ?_; rotate_left; focus ((intro w' hSw; have c0 := hSw.at_ (i := 0) (v := .int .i64 a.lv) rfl; have c1 := hSw.at_ (i := 1) (v := .int .u64 (u a.c)) rfl; have c2 := hSw.at_ (i := 2) (v := .int .i64 a.ig) rfl; clear hSw; go_simp) <;> with_reducible rfl)
  try simp only [Act.put, List.setIfInBounds_toArray, List.set_cons_zero, List.set_cons_succ]
  refine wpAnyH_take (i := 12) (v := ?_) (op_at rfl) (by kernel_rfl) (by kernel_rfl) (by kernel_rfl) (fun _ _ _ h => h) (Or.inl ⟨by rfl, ?_⟩) hS ?_; rotate_left; focus ((intro w' hSw; clear hSw; go_simp) <;> with_reducible rfl)
  try simp only [Act.put, List.setIfInBounds_toArray, List.set_cons_zero, List.set_cons_succ]
  refine wpAnyH_take (i := 13) (v := ?_) (op_at rfl) (by kernel_rfl) (by kernel_rfl) (by kernel_rfl) (fun _ _ _ h => h) (Or.inl ⟨by rfl, ?_⟩) hS ?_; rotate_left; focus ((intro w' hSw; have c0 := hSw.at_ (i := 0) (v := .int .i64 a.lv) rfl; have c1 := hSw.at_ (i := 1) (v := .int .u64 (u a.c)) rfl; have c2 := hSw.at_ (i := 2) (v := .int .i64 a.ig) rfl; clear hSw; go_simp) <;> with_reducible rfl)
  try simp only [Act.put, List.setIfInBounds_toArray, List.set_cons_zero, List.set_cons_succ]
  refine wpAnyH_ready (rs := [11]) (by kernel_rfl) (by simp) ?_
  refine (AllReadyH.cons (op_at rfl) (fun K hK => ?_) AllReadyH.nil)
  go_simp
  refine (used_at L _ a _ HT.out).mono ?_
  rintro e w5 ⟨u1, rfl, hu1, hB⟩
  have U1 := hu1
  clear hu1
  have B5 := Lib.hid (below_call (w := w) B4.out hB)
  replace LA := Lib.hid (LA.out.after hB)
  replace HT := Lib.hid (HT.out.after hB)
  replace HN := Lib.hid (HN.out.after hB)
  refine hK.out _ _ LA.out (fun hS => ?_)
  clear hK K hB
  try simp only [Act.put, List.setIfInBounds_toArray, List.set_cons_zero, List.set_cons_succ]
  refine wpAnyH_ready (rs := [14]) (by kernel_rfl) (by simp) ?_
  refine (AllReadyH.cons (op_at rfl) (fun K hK => ?_) AllReadyH.nil)
  go_simp
  refine (rused_at _ L a _ HT.out).mono ?_
  rintro e w6 ⟨u2, rfl, hu2, hB⟩
  obtain rfl : u2 = u1 := by rw [hu2.out, U1.out]
  clear hu2 U1
  have B6 := Lib.hid (below_call (w := w) B5.out hB)
  replace LA := Lib.hid (LA.out.after hB)
  replace HT := Lib.hid (HT.out.after hB)
  replace HN := Lib.hid (HN.out.after hB)
  refine hK.out _ _ LA.out (fun hS => ?_)
  clear hK K hB
  try simp only [Act.put, List.setIfInBounds_toArray, List.set_cons_zero, List.set_cons_succ]
  refine wpAnyH_take (i := 15) (v := ?_) (op_at rfl) (by kernel_rfl) (by kernel_rfl) (by kernel_rfl) (fun _ _ _ h => h) (Or.inl ⟨by rfl, ?_⟩) hS ?_; rotate_left; focus ((intro w' hSw; clear hSw; go_simp) <;> with_reducible rfl)
  try simp only [Act.put, List.setIfInBounds_toArray, List.set_cons_zero, List.set_cons_succ]
  refine wpAnyH_take (i := 16) (v := ?_) (op_at rfl) (by kernel_rfl) (by kernel_rfl) (by kernel_rfl) (fun _ _ _ h => h) (Or.inl ⟨by rfl, ?_⟩) hS ?_; rotate_left; focus ((intro w' hSw; clear hSw; go_simp) <;> with_reducible rfl)
  try simp only [Act.put, List.setIfInBounds_toArray, List.set_cons_zero, List.set_cons_succ]
  refine wpAnyH_take (i := 17) (v := ?_) (op_at rfl) (by kernel_rfl) (by kernel_rfl) (by kernel_rfl) (fun _ _ _ h => h) (Or.inl ⟨by rfl, ?_⟩) hS ?_; rotate_left; focus ((intro w' hSw; clear hSw; go_simp) <;> with_reducible rfl)
  try simp only [Act.put, List.setIfInBounds_toArray, List.set_cons_zero, List.set_cons_succ]
  refine wpAnyH_take (i := 18) (v := ?_) (op_at rfl) (by kernel_rfl) (by kernel_rfl) (by kernel_rfl) (fun _ _ _ h => h) (Or.inl ⟨by rfl, ?_⟩) hS ?_; rotate_left; focus ((intro w' hSw; clear hSw; go_simp) <;> with_reducible rfl)
  try simp only [Act.put, List.setIfInBounds_toArray, List.set_cons_zero, List.set_cons_succ]
  refine wpAnyH_take (i := 19) (v := ?_) (op_at rfl) (by kernel_rfl) (by kernel_rfl) (by kernel_rfl) (fun _ _ _ h => h) (Or.inl ⟨by rfl, ?_⟩) hS ?_; rotate_left; focus ((intro w' hSw; have c0 := hSw.at_ (i := 0) (v := .int .i64 a.lv) rfl; have c1 := hSw.at_ (i := 1) (v := .int .u64 (u a.c)) rfl; have c2 := hSw.at_ (i := 2) (v := .int .i64 a.ig) rfl; clear hSw; go_simp) <;> with_reducible rfl)
  try simp only [Act.put, List.setIfInBounds_toArray, List.set_cons_zero, List.set_cons_succ]
  refine wpAnyH_take (i := 21) (v := ?_) (op_at rfl) (by kernel_rfl) (by kernel_rfl) (by kernel_rfl) (fun _ _ _ h => h) (Or.inl ⟨by rfl, ?_⟩) hS ?_; rotate_left; focus ((intro w' hSw; clear hSw; go_simp) <;> with_reducible rfl)
  try simp only [Act.put, List.setIfInBounds_toArray, List.set_cons_zero, List.set_cons_succ]
  refine wpAnyH_take (i := 22) (v := ?_) (op_at rfl) (by kernel_rfl) (by kernel_rfl) (by kernel_rfl) (fun _ _ _ h => h) (Or.inl ⟨by rfl, ?_⟩) hS ?_; rotate_left; focus ((intro w' hSw; have c0 := hSw.at_ (i := 0) (v := .int .i64 a.lv) rfl; have c1 := hSw.at_ (i := 1) (v := .int .u64 (u a.c)) rfl; have c2 := hSw.at_ (i := 2) (v := .int .i64 a.ig) rfl; clear hSw; go_simp) <;> with_reducible rfl)
  try simp only [Act.put, List.setIfInBounds_toArray, List.set_cons_zero, List.set_cons_succ]
  refine wpAnyH_ready (rs := [20]) (by kernel_rfl) (by simp) ?_
  refine (AllReadyH.cons (op_at rfl) (fun K hK => ?_) AllReadyH.nil)
  go_simp
  refine (seen_at L _ a _ HT.out HLE.out).mono ?_
  rintro e w7 ⟨p3, c3, S3, rfl, F3, hO, hB⟩
  have B7 := Lib.hid (below_call (w := w) B6.out hB)
  replace LA := Lib.hid (LA.out.after hB)
  replace HT := Lib.hid (HT.out.after hB)
  replace HN := Lib.hid (HN.out.after hB)
  have O3 := Lib.hid hO
  clear hO
  refine hK.out _ _ LA.out (fun hS => ?_)
  clear hK K hB
  try simp only [Act.put, List.setIfInBounds_toArray, List.set_cons_zero, List.set_cons_succ]
  refine wpAnyH_ready (rs := [23]) (by kernel_rfl) (by simp) ?_
  refine (AllReadyH.cons (op_at rfl) (fun K hK => ?_) AllReadyH.nil)
  go_simp
  refine (rseen_at _ L a _ HT.out HLE.out).mono ?_
  rintro e w8 ⟨p4, c4, S4, rfl, F4, hO, hB⟩
  replace O3 := Lib.hid (O3.out.after hB)
  have B8 := Lib.hid (below_call (w := w) B7.out hB)
  replace LA := Lib.hid (LA.out.after hB)
  replace HT := Lib.hid (HT.out.after hB)
  replace HN := Lib.hid (HN.out.after hB)
  have O4 := Lib.hid hO
  clear hO
  refine hK.out _ _ LA.out (fun hS => ?_)
  clear hK K hB
  try simp only [Act.put, List.setIfInBounds_toArray, List.set_cons_zero, List.set_cons_succ]
  refine wpAnyH_ready (rs := [24]) (by kernel_rfl) (by simp) ?_
  refine (AllReadyH.cons (op_at rfl) (fun K hK => ?_) AllReadyH.nil)
  go_simp
  refine (rsame_yes _ _ S3 S4 _ O3.out.lns O4.out.lns (by rw [F3.out, F4.out])).mono ?_
  rintro e w9 ⟨rfl, hB⟩
  clear O3 O4 F3 F4
  have B9 := Lib.hid (below_call (w := w) B8.out hB)
  replace LA := Lib.hid (LA.out.after hB)
  replace HT := Lib.hid (HT.out.after hB)
  replace HN := Lib.hid (HN.out.after hB)
  refine hK.out _ _ LA.out (fun hS => ?_)
  clear hK K hB
  try simp only [Act.put, List.setIfInBounds_toArray, List.set_cons_zero, List.set_cons_succ]
  refine wpAnyH_take (i := 25) (v := ?_) (op_at rfl) (by kernel_rfl) (by kernel_rfl) (by kernel_rfl) (fun _ _ _ h => h) (Or.inl ⟨by rfl, ?_⟩) hS ?_; rotate_left; focus ((intro w' hSw; clear hSw; go_simp) <;> with_reducible rfl)
  try simp only [Act.put, List.setIfInBounds_toArray, List.set_cons_zero, List.set_cons_succ]
  refine wpAnyH_take (i := 26) (v := ?_) (op_at rfl) (by kernel_rfl) (by kernel_rfl) (by kernel_rfl) (fun _ _ _ h => h) (Or.inl ⟨by rfl, ?_⟩) hS ?_; rotate_left; focus ((intro w' hSw; clear hSw; go_simp) <;> with_reducible rfl)
  try simp only [Act.put, List.setIfInBounds_toArray, List.set_cons_zero, List.set_cons_succ]
  refine wpAnyH_take (i := 27) (v := ?_) (op_at rfl) (by kernel_rfl) (by kernel_rfl) (by kernel_rfl) (fun _ _ _ h => h) (Or.inl ⟨by rfl, ?_⟩) hS ?_; rotate_left; focus ((intro w' hSw; clear hSw; go_simp) <;> with_reducible rfl)
  try simp only [Act.put, List.setIfInBounds_toArray, List.set_cons_zero, List.set_cons_succ]
  refine wpAnyH_take (i := 29) (v := ?_) (op_at rfl) (by kernel_rfl) (by kernel_rfl) (by kernel_rfl) (fun _ _ _ h => h) (Or.inl ⟨by rfl, ?_⟩) hS ?_; rotate_left; focus ((intro w' hSw; clear hSw; go_simp) <;> with_reducible rfl)
  try simp only [Act.put, List.setIfInBounds_toArray, List.set_cons_zero, List.set_cons_succ]
  refine wpAnyH_ready (rs := [28]) (by kernel_rfl) (by simp) ?_
  refine (AllReadyH.cons (op_at rfl) (fun K hK => ?_) AllReadyH.nil)
  go_simp
  refine (total_at _ L _ HT.out).mono ?_
  rintro e w10 ⟨t1, rfl, ht1, hB⟩
  have T1 := ht1
  clear ht1
  have B10 := Lib.hid (below_call (w := w) B9.out hB)
  replace LA := Lib.hid (LA.out.after hB)
  replace HT := Lib.hid (HT.out.after hB)
  replace HN := Lib.hid (HN.out.after hB)
  refine hK.out _ _ LA.out (fun hS => ?_)
  clear hK K hB
  try simp only [Act.put, List.setIfInBounds_toArray, List.set_cons_zero, List.set_cons_succ]
  refine wpAnyH_ready (rs := [30]) (by kernel_rfl) (by simp) ?_
  refine (AllReadyH.cons (op_at rfl) (fun K hK => ?_) AllReadyH.nil)
  go_simp
  refine (rtotal_at _ L _ HT.out).mono ?_
  rintro e w11 ⟨t2, rfl, ht2, hB⟩
  obtain rfl : t2 = t1 := by rw [ht2.out, T1.out]
  clear ht2 T1
  have B11 := Lib.hid (below_call (w := w) B10.out hB)
  replace LA := Lib.hid (LA.out.after hB)
  replace HT := Lib.hid (HT.out.after hB)
  replace HN := Lib.hid (HN.out.after hB)
  refine hK.out _ _ LA.out (fun hS => ?_)
  clear hK K hB
  try simp only [Act.put, List.setIfInBounds_toArray, List.set_cons_zero, List.set_cons_succ]
  refine wpAnyH_take (i := 31) (v := ?_) (op_at rfl) (by kernel_rfl) (by kernel_rfl) (by kernel_rfl) (fun _ _ _ h => h) (Or.inl ⟨by rfl, ?_⟩) hS ?_; rotate_left; focus ((intro w' hSw; clear hSw; go_simp) <;> with_reducible rfl)
  try simp only [Act.put, List.setIfInBounds_toArray, List.set_cons_zero, List.set_cons_succ]
  refine wpAnyH_take (i := 32) (v := ?_) (op_at rfl) (by kernel_rfl) (by kernel_rfl) (by kernel_rfl) (fun _ _ _ h => h) (Or.inl ⟨by rfl, ?_⟩) hS ?_; rotate_left; focus ((intro w' hSw; clear hSw; go_simp) <;> with_reducible rfl)
  try simp only [Act.put, List.setIfInBounds_toArray, List.set_cons_zero, List.set_cons_succ]
  refine wpAnyH_take (i := 33) (v := ?_) (op_at rfl) (by kernel_rfl) (by kernel_rfl) (by kernel_rfl) (fun _ _ _ h => h) (Or.inl ⟨by rfl, ?_⟩) hS ?_; rotate_left; focus ((intro w' hSw; clear hSw; go_simp) <;> with_reducible rfl)
  try simp only [Act.put, List.setIfInBounds_toArray, List.set_cons_zero, List.set_cons_succ]
  refine wpAnyH_take (i := 34) (v := ?_) (op_at rfl) (by kernel_rfl) (by kernel_rfl) (by kernel_rfl) (fun _ _ _ h => h) (Or.inl ⟨by rfl, ?_⟩) hS ?_; rotate_left; focus ((intro w' hSw; clear hSw; go_simp) <;> with_reducible rfl)
  try simp only [Act.put, List.setIfInBounds_toArray, List.set_cons_zero, List.set_cons_succ]
  refine wpAnyH_take (i := 35) (v := ?_) (op_at rfl) (by kernel_rfl) (by kernel_rfl) (by kernel_rfl) (fun _ _ _ h => h) (Or.inl ⟨by rfl, ?_⟩) hS ?_; rotate_left; focus ((intro w' hSw; clear hSw; go_simp) <;> with_reducible rfl)
  try simp only [Act.put, List.setIfInBounds_toArray, List.set_cons_zero, List.set_cons_succ]
  refine wpAnyH_take (i := 37) (v := ?_) (op_at rfl) (by kernel_rfl) (by kernel_rfl) (by kernel_rfl) (fun _ _ _ h => h) (Or.inl ⟨by rfl, ?_⟩) hS ?_; rotate_left; focus ((intro w' hSw; clear hSw; go_simp) <;> with_reducible rfl)
  try simp only [Act.put, List.setIfInBounds_toArray, List.set_cons_zero, List.set_cons_succ]
  refine wpAnyH_take (i := 38) (v := ?_) (op_at rfl) (by kernel_rfl) (by kernel_rfl) (by kernel_rfl) (fun _ _ _ h => h) (Or.inl ⟨by rfl, ?_⟩) hS ?_; rotate_left; focus ((intro w' hSw; clear hSw; go_simp) <;> with_reducible rfl)
  try simp only [Act.put, List.setIfInBounds_toArray, List.set_cons_zero, List.set_cons_succ]
  refine wpAnyH_ready (rs := [36]) (by kernel_rfl) (by simp) ?_
  refine (AllReadyH.cons (op_at rfl) (fun K hK => ?_) AllReadyH.nil)
  go_simp
  refine (same_at _ _ L M _ HT.out HN.out).mono ?_
  rintro e w12 ⟨s1, rfl, hs1, hB⟩
  have S1 := hs1
  clear hs1
  have B12 := Lib.hid (below_call (w := w) B11.out hB)
  replace LA := Lib.hid (LA.out.after hB)
  replace HT := Lib.hid (HT.out.after hB)
  replace HN := Lib.hid (HN.out.after hB)
  refine hK.out _ _ LA.out (fun hS => ?_)
  clear hK K hB
  try simp only [Act.put, List.setIfInBounds_toArray, List.set_cons_zero, List.set_cons_succ]
  refine wpAnyH_ready (rs := [39]) (by kernel_rfl) (by simp) ?_
  refine (AllReadyH.cons (op_at rfl) (fun K hK => ?_) AllReadyH.nil)
  go_simp
  refine (rsame_at _ _ L M _ HT.out HN.out).mono ?_
  rintro e w13 ⟨s2, rfl, hs2, hB⟩
  obtain rfl : s2 = s1 := by rw [hs2.out, S1.out]
  clear hs2 S1
  have EQ2 : (s2 == s2) = true := beq_self_eq_true s2
  have B13 := Lib.hid (below_call (w := w) B12.out hB)
  replace LA := Lib.hid (LA.out.after hB)
  replace HT := Lib.hid (HT.out.after hB)
  replace HN := Lib.hid (HN.out.after hB)
  refine hK.out _ _ LA.out (fun hS => ?_)
  clear hK K hB
  try simp only [Act.put, List.setIfInBounds_toArray, List.set_cons_zero, List.set_cons_succ]
  refine wpAnyH_take (i := 40) (v := ?_) (op_at rfl) (by kernel_rfl) (by kernel_rfl) (by kernel_rfl) (fun _ _ _ h => h) (Or.inl ⟨by rfl, ?_⟩) hS ?_; rotate_left; focus ((intro w' hSw; clear hSw; go_simp) <;> with_reducible rfl)
  try simp only [Act.put, List.setIfInBounds_toArray, List.set_cons_zero, List.set_cons_succ]
  refine wpAnyH_take (i := 41) (v := ?_) (op_at rfl) (by kernel_rfl) (by kernel_rfl) (by kernel_rfl) (fun _ _ _ h => h) (Or.inl ⟨by rfl, ?_⟩) hS ?_; rotate_left; focus ((intro w' hSw; clear hSw; go_simp) <;> with_reducible rfl)
  try simp only [Act.put, List.setIfInBounds_toArray, List.set_cons_zero, List.set_cons_succ]
  refine wpAnyH_take (i := 42) (v := ?_) (op_at rfl) (by kernel_rfl) (by kernel_rfl) (by kernel_rfl) (fun _ _ _ h => h) (Or.inl ⟨by rfl, ?_⟩) hS ?_; rotate_left; focus ((intro w' hSw; clear hSw; go_simp) <;> with_reducible rfl)
  try simp only [Act.put, List.setIfInBounds_toArray, List.set_cons_zero, List.set_cons_succ]
  refine wpAnyH_take (i := 43) (v := ?_) (op_at rfl) (by kernel_rfl) (by kernel_rfl) (by kernel_rfl) (fun _ _ _ h => h) (Or.inl ⟨by rfl, ?_⟩) hS ?_; rotate_left; focus ((intro w' hSw; clear hSw; go_simp) <;> with_reducible rfl)
  try simp only [Act.put, List.setIfInBounds_toArray, List.set_cons_zero, List.set_cons_succ]
  refine wpAnyH_take (i := 44) (v := ?_) (op_at rfl) (by kernel_rfl) (by kernel_rfl) (by kernel_rfl) (fun _ _ _ h => h) (Or.inl ⟨by rfl, ?_⟩) hS ?_; rotate_left; focus ((intro w' hSw; clear hSw; go_simp) <;> with_reducible rfl)
  try simp only [Act.put, List.setIfInBounds_toArray, List.set_cons_zero, List.set_cons_succ]
  refine wpAnyH_ready (rs := [45]) (by kernel_rfl) (by simp) ?_
  refine (AllReadyH.cons (op_at rfl) (fun K hK => ?_) AllReadyH.nil)
  go_simp
  refine (same_yes _ _ L L _ HT.out HT.out rfl).mono ?_
  rintro e w14 ⟨rfl, hB⟩
  have B14 := Lib.hid (below_call (w := w) B13.out hB)
  replace LA := Lib.hid (LA.out.after hB)
  replace HT := Lib.hid (HT.out.after hB)
  replace HN := Lib.hid (HN.out.after hB)
  refine hK.out _ _ LA.out (fun hS => ?_)
  clear hK K hB
  try simp only [Act.put, List.setIfInBounds_toArray, List.set_cons_zero, List.set_cons_succ]
  refine wpAnyH_take (i := 46) (v := ?_) (op_at rfl) (by kernel_rfl) (by kernel_rfl) (by kernel_rfl) (fun _ _ _ h => h) (Or.inl ⟨by rfl, ?_⟩) hS ?_; rotate_left; focus ((intro w' hSw; clear hSw; go_simp) <;> with_reducible rfl)
  try simp only [Act.put, List.setIfInBounds_toArray, List.set_cons_zero, List.set_cons_succ]
  refine wpAnyH_take (i := 47) (v := ?_) (op_at rfl) (by kernel_rfl) (by kernel_rfl) (by kernel_rfl) (fun _ _ _ h => h) (Or.inl ⟨by rfl, ?_⟩) hS ?_; rotate_left; focus ((intro w' hSw; clear hSw; go_simp) <;> with_reducible rfl)
  try simp only [Act.put, List.setIfInBounds_toArray, List.set_cons_zero, List.set_cons_succ]
  refine wpAnyH_done (by kernel_rfl) ?_ _
  go_wp2_with fail
  go_ret
  exact ⟨rfl, B14.out⟩
end Go.Proofs.YtbggaijjgnjknaaDoor
