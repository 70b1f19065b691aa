/-
  THE WALK OF THE STATEMENT CeilingMany (printed by wip/genpathm.py).
-/
import Derived.Test.YtmbafllkiofhnaaDoorCeiPaths
import Derived.Test.YtmbafllkiofhnaaDoorCeiTurns
import Derived.Test.YtmbafllkiofhnaaDoorApp
namespace Go.Proofs.YtmbafllkiofhnaaDoor
open Go.RowKit

attribute [local go_sem] u_and u_or u_andNot u_add u_sub u_bit u_eq_zero u_beq

theorem pathK_le {h : Lab} : ∀ (l : List Lab) (c : Lab), pathK h c l ≤ l.length
  | [], _ => Nat.le_refl _
  | a :: l, c => by
    unfold pathK
    split
    · exact Nat.succ_le_succ (pathK_le l _)
    · exact Nat.zero_le _
theorem fold_same {h : Lab} : ∀ (l : List Lab) (c : Lab), (∀ x, x ∈ l → okL x = true) → (l.take (pathK h c l)).foldl stepL c = pathAt h c (l.take (pathK h c l))
  | [], _, _ => by unfold pathK; rfl
  | a :: l, c, ho => by
    unfold pathK
    by_cases hl : le3 (joinL c a) h = true
    · rw [if_pos hl, List.take_succ_cons]
      show (l.take _).foldl stepL (stepL c a) = pathAt h (stepP h c a) (l.take _)
      rw [show stepL c a = joinL c a from if_pos (ho a (by simp)), show stepP h c a = joinL c a from if_pos hl]
      exact fold_same l _ (fun x hx => ho x (by simp [hx]))
    · rw [if_neg hl]; rfl
theorem far_le {h : Lab} : ∀ (l : List Lab) (c : Lab), 0 < pathK h c l → le3 (pathAt h c (l.take (pathK h c l))) h = true
  | [], _, hk => by unfold pathK at hk; omega
  | a :: l, c, hk => by
    unfold pathK at hk ⊢
    by_cases hl : le3 (joinL c a) h = true
    · rw [if_pos hl, List.take_succ_cons]
      show le3 (pathAt h (stepP h c a) (l.take _)) h = true
      rw [show stepP h c a = joinL c a from if_pos hl]
      by_cases h0 : 0 < pathK h (joinL c a) l
      · exact far_le l _ h0
      · rw [show pathK h (joinL c a) l = 0 by omega]; exact hl
    · rw [if_neg hl] at hk; omega
theorem far {sa : Addr} {cur high : Lab} {l : List Lab} (h : allR cur high l = true) (hlen : l.length ≤ 1000) :
    ∃ (k : Nat) (x : Lab), k ≤ l.length ∧ PathIs sa cur l high x k (if k = l.length then 0 else 120) ∧ LeastIs (cur :: l.take k) x 0 ∧ (0 < k → UnderIs x high true) := by
  have hA : ∀ x, x ∈ [cur, high] ++ l → okL x = true := by rw [← List.all_eq_true]; exact h
  have oc := hA cur (by simp)
  have oh := hA high (by simp)
  have ol : ∀ x, x ∈ l → okL x = true := fun x hx => hA x (by simp [hx])
  have hall : (cur :: l.take (pathK high cur l)).all okL = true := by
    rw [List.all_eq_true]; intro x hx
    rcases List.mem_cons.1 hx with rfl | hx
    · exact oc
    · exact ol x (List.mem_of_mem_take hx)
  refine ⟨pathK high cur l, pathAt high cur (l.take (pathK high cur l)), pathK_le l cur, pathIs hlen (if_pos h) (if_pos h) (if_pos h), leastIs ?_ (if_pos hall), fun h0 => underIs (underL_iff.2 ⟨okL_pathAt _ _ oc (fun x hx => ol x (List.mem_of_mem_take hx)), oh, far_le l cur h0⟩)⟩
  refine (if_pos hall).trans ?_
  show (l.take _).foldl stepL (stepL botL cur) = _
  rw [show stepL botL cur = cur by unfold stepL; rw [if_pos oc]; exact le3_join_eq.1 (bot_le oc)]
  exact fold_same l cur ol
theorem near {sa : Addr} {cur high : Lab} {l : List Lab} (h : allR cur high l = false) (hlen : l.length ≤ 1000) : PathIs sa cur l high zeroL 0 20 :=
  pathIs hlen (by unfold pathsL; rw [h]; rfl) (by unfold pathsK; rw [h]; rfl) (by unfold pathsE; rw [h]; rfl)
theorem Src.of_blk {W : World} {g : Nat} {t : TypeId} {a b c : Value} (h : Blk W g t #[a, b, c]) : Src W 3 (some ⟨g, 0, none⟩) 1 [a, b, c] :=
  ⟨rfl, (fun h => by cases h), fun ad ha j u hu => by
    cases ha
    rw [Go.WideShapes.add_plain, Nat.zero_add]
    exact (h.cell j).trans (by simpa using hu)⟩
theorem own_ge {w : World} {base n size k : Nat} {e : TypeId} {v : Value} {xs : List Value} (h : w.ownsRow base e size v n xs) (hk : v.ownBlock = some k) : base ≤ k := by
  rcases h.2 with ⟨rfl, _⟩ | ⟨g, cap, cur, rfl, hb, _⟩
  · cases hk
  · simp only [Value.ownBlock] at hk; injection hk with hk; omega
theorem lab_one (a : Lab) : ∀ q ∈ ([.int .i64 a.lv, .int .u64 (u a.c), .int .i64 a.ig] : List Value), q.oneCell' = true := fun q hu => by
  simp only [List.mem_cons, List.not_mem_nil, or_false] at hu
  rcases hu with rfl | rfl | rfl <;> rfl
set_option maxRecDepth 100000 in
set_option maxHeartbeats 4000000 in
theorem many_nil_bad (cur high : Lab) (sa : Addr) (w : World) (hh : Env sa w) (hl : LabsAt w.heap.size w (.slice none 0 0) ([] : List Lab)) (hp : ∀ v, ∀ W, Env sa W → LabsAt W.heap.size W v ([] : List Lab) → Calls Tryd.prog 25 #[.agg #[.int .i64 cur.lv, .int .u64 (u cur.c), .int .i64 cur.ig], v, .agg #[.int .i64 high.lv, .int .u64 (u high.c), .int .i64 high.ig]] W fun e w' => e = .returned (.tuple #[.agg #[.int .i64 zeroL.lv, .int .u64 (u zeroL.c), .int .i64 zeroL.ig], .int .i64 0, .int .i64 20]) ∧ Below W.heap.size W w') :
    Calls Tryd.prog 10 #[.agg #[.int .i64 cur.lv, .int .u64 (u cur.c), .int .i64 cur.ig], .slice none 0 0, .agg #[.int .i64 high.lv, .int .u64 (u high.c), .int .i64 high.ig]] w (Yes w) := by
  have HH := Lib.hid hh
  have HL := Lib.hid hl
  have HP := Lib.hid (hp (.slice none 0 0))
  clear hh hl hp
  go_enter Tryd.func10, Tryd.ntmps10
  go_wp2_with fail
  refine (shown_any sa _ ((HH.out.alloc _).alloc _)).mono ?_
  rintro e w1 ⟨rfl, hB⟩
  have B0 : Hid (Blk w1 w.heap.size 24 #[.int .i64 cur.lv, .int .u64 (u cur.c), .int .i64 cur.ig]) := Lib.hid (((Blk.new' rfl).alloc _).after hB)
  have B1 : Hid (Blk w1 (w.heap.size + 1) 24 #[.int .i64 high.lv, .int .u64 (u high.c), .int .i64 high.ig]) := Lib.hid ((Blk.new' (by simp)).after hB)
  have HB := Lib.hid (below_call (below_alloc (below_alloc (Below.refl w.heap.size w) _) _) hB)
  clear hB
  generalize e1 : w.heap.size + 1 = gh at *
  have pB0_0 := B0.out.at_ (i := 0) (v := .int .i64 cur.lv) rfl
  have pB0_1 := B0.out.at_ (i := 1) (v := .int .u64 (u cur.c)) rfl
  have pB0_2 := B0.out.at_ (i := 2) (v := .int .i64 cur.ig) rfl
  have lB0 := B0.out.lt
  have pB1_0 := B1.out.at_ (i := 0) (v := .int .i64 high.lv) rfl
  have pB1_1 := B1.out.at_ (i := 1) (v := .int .u64 (u high.c)) rfl
  have pB1_2 := B1.out.at_ (i := 2) (v := .int .i64 high.ig) rfl
  have lB1 := B1.out.lt
  go_wp2_with fail
  refine (HP.out _ (HH.out.up HB.out) ((HL.out.below HB.out).mono HB.out.size)).mono ?_
  rintro e w2 ⟨rfl, hB⟩
  clear pB0_0 pB0_1 pB0_2 pB1_0 pB1_1 pB1_2 lB0 lB1
  replace B0 := Lib.hid (B0.out.after hB)
  replace B1 := Lib.hid (B1.out.after hB)
  replace HB := Lib.hid (below_call HB.out hB)
  clear hB
  go_wp2_with fail
  go_ret
  exact ⟨rfl, below_alloc HB.out _⟩
set_option maxRecDepth 100000 in
set_option maxHeartbeats 4000000 in
theorem many_nil (cur high x : Lab) (sa : Addr) (w : World) (hh : Env sa w) (hl : LabsAt w.heap.size w (.slice none 0 0) ([] : List Lab)) (hp : ∀ v, ∀ W, Env sa W → LabsAt W.heap.size W v ([] : List Lab) → Calls Tryd.prog 25 #[.agg #[.int .i64 cur.lv, .int .u64 (u cur.c), .int .i64 cur.ig], v, .agg #[.int .i64 high.lv, .int .u64 (u high.c), .int .i64 high.ig]] W fun e w' => e = .returned (.tuple #[.agg #[.int .i64 x.lv, .int .u64 (u x.c), .int .i64 x.ig], .int .i64 (0 : Nat), .int .i64 0]) ∧ Below W.heap.size W w') (hle : LeastIs (cur :: ([] : List Lab)) x 0) (hlk : LabsAt w.heap.size w (.slice none 0 0) ([] : List Lab)) (hmk : ([] : List Lab).length = 0) :
    Calls Tryd.prog 10 #[.agg #[.int .i64 cur.lv, .int .u64 (u cur.c), .int .i64 cur.ig], .slice none 0 0, .agg #[.int .i64 high.lv, .int .u64 (u high.c), .int .i64 high.ig]] w (Yes w) := by
  have HH := Lib.hid hh
  have HL := Lib.hid hl
  have HP := Lib.hid (hp (.slice none 0 0))
  have HLE := Lib.hid hle
  have HLK := Lib.hid hlk
  have HMK := Lib.hid hmk
  clear hh hl hp hle hlk hmk
  go_enter Tryd.func10, Tryd.ntmps10
  go_wp2_with fail
  refine (shown_any sa _ ((HH.out.alloc _).alloc _)).mono ?_
  rintro e w1 ⟨rfl, hB⟩
  have B0 : Hid (Blk w1 w.heap.size 24 #[.int .i64 cur.lv, .int .u64 (u cur.c), .int .i64 cur.ig]) := Lib.hid (((Blk.new' rfl).alloc _).after hB)
  have B1 : Hid (Blk w1 (w.heap.size + 1) 24 #[.int .i64 high.lv, .int .u64 (u high.c), .int .i64 high.ig]) := Lib.hid ((Blk.new' (by simp)).after hB)
  have HB := Lib.hid (below_call (below_alloc (below_alloc (Below.refl w.heap.size w) _) _) hB)
  clear hB
  generalize e1 : w.heap.size + 1 = gh at *
  have pB0_0 := B0.out.at_ (i := 0) (v := .int .i64 cur.lv) rfl
  have pB0_1 := B0.out.at_ (i := 1) (v := .int .u64 (u cur.c)) rfl
  have pB0_2 := B0.out.at_ (i := 2) (v := .int .i64 cur.ig) rfl
  have lB0 := B0.out.lt
  have pB1_0 := B1.out.at_ (i := 0) (v := .int .i64 high.lv) rfl
  have pB1_1 := B1.out.at_ (i := 1) (v := .int .u64 (u high.c)) rfl
  have pB1_2 := B1.out.at_ (i := 2) (v := .int .i64 high.ig) rfl
  have lB1 := B1.out.lt
  go_wp2_with fail
  refine (HP.out _ (HH.out.up HB.out) ((HL.out.below HB.out).mono HB.out.size)).mono ?_
  rintro e w2 ⟨rfl, hB⟩
  clear pB0_0 pB0_1 pB0_2 pB1_0 pB1_1 pB1_2 lB0 lB1
  replace B0 := Lib.hid (B0.out.after hB)
  replace B1 := Lib.hid (B1.out.after hB)
  replace HB := Lib.hid (below_call HB.out hB)
  clear hB
  obtain ⟨i0, hi, hz0, hz1, hz2⟩ := info_parts infoLab
  have hz2w : w.heap.size ≤ w2.heap.size := HB.out.size
  go_upto_region 9 with fail
  refine wp_region_gen (S := (fun W' => Blk W' w.heap.size 24 #[.int .i64 cur.lv, .int .u64 (u cur.c), .int .i64 cur.ig] ∧ Blk W' gh 24 #[.int .i64 high.lv, .int .u64 (u high.c), .int .i64 high.ig] ∧ Blk W' w2.heap.size 24 #[.int .i64 x.lv, .int .u64 (u x.c), .int .i64 x.ig] ∧ Below w.heap.size w W')) (by kernel_rfl) ⟨(B0.out.alloc _).drew, (B1.out.alloc _).drew, (Blk.new' rfl).drew, (below_alloc HB.out _).drew⟩ (fun w3 hS => ?_)
  refine wpAnyH_take (i := 0) (v := ?_) (op_at rfl) (by kernel_rfl) (by kernel_rfl) (by kernel_rfl) (fun _ _ _ h => h) (Or.inl ⟨by rfl, ?_⟩) hS ?_; rotate_left; focus ((intro w' hSw; clear hSw; go_simp) <;> with_reducible rfl)
  try simp only [Act.put, List.setIfInBounds_toArray, List.set_cons_zero, List.set_cons_succ]
  refine wpAnyH_take (i := 1) (v := ?_) (op_at rfl) (by kernel_rfl) (by kernel_rfl) (by kernel_rfl) (fun _ _ _ h => h) (Or.inl ⟨by rfl, ?_⟩) hS ?_; rotate_left; focus ((intro w' hSw; obtain ⟨q, -⟩ := hSw; have c0 := q.at_ (i := 0) (v := .int .i64 cur.lv) rfl; have c1 := q.at_ (i := 1) (v := .int .u64 (u cur.c)) rfl; have c2 := q.at_ (i := 2) (v := .int .i64 cur.ig) rfl; clear q; go_simp) <;> with_reducible rfl)
  try simp only [Act.put, List.setIfInBounds_toArray, List.set_cons_zero, List.set_cons_succ]
  refine wpAnyH_take (i := 4) (v := ?_) (op_at rfl) (by kernel_rfl) (by kernel_rfl) (by kernel_rfl) (fun _ _ _ h => h) (Or.inl ⟨by rfl, ?_⟩) hS ?_; rotate_left; focus ((intro w' hSw; clear hSw; go_simp) <;> with_reducible rfl)
  try simp only [Act.put, List.setIfInBounds_toArray, List.set_cons_zero, List.set_cons_succ]
  refine wpAnyH_take (i := 5) (v := ?_) (op_at rfl) (by kernel_rfl) (by kernel_rfl) (by kernel_rfl) (fun _ _ _ h => h) (Or.inl ⟨by rfl, ?_⟩) hS ?_; rotate_left; focus ((intro w' hSw; clear hSw; go_simp) <;> with_reducible rfl)
  try simp only [Act.put, List.setIfInBounds_toArray, List.set_cons_zero, List.set_cons_succ]
  refine wpAnyH_take (i := 6) (v := ?_) (op_at rfl) (by kernel_rfl) (by kernel_rfl) (by kernel_rfl) (fun _ _ _ h => h) (Or.inl ⟨by rfl, ?_⟩) hS ?_; rotate_left; focus ((intro w' hSw; clear hSw; go_simp) <;> with_reducible rfl)
  try simp only [Act.put, List.setIfInBounds_toArray, List.set_cons_zero, List.set_cons_succ]
  refine wpAnyH_ready (rs := [2]) (by kernel_rfl) (by simp) ?_
  refine (AllReadyH.cons (op_at rfl) (fun K hK => ?_) AllReadyH.nil)
  go_simp
  obtain ⟨b0, b1, b2, hb⟩ := hS
  have hz3 : w.heap.size ≤ w3.heap.size := hb.size
  have hb0 := b0.lt
  have hb1 := b1.lt
  have hb2 := b2.lt
  have N0 : Hid (Blk (w3.alloc (.cells #[.int .i64 cur.lv, .int .u64 (u cur.c), .int .i64 cur.ig] 24)) w3.heap.size 24 #[.int .i64 cur.lv, .int .u64 (u cur.c), .int .i64 cur.ig]) := Lib.hid (Blk.new' rfl)
  refine hK.out _ _ ⟨b0.alloc _, b1.alloc _, b2.alloc _, below_alloc hb _⟩ (fun hS => ?_)
  clear hK K b0 b1 b2 hb
  try simp only [Act.put, List.setIfInBounds_toArray, List.set_cons_zero, List.set_cons_succ]
  refine wpAnyH_ready (rs := [3]) (by kernel_rfl) (by simp) ?_
  refine (AllReadyH.cons (op_at rfl) (fun K hK => ?_) AllReadyH.nil)
  rw [if_pos (by rfl)]
  refine wp_append_src _ _ _ 35 rfl w3.heap.size 24 i0 (.agg #[.int .i64 0, .int .u64 0, .int .i64 0]) 3 24 Tryd.underlying35 hi hz0 hz1 hz2 rfl (by decide) _ 0 [] rfl ⟨rfl, .inl ⟨rfl, rfl⟩⟩ (some ⟨w3.heap.size, 0, none⟩) 1 1 [.int .i64 cur.lv, .int .u64 (u cur.c), .int .i64 cur.ig] rfl (Src.of_blk N0.out) (lab_one cur) (by unfold maxLen; omega) (by omega) (by simp) ?_
  intro v1 w4 hown hgrow hblk
  obtain ⟨b0, b1, b2, hb⟩ := hS
  have hsz4 : w3.heap.size < w4.heap.size := by have := hgrow.size; simp at this; omega
  have HOWN := Lib.hid hown
  refine hK.out _ _ ⟨b0.grown hgrow (by intro e; cases e), b1.grown hgrow (by intro e; cases e), b2.grown hgrow (by intro e; cases e), hb.grown hgrow (by simp; omega) (fun k e => by cases e)⟩ (fun hS => ?_)
  clear hK K b0 b1 b2 hb hown hgrow hblk N0
  try simp only [Act.put, List.setIfInBounds_toArray, List.set_cons_zero, List.set_cons_succ]
  refine wpAnyH_ready (rs := [7]) (by kernel_rfl) (by simp) ?_
  refine (AllReadyH.cons (op_at rfl) (fun K hK => ?_) AllReadyH.nil)
  rw [if_pos (by rfl)]
  obtain ⟨b0, b1, b2, hb⟩ := hS
  have hsrc := ((HLK.out.below hb).src).1
  refine wp_append_src _ _ _ 35 rfl w3.heap.size 24 i0 (.agg #[.int .i64 0, .int .u64 0, .int .i64 0]) 3 24 Tryd.underlying35 hi hz0 hz1 hz2 rfl (by decide) _ (0 + 1) _ rfl HOWN.out none 0 0 _ rfl hsrc labs_one (by unfold maxLen; omega) (by omega) (by omega) ?_
  intro v2 w5 hown hgrow hblk
  have hge := fun k e => own_ge HOWN.out (k := k) e
  have hsz5 : w4.heap.size ≤ w5.heap.size := hgrow.size
  have HO2 : Hid (w5.ownsRow w3.heap.size 24 3 v2 (0 + 1 + 0) ((cur :: ([] : List Lab)).flatMap fun x => [.int .i64 x.lv, .int .u64 (u x.c), .int .i64 x.ig])) := Lib.hid (by simpa using hown)
  refine hK.out _ _ ⟨b0.grown hgrow (fun e => by have := hge _ e.symm; omega), b1.grown hgrow (fun e => by have := hge _ e.symm; omega), b2.grown hgrow (fun e => by have := hge _ e.symm; omega), hb.grown hgrow (by omega) (fun k e => by have := hge k e; omega)⟩ (fun hS => ?_)
  clear hK K b0 b1 b2 hb hown hgrow hblk HOWN hge hsrc
  try simp only [Act.put, List.setIfInBounds_toArray, List.set_cons_zero, List.set_cons_succ]
  refine wpAnyH_take (i := 8) (v := ?_) (op_at rfl) (by kernel_rfl) (by kernel_rfl) (by kernel_rfl) (fun _ _ _ h => h) (Or.inl ⟨by rfl, ?_⟩) hS ?_; rotate_left; focus ((intro w' hSw; clear hSw; go_simp) <;> with_reducible rfl)
  try simp only [Act.put, List.setIfInBounds_toArray, List.set_cons_zero, List.set_cons_succ]
  refine wpAnyH_done (by kernel_rfl) ?_ _
  obtain ⟨b0, b1, b2, hb⟩ := hS
  replace B0 := Lib.hid b0
  replace B1 := Lib.hid b1
  have B2 := Lib.hid b2
  replace HB := Lib.hid hb
  clear b0 b1 b2 hb
  go_wp2_with fail
  refine (HLE.out _ _ (HH.out.up HB.out).h ((LabsAt.of_own (l := cur :: ([] : List Lab)) HO2.out (by have hq := HMK.out; simp only [List.length_cons]; omega)))).mono ?_
  rintro e w6 ⟨rfl, hB⟩
  replace B0 := Lib.hid (B0.out.after hB)
  replace B1 := Lib.hid (B1.out.after hB)
  replace B2 := Lib.hid (B2.out.after hB)
  replace HB := Lib.hid (below_call HB.out hB)
  clear hB
  clear HO2
  have pB1_0 := B1.out.at_ (i := 0) (v := .int .i64 high.lv) rfl
  have pB1_1 := B1.out.at_ (i := 1) (v := .int .u64 (u high.c)) rfl
  have pB1_2 := B1.out.at_ (i := 2) (v := .int .i64 high.ig) rfl
  have lB1 := B1.out.lt
  have pB2_0 := B2.out.at_ (i := 0) (v := .int .i64 x.lv) rfl
  have pB2_1 := B2.out.at_ (i := 1) (v := .int .u64 (u x.c)) rfl
  have pB2_2 := B2.out.at_ (i := 2) (v := .int .i64 x.ig) rfl
  have lB2 := B2.out.lt
  have hE := eqlIs (eqL_self x)
  go_wp2_with fail
  go_ret
  exact ⟨rfl, below_alloc HB.out _⟩
set_option maxRecDepth 100000 in
set_option maxHeartbeats 4000000 in
theorem many_cut_bad (cur high : Lab) (sa : Addr) (w : World) (hh : Env sa w) (ls : List Lab) (b off cap : Nat) (hl : LabsAt w.heap.size w (.slice (some ⟨b, off, none⟩) 30 cap) (ls.take 30)) (hm : 30 < ls.length) (hcap : ls.length ≤ cap) (hn63 : ls.length ≤ 9223372036854775807) (hp : ∀ v, ∀ W, Env sa W → LabsAt W.heap.size W v (ls.take 30) → Calls Tryd.prog 25 #[.agg #[.int .i64 cur.lv, .int .u64 (u cur.c), .int .i64 cur.ig], v, .agg #[.int .i64 high.lv, .int .u64 (u high.c), .int .i64 high.ig]] W fun e w' => e = .returned (.tuple #[.agg #[.int .i64 zeroL.lv, .int .u64 (u zeroL.c), .int .i64 zeroL.ig], .int .i64 0, .int .i64 20]) ∧ Below W.heap.size W w') :
    Calls Tryd.prog 10 #[.agg #[.int .i64 cur.lv, .int .u64 (u cur.c), .int .i64 cur.ig], .slice (some ⟨b, off, none⟩) ls.length cap, .agg #[.int .i64 high.lv, .int .u64 (u high.c), .int .i64 high.ig]] w (Yes w) := by
  have HH := Lib.hid hh
  have HL := Lib.hid hl
  have HP := Lib.hid (hp (.slice (some ⟨b, off, none⟩) 30 cap))
  clear hh hl hp
  go_enter Tryd.func10, Tryd.ntmps10
  go_wp2_with fail
  refine (shown_any sa _ ((HH.out.alloc _).alloc _)).mono ?_
  rintro e w1 ⟨rfl, hB⟩
  have B0 : Hid (Blk w1 w.heap.size 24 #[.int .i64 cur.lv, .int .u64 (u cur.c), .int .i64 cur.ig]) := Lib.hid (((Blk.new' rfl).alloc _).after hB)
  have B1 : Hid (Blk w1 (w.heap.size + 1) 24 #[.int .i64 high.lv, .int .u64 (u high.c), .int .i64 high.ig]) := Lib.hid ((Blk.new' (by simp)).after hB)
  have HB := Lib.hid (below_call (below_alloc (below_alloc (Below.refl w.heap.size w) _) _) hB)
  clear hB
  generalize e1 : w.heap.size + 1 = gh at *
  have pB0_0 := B0.out.at_ (i := 0) (v := .int .i64 cur.lv) rfl
  have pB0_1 := B0.out.at_ (i := 1) (v := .int .u64 (u cur.c)) rfl
  have pB0_2 := B0.out.at_ (i := 2) (v := .int .i64 cur.ig) rfl
  have lB0 := B0.out.lt
  have pB1_0 := B1.out.at_ (i := 0) (v := .int .i64 high.lv) rfl
  have pB1_1 := B1.out.at_ (i := 1) (v := .int .u64 (u high.c)) rfl
  have pB1_2 := B1.out.at_ (i := 2) (v := .int .i64 high.ig) rfl
  have lB1 := B1.out.lt
  go_wp2_with fail
  refine (HP.out _ (HH.out.up HB.out) ((HL.out.below HB.out).mono HB.out.size)).mono ?_
  rintro e w2 ⟨rfl, hB⟩
  clear pB0_0 pB0_1 pB0_2 pB1_0 pB1_1 pB1_2 lB0 lB1
  replace B0 := Lib.hid (B0.out.after hB)
  replace B1 := Lib.hid (B1.out.after hB)
  replace HB := Lib.hid (below_call HB.out hB)
  clear hB
  go_wp2_with fail
  go_ret
  exact ⟨rfl, below_alloc HB.out _⟩
set_option maxRecDepth 100000 in
set_option maxHeartbeats 4000000 in
theorem many_cut_mid (cur high x : Lab) (sa : Addr) (w : World) (hh : Env sa w) (ls : List Lab) (b off cap : Nat) (hl : LabsAt w.heap.size w (.slice (some ⟨b, off, none⟩) 30 cap) (ls.take 30)) (hm : 30 < ls.length) (hcap : ls.length ≤ cap) (hn63 : ls.length ≤ 9223372036854775807) (k : Nat) (hk0 : 0 < k) (hkl : k < 30) (hp : ∀ v, ∀ W, Env sa W → LabsAt W.heap.size W v (ls.take 30) → Calls Tryd.prog 25 #[.agg #[.int .i64 cur.lv, .int .u64 (u cur.c), .int .i64 cur.ig], v, .agg #[.int .i64 high.lv, .int .u64 (u high.c), .int .i64 high.ig]] W fun e w' => e = .returned (.tuple #[.agg #[.int .i64 x.lv, .int .u64 (u x.c), .int .i64 x.ig], .int .i64 (k : Nat), .int .i64 120]) ∧ Below W.heap.size W w') (hle : LeastIs (cur :: ((ls.take 30).take k)) x 0) (hlk : LabsAt w.heap.size w (.slice (some ⟨b, off, none⟩) k cap) ((ls.take 30).take k)) (hmk : ((ls.take 30).take k).length = k) (hu : UnderIs x high true) :
    Calls Tryd.prog 10 #[.agg #[.int .i64 cur.lv, .int .u64 (u cur.c), .int .i64 cur.ig], .slice (some ⟨b, off, none⟩) ls.length cap, .agg #[.int .i64 high.lv, .int .u64 (u high.c), .int .i64 high.ig]] w (Yes w) := by
  have HH := Lib.hid hh
  have HL := Lib.hid hl
  have HP := Lib.hid (hp (.slice (some ⟨b, off, none⟩) 30 cap))
  have HLE := Lib.hid hle
  have HLK := Lib.hid hlk
  have HMK := Lib.hid hmk
  have HU := Lib.hid hu
  clear hh hl hp hle hlk hmk hu
  go_enter Tryd.func10, Tryd.ntmps10
  go_wp2_with fail
  refine (shown_any sa _ ((HH.out.alloc _).alloc _)).mono ?_
  rintro e w1 ⟨rfl, hB⟩
  have B0 : Hid (Blk w1 w.heap.size 24 #[.int .i64 cur.lv, .int .u64 (u cur.c), .int .i64 cur.ig]) := Lib.hid (((Blk.new' rfl).alloc _).after hB)
  have B1 : Hid (Blk w1 (w.heap.size + 1) 24 #[.int .i64 high.lv, .int .u64 (u high.c), .int .i64 high.ig]) := Lib.hid ((Blk.new' (by simp)).after hB)
  have HB := Lib.hid (below_call (below_alloc (below_alloc (Below.refl w.heap.size w) _) _) hB)
  clear hB
  generalize e1 : w.heap.size + 1 = gh at *
  have pB0_0 := B0.out.at_ (i := 0) (v := .int .i64 cur.lv) rfl
  have pB0_1 := B0.out.at_ (i := 1) (v := .int .u64 (u cur.c)) rfl
  have pB0_2 := B0.out.at_ (i := 2) (v := .int .i64 cur.ig) rfl
  have lB0 := B0.out.lt
  have pB1_0 := B1.out.at_ (i := 0) (v := .int .i64 high.lv) rfl
  have pB1_1 := B1.out.at_ (i := 1) (v := .int .u64 (u high.c)) rfl
  have pB1_2 := B1.out.at_ (i := 2) (v := .int .i64 high.ig) rfl
  have lB1 := B1.out.lt
  go_wp2_with fail
  refine (HP.out _ (HH.out.up HB.out) ((HL.out.below HB.out).mono HB.out.size)).mono ?_
  rintro e w2 ⟨rfl, hB⟩
  clear pB0_0 pB0_1 pB0_2 pB1_0 pB1_1 pB1_2 lB0 lB1
  replace B0 := Lib.hid (B0.out.after hB)
  replace B1 := Lib.hid (B1.out.after hB)
  replace HB := Lib.hid (below_call HB.out hB)
  clear hB
  obtain ⟨i0, hi, hz0, hz1, hz2⟩ := info_parts infoLab
  have hz2w : w.heap.size ≤ w2.heap.size := HB.out.size
  have hkz : (0 : Int) ≤ (k : Int) := by omega
  have hkc : (k : Int) ≤ (cap : Int) := by omega
  have hkm : ¬ (30 : Int) < (k : Int) := by omega
  have hkn : ¬ (k : Int) = 0 := by omega
  have hkM : ¬ (k : Int) = (30 : Int) := by omega
  have hkB : ((k : Int) == (30 : Int)) = false := by simpa using hkM
  go_upto_region 9 with fail
  refine wp_region_gen (S := (fun W' => Blk W' w.heap.size 24 #[.int .i64 cur.lv, .int .u64 (u cur.c), .int .i64 cur.ig] ∧ Blk W' gh 24 #[.int .i64 high.lv, .int .u64 (u high.c), .int .i64 high.ig] ∧ Blk W' w2.heap.size 24 #[.int .i64 x.lv, .int .u64 (u x.c), .int .i64 x.ig] ∧ Below w.heap.size w W')) (by kernel_rfl) ⟨(B0.out.alloc _).drew, (B1.out.alloc _).drew, (Blk.new' rfl).drew, (below_alloc HB.out _).drew⟩ (fun w3 hS => ?_)
  refine wpAnyH_take (i := 0) (v := ?_) (op_at rfl) (by kernel_rfl) (by kernel_rfl) (by kernel_rfl) (fun _ _ _ h => h) (Or.inl ⟨by rfl, ?_⟩) hS ?_; rotate_left; focus ((intro w' hSw; clear hSw; go_simp) <;> with_reducible rfl)
  try simp only [Act.put, List.setIfInBounds_toArray, List.set_cons_zero, List.set_cons_succ]
  refine wpAnyH_take (i := 1) (v := ?_) (op_at rfl) (by kernel_rfl) (by kernel_rfl) (by kernel_rfl) (fun _ _ _ h => h) (Or.inl ⟨by rfl, ?_⟩) hS ?_; rotate_left; focus ((intro w' hSw; obtain ⟨q, -⟩ := hSw; have c0 := q.at_ (i := 0) (v := .int .i64 cur.lv) rfl; have c1 := q.at_ (i := 1) (v := .int .u64 (u cur.c)) rfl; have c2 := q.at_ (i := 2) (v := .int .i64 cur.ig) rfl; clear q; go_simp) <;> with_reducible rfl)
  try simp only [Act.put, List.setIfInBounds_toArray, List.set_cons_zero, List.set_cons_succ]
  refine wpAnyH_take (i := 4) (v := ?_) (op_at rfl) (by kernel_rfl) (by kernel_rfl) (by kernel_rfl) (fun _ _ _ h => h) (Or.inl ⟨by rfl, ?_⟩) hS ?_; rotate_left; focus ((intro w' hSw; clear hSw; go_simp) <;> with_reducible rfl)
  try simp only [Act.put, List.setIfInBounds_toArray, List.set_cons_zero, List.set_cons_succ]
  refine wpAnyH_take (i := 5) (v := ?_) (op_at rfl) (by kernel_rfl) (by kernel_rfl) (by kernel_rfl) (fun _ _ _ h => h) (Or.inl ⟨by rfl, ?_⟩) hS ?_; rotate_left; focus ((intro w' hSw; clear hSw; go_simp) <;> with_reducible rfl)
  try simp only [Act.put, List.setIfInBounds_toArray, List.set_cons_zero, List.set_cons_succ]
  refine wpAnyH_take (i := 6) (v := ?_) (op_at rfl) (by kernel_rfl) (by kernel_rfl) (by kernel_rfl) (fun _ _ _ h => h) (Or.inl ⟨by rfl, ?_⟩) hS ?_; rotate_left; focus ((intro w' hSw; clear hSw; go_simp) <;> with_reducible rfl)
  try simp only [Act.put, List.setIfInBounds_toArray, List.set_cons_zero, List.set_cons_succ]
  refine wpAnyH_ready (rs := [2]) (by kernel_rfl) (by simp) ?_
  refine (AllReadyH.cons (op_at rfl) (fun K hK => ?_) AllReadyH.nil)
  go_simp
  obtain ⟨b0, b1, b2, hb⟩ := hS
  have hz3 : w.heap.size ≤ w3.heap.size := hb.size
  have hb0 := b0.lt
  have hb1 := b1.lt
  have hb2 := b2.lt
  have N0 : Hid (Blk (w3.alloc (.cells #[.int .i64 cur.lv, .int .u64 (u cur.c), .int .i64 cur.ig] 24)) w3.heap.size 24 #[.int .i64 cur.lv, .int .u64 (u cur.c), .int .i64 cur.ig]) := Lib.hid (Blk.new' rfl)
  refine hK.out _ _ ⟨b0.alloc _, b1.alloc _, b2.alloc _, below_alloc hb _⟩ (fun hS => ?_)
  clear hK K b0 b1 b2 hb
  try simp only [Act.put, List.setIfInBounds_toArray, List.set_cons_zero, List.set_cons_succ]
  refine wpAnyH_ready (rs := [3]) (by kernel_rfl) (by simp) ?_
  refine (AllReadyH.cons (op_at rfl) (fun K hK => ?_) AllReadyH.nil)
  rw [if_pos (by rfl)]
  refine wp_append_src _ _ _ 35 rfl w3.heap.size 24 i0 (.agg #[.int .i64 0, .int .u64 0, .int .i64 0]) 3 24 Tryd.underlying35 hi hz0 hz1 hz2 rfl (by decide) _ 0 [] rfl ⟨rfl, .inl ⟨rfl, rfl⟩⟩ (some ⟨w3.heap.size, 0, none⟩) 1 1 [.int .i64 cur.lv, .int .u64 (u cur.c), .int .i64 cur.ig] rfl (Src.of_blk N0.out) (lab_one cur) (by unfold maxLen; omega) (by omega) (by simp) ?_
  intro v1 w4 hown hgrow hblk
  obtain ⟨b0, b1, b2, hb⟩ := hS
  have hsz4 : w3.heap.size < w4.heap.size := by have := hgrow.size; simp at this; omega
  have HOWN := Lib.hid hown
  refine hK.out _ _ ⟨b0.grown hgrow (by intro e; cases e), b1.grown hgrow (by intro e; cases e), b2.grown hgrow (by intro e; cases e), hb.grown hgrow (by simp; omega) (fun k e => by cases e)⟩ (fun hS => ?_)
  clear hK K b0 b1 b2 hb hown hgrow hblk N0
  try simp only [Act.put, List.setIfInBounds_toArray, List.set_cons_zero, List.set_cons_succ]
  refine wpAnyH_ready (rs := [7]) (by kernel_rfl) (by simp) ?_
  refine (AllReadyH.cons (op_at rfl) (fun K hK => ?_) AllReadyH.nil)
  rw [if_pos (by rfl)]
  obtain ⟨b0, b1, b2, hb⟩ := hS
  have hsrc := ((HLK.out.below hb).src).1
  refine wp_append_src _ _ _ 35 rfl w3.heap.size 24 i0 (.agg #[.int .i64 0, .int .u64 0, .int .i64 0]) 3 24 Tryd.underlying35 hi hz0 hz1 hz2 rfl (by decide) _ (0 + 1) _ rfl HOWN.out (some ⟨b, off, none⟩) k cap _ rfl hsrc labs_one (by unfold maxLen; omega) (by omega) (by omega) ?_
  intro v2 w5 hown hgrow hblk
  have hge := fun k e => own_ge HOWN.out (k := k) e
  have hsz5 : w4.heap.size ≤ w5.heap.size := hgrow.size
  have HO2 : Hid (w5.ownsRow w3.heap.size 24 3 v2 (0 + 1 + k) ((cur :: ((ls.take 30).take k)).flatMap fun x => [.int .i64 x.lv, .int .u64 (u x.c), .int .i64 x.ig])) := Lib.hid (by simpa using hown)
  refine hK.out _ _ ⟨b0.grown hgrow (fun e => by have := hge _ e.symm; omega), b1.grown hgrow (fun e => by have := hge _ e.symm; omega), b2.grown hgrow (fun e => by have := hge _ e.symm; omega), hb.grown hgrow (by omega) (fun k e => by have := hge k e; omega)⟩ (fun hS => ?_)
  clear hK K b0 b1 b2 hb hown hgrow hblk HOWN hge hsrc
  try simp only [Act.put, List.setIfInBounds_toArray, List.set_cons_zero, List.set_cons_succ]
  refine wpAnyH_take (i := 8) (v := ?_) (op_at rfl) (by kernel_rfl) (by kernel_rfl) (by kernel_rfl) (fun _ _ _ h => h) (Or.inl ⟨by rfl, ?_⟩) hS ?_; rotate_left; focus ((intro w' hSw; clear hSw; go_simp) <;> with_reducible rfl)
  try simp only [Act.put, List.setIfInBounds_toArray, List.set_cons_zero, List.set_cons_succ]
  refine wpAnyH_done (by kernel_rfl) ?_ _
  obtain ⟨b0, b1, b2, hb⟩ := hS
  replace B0 := Lib.hid b0
  replace B1 := Lib.hid b1
  have B2 := Lib.hid b2
  replace HB := Lib.hid hb
  clear b0 b1 b2 hb
  go_wp2_with fail
  refine (HLE.out _ _ (HH.out.up HB.out).h ((LabsAt.of_own (l := cur :: ((ls.take 30).take k)) HO2.out (by have hq := HMK.out; simp only [List.length_cons]; omega)))).mono ?_
  rintro e w6 ⟨rfl, hB⟩
  replace B0 := Lib.hid (B0.out.after hB)
  replace B1 := Lib.hid (B1.out.after hB)
  replace B2 := Lib.hid (B2.out.after hB)
  replace HB := Lib.hid (below_call HB.out hB)
  clear hB
  clear HO2
  have pB1_0 := B1.out.at_ (i := 0) (v := .int .i64 high.lv) rfl
  have pB1_1 := B1.out.at_ (i := 1) (v := .int .u64 (u high.c)) rfl
  have pB1_2 := B1.out.at_ (i := 2) (v := .int .i64 high.ig) rfl
  have lB1 := B1.out.lt
  have pB2_0 := B2.out.at_ (i := 0) (v := .int .i64 x.lv) rfl
  have pB2_1 := B2.out.at_ (i := 1) (v := .int .u64 (u x.c)) rfl
  have pB2_2 := B2.out.at_ (i := 2) (v := .int .i64 x.ig) rfl
  have lB2 := B2.out.lt
  have hE := eqlIs (eqL_self x)
  go_wp2_with fail
  refine (HU.out _).mono ?_
  rintro e w7 ⟨rfl, hB⟩
  replace HB := Lib.hid (below_call (below_alloc HB.out _) hB)
  clear hB
  go_wp2_with fail
  go_ret
  exact ⟨(by first | rfl | (show Ending.returned (.bool (!(_ == _))) = _; rw [hkB]; rfl)), HB.out⟩
set_option maxRecDepth 100000 in
set_option maxHeartbeats 4000000 in
theorem many_cut_zero (cur high x : Lab) (sa : Addr) (w : World) (hh : Env sa w) (ls : List Lab) (b off cap : Nat) (hl : LabsAt w.heap.size w (.slice (some ⟨b, off, none⟩) 30 cap) (ls.take 30)) (hm : 30 < ls.length) (hcap : ls.length ≤ cap) (hn63 : ls.length ≤ 9223372036854775807) (hp : ∀ v, ∀ W, Env sa W → LabsAt W.heap.size W v (ls.take 30) → Calls Tryd.prog 25 #[.agg #[.int .i64 cur.lv, .int .u64 (u cur.c), .int .i64 cur.ig], v, .agg #[.int .i64 high.lv, .int .u64 (u high.c), .int .i64 high.ig]] W fun e w' => e = .returned (.tuple #[.agg #[.int .i64 x.lv, .int .u64 (u x.c), .int .i64 x.ig], .int .i64 (0 : Nat), .int .i64 120]) ∧ Below W.heap.size W w') (hle : LeastIs (cur :: ((ls.take 30).take 0)) x 0) (hlk : LabsAt w.heap.size w (.slice (some ⟨b, off, none⟩) 0 cap) ((ls.take 30).take 0)) (hmk : ((ls.take 30).take 0).length = 0) :
    Calls Tryd.prog 10 #[.agg #[.int .i64 cur.lv, .int .u64 (u cur.c), .int .i64 cur.ig], .slice (some ⟨b, off, none⟩) ls.length cap, .agg #[.int .i64 high.lv, .int .u64 (u high.c), .int .i64 high.ig]] w (Yes w) := by
  have HH := Lib.hid hh
  have HL := Lib.hid hl
  have HP := Lib.hid (hp (.slice (some ⟨b, off, none⟩) 30 cap))
  have HLE := Lib.hid hle
  have HLK := Lib.hid hlk
  have HMK := Lib.hid hmk
  clear hh hl hp hle hlk hmk
  go_enter Tryd.func10, Tryd.ntmps10
  go_wp2_with fail
  refine (shown_any sa _ ((HH.out.alloc _).alloc _)).mono ?_
  rintro e w1 ⟨rfl, hB⟩
  have B0 : Hid (Blk w1 w.heap.size 24 #[.int .i64 cur.lv, .int .u64 (u cur.c), .int .i64 cur.ig]) := Lib.hid (((Blk.new' rfl).alloc _).after hB)
  have B1 : Hid (Blk w1 (w.heap.size + 1) 24 #[.int .i64 high.lv, .int .u64 (u high.c), .int .i64 high.ig]) := Lib.hid ((Blk.new' (by simp)).after hB)
  have HB := Lib.hid (below_call (below_alloc (below_alloc (Below.refl w.heap.size w) _) _) hB)
  clear hB
  generalize e1 : w.heap.size + 1 = gh at *
  have pB0_0 := B0.out.at_ (i := 0) (v := .int .i64 cur.lv) rfl
  have pB0_1 := B0.out.at_ (i := 1) (v := .int .u64 (u cur.c)) rfl
  have pB0_2 := B0.out.at_ (i := 2) (v := .int .i64 cur.ig) rfl
  have lB0 := B0.out.lt
  have pB1_0 := B1.out.at_ (i := 0) (v := .int .i64 high.lv) rfl
  have pB1_1 := B1.out.at_ (i := 1) (v := .int .u64 (u high.c)) rfl
  have pB1_2 := B1.out.at_ (i := 2) (v := .int .i64 high.ig) rfl
  have lB1 := B1.out.lt
  go_wp2_with fail
  refine (HP.out _ (HH.out.up HB.out) ((HL.out.below HB.out).mono HB.out.size)).mono ?_
  rintro e w2 ⟨rfl, hB⟩
  clear pB0_0 pB0_1 pB0_2 pB1_0 pB1_1 pB1_2 lB0 lB1
  replace B0 := Lib.hid (B0.out.after hB)
  replace B1 := Lib.hid (B1.out.after hB)
  replace HB := Lib.hid (below_call HB.out hB)
  clear hB
  obtain ⟨i0, hi, hz0, hz1, hz2⟩ := info_parts infoLab
  have hz2w : w.heap.size ≤ w2.heap.size := HB.out.size
  have hkM : ¬ (0 : Int) = (30 : Int) := by omega
  have hkB : ((0 : Int) == (30 : Int)) = false := beq_eq_false_iff_ne.2 hkM
  go_upto_region 9 with fail
  refine wp_region_gen (S := (fun W' => Blk W' w.heap.size 24 #[.int .i64 cur.lv, .int .u64 (u cur.c), .int .i64 cur.ig] ∧ Blk W' gh 24 #[.int .i64 high.lv, .int .u64 (u high.c), .int .i64 high.ig] ∧ Blk W' w2.heap.size 24 #[.int .i64 x.lv, .int .u64 (u x.c), .int .i64 x.ig] ∧ Below w.heap.size w W')) (by kernel_rfl) ⟨(B0.out.alloc _).drew, (B1.out.alloc _).drew, (Blk.new' rfl).drew, (below_alloc HB.out _).drew⟩ (fun w3 hS => ?_)
  refine wpAnyH_take (i := 0) (v := ?_) (op_at rfl) (by kernel_rfl) (by kernel_rfl) (by kernel_rfl) (fun _ _ _ h => h) (Or.inl ⟨by rfl, ?_⟩) hS ?_; rotate_left; focus ((intro w' hSw; clear hSw; go_simp) <;> with_reducible rfl)
  try simp only [Act.put, List.setIfInBounds_toArray, List.set_cons_zero, List.set_cons_succ]
  refine wpAnyH_take (i := 1) (v := ?_) (op_at rfl) (by kernel_rfl) (by kernel_rfl) (by kernel_rfl) (fun _ _ _ h => h) (Or.inl ⟨by rfl, ?_⟩) hS ?_; rotate_left; focus ((intro w' hSw; obtain ⟨q, -⟩ := hSw; have c0 := q.at_ (i := 0) (v := .int .i64 cur.lv) rfl; have c1 := q.at_ (i := 1) (v := .int .u64 (u cur.c)) rfl; have c2 := q.at_ (i := 2) (v := .int .i64 cur.ig) rfl; clear q; go_simp) <;> with_reducible rfl)
  try simp only [Act.put, List.setIfInBounds_toArray, List.set_cons_zero, List.set_cons_succ]
  refine wpAnyH_take (i := 4) (v := ?_) (op_at rfl) (by kernel_rfl) (by kernel_rfl) (by kernel_rfl) (fun _ _ _ h => h) (Or.inl ⟨by rfl, ?_⟩) hS ?_; rotate_left; focus ((intro w' hSw; clear hSw; go_simp) <;> with_reducible rfl)
  try simp only [Act.put, List.setIfInBounds_toArray, List.set_cons_zero, List.set_cons_succ]
  refine wpAnyH_take (i := 5) (v := ?_) (op_at rfl) (by kernel_rfl) (by kernel_rfl) (by kernel_rfl) (fun _ _ _ h => h) (Or.inl ⟨by rfl, ?_⟩) hS ?_; rotate_left; focus ((intro w' hSw; clear hSw; go_simp) <;> with_reducible rfl)
  try simp only [Act.put, List.setIfInBounds_toArray, List.set_cons_zero, List.set_cons_succ]
  refine wpAnyH_take (i := 6) (v := ?_) (op_at rfl) (by kernel_rfl) (by kernel_rfl) (by kernel_rfl) (fun _ _ _ h => h) (Or.inl ⟨by rfl, ?_⟩) hS ?_; rotate_left; focus ((intro w' hSw; clear hSw; go_simp) <;> with_reducible rfl)
  try simp only [Act.put, List.setIfInBounds_toArray, List.set_cons_zero, List.set_cons_succ]
  refine wpAnyH_ready (rs := [2]) (by kernel_rfl) (by simp) ?_
  refine (AllReadyH.cons (op_at rfl) (fun K hK => ?_) AllReadyH.nil)
  go_simp
  obtain ⟨b0, b1, b2, hb⟩ := hS
  have hz3 : w.heap.size ≤ w3.heap.size := hb.size
  have hb0 := b0.lt
  have hb1 := b1.lt
  have hb2 := b2.lt
  have N0 : Hid (Blk (w3.alloc (.cells #[.int .i64 cur.lv, .int .u64 (u cur.c), .int .i64 cur.ig] 24)) w3.heap.size 24 #[.int .i64 cur.lv, .int .u64 (u cur.c), .int .i64 cur.ig]) := Lib.hid (Blk.new' rfl)
  refine hK.out _ _ ⟨b0.alloc _, b1.alloc _, b2.alloc _, below_alloc hb _⟩ (fun hS => ?_)
  clear hK K b0 b1 b2 hb
  try simp only [Act.put, List.setIfInBounds_toArray, List.set_cons_zero, List.set_cons_succ]
  refine wpAnyH_ready (rs := [3]) (by kernel_rfl) (by simp) ?_
  refine (AllReadyH.cons (op_at rfl) (fun K hK => ?_) AllReadyH.nil)
  rw [if_pos (by rfl)]
  refine wp_append_src _ _ _ 35 rfl w3.heap.size 24 i0 (.agg #[.int .i64 0, .int .u64 0, .int .i64 0]) 3 24 Tryd.underlying35 hi hz0 hz1 hz2 rfl (by decide) _ 0 [] rfl ⟨rfl, .inl ⟨rfl, rfl⟩⟩ (some ⟨w3.heap.size, 0, none⟩) 1 1 [.int .i64 cur.lv, .int .u64 (u cur.c), .int .i64 cur.ig] rfl (Src.of_blk N0.out) (lab_one cur) (by unfold maxLen; omega) (by omega) (by simp) ?_
  intro v1 w4 hown hgrow hblk
  obtain ⟨b0, b1, b2, hb⟩ := hS
  have hsz4 : w3.heap.size < w4.heap.size := by have := hgrow.size; simp at this; omega
  have HOWN := Lib.hid hown
  refine hK.out _ _ ⟨b0.grown hgrow (by intro e; cases e), b1.grown hgrow (by intro e; cases e), b2.grown hgrow (by intro e; cases e), hb.grown hgrow (by simp; omega) (fun k e => by cases e)⟩ (fun hS => ?_)
  clear hK K b0 b1 b2 hb hown hgrow hblk N0
  try simp only [Act.put, List.setIfInBounds_toArray, List.set_cons_zero, List.set_cons_succ]
  refine wpAnyH_ready (rs := [7]) (by kernel_rfl) (by simp) ?_
  refine (AllReadyH.cons (op_at rfl) (fun K hK => ?_) AllReadyH.nil)
  rw [if_pos (by rfl)]
  obtain ⟨b0, b1, b2, hb⟩ := hS
  have hsrc := ((HLK.out.below hb).src).1
  refine wp_append_src _ _ _ 35 rfl w3.heap.size 24 i0 (.agg #[.int .i64 0, .int .u64 0, .int .i64 0]) 3 24 Tryd.underlying35 hi hz0 hz1 hz2 rfl (by decide) _ (0 + 1) _ rfl HOWN.out (some ⟨b, off, none⟩) 0 cap _ rfl hsrc labs_one (by unfold maxLen; omega) (by omega) (by omega) ?_
  intro v2 w5 hown hgrow hblk
  have hge := fun k e => own_ge HOWN.out (k := k) e
  have hsz5 : w4.heap.size ≤ w5.heap.size := hgrow.size
  have HO2 : Hid (w5.ownsRow w3.heap.size 24 3 v2 (0 + 1 + 0) ((cur :: ((ls.take 30).take 0)).flatMap fun x => [.int .i64 x.lv, .int .u64 (u x.c), .int .i64 x.ig])) := Lib.hid (by simpa using hown)
  refine hK.out _ _ ⟨b0.grown hgrow (fun e => by have := hge _ e.symm; omega), b1.grown hgrow (fun e => by have := hge _ e.symm; omega), b2.grown hgrow (fun e => by have := hge _ e.symm; omega), hb.grown hgrow (by omega) (fun k e => by have := hge k e; omega)⟩ (fun hS => ?_)
  clear hK K b0 b1 b2 hb hown hgrow hblk HOWN hge hsrc
  try simp only [Act.put, List.setIfInBounds_toArray, List.set_cons_zero, List.set_cons_succ]
  refine wpAnyH_take (i := 8) (v := ?_) (op_at rfl) (by kernel_rfl) (by kernel_rfl) (by kernel_rfl) (fun _ _ _ h => h) (Or.inl ⟨by rfl, ?_⟩) hS ?_; rotate_left; focus ((intro w' hSw; clear hSw; go_simp) <;> with_reducible rfl)
  try simp only [Act.put, List.setIfInBounds_toArray, List.set_cons_zero, List.set_cons_succ]
  refine wpAnyH_done (by kernel_rfl) ?_ _
  obtain ⟨b0, b1, b2, hb⟩ := hS
  replace B0 := Lib.hid b0
  replace B1 := Lib.hid b1
  have B2 := Lib.hid b2
  replace HB := Lib.hid hb
  clear b0 b1 b2 hb
  go_wp2_with fail
  refine (HLE.out _ _ (HH.out.up HB.out).h ((LabsAt.of_own (l := cur :: ((ls.take 30).take 0)) HO2.out (by have hq := HMK.out; simp only [List.length_cons]; omega)))).mono ?_
  rintro e w6 ⟨rfl, hB⟩
  replace B0 := Lib.hid (B0.out.after hB)
  replace B1 := Lib.hid (B1.out.after hB)
  replace B2 := Lib.hid (B2.out.after hB)
  replace HB := Lib.hid (below_call HB.out hB)
  clear hB
  clear HO2
  have pB1_0 := B1.out.at_ (i := 0) (v := .int .i64 high.lv) rfl
  have pB1_1 := B1.out.at_ (i := 1) (v := .int .u64 (u high.c)) rfl
  have pB1_2 := B1.out.at_ (i := 2) (v := .int .i64 high.ig) rfl
  have lB1 := B1.out.lt
  have pB2_0 := B2.out.at_ (i := 0) (v := .int .i64 x.lv) rfl
  have pB2_1 := B2.out.at_ (i := 1) (v := .int .u64 (u x.c)) rfl
  have pB2_2 := B2.out.at_ (i := 2) (v := .int .i64 x.ig) rfl
  have lB2 := B2.out.lt
  have hE := eqlIs (eqL_self x)
  go_wp2_with fail
  go_ret
  exact ⟨(by first | rfl | (show Ending.returned (.bool (!(_ == _))) = _; rw [hkB]; rfl)), below_alloc HB.out _⟩
set_option maxRecDepth 100000 in
set_option maxHeartbeats 4000000 in
theorem many_cut_full (cur high x : Lab) (sa : Addr) (w : World) (hh : Env sa w) (ls : List Lab) (b off cap : Nat) (hl : LabsAt w.heap.size w (.slice (some ⟨b, off, none⟩) 30 cap) (ls.take 30)) (hm : 30 < ls.length) (hcap : ls.length ≤ cap) (hn63 : ls.length ≤ 9223372036854775807) (hp : ∀ v, ∀ W, Env sa W → LabsAt W.heap.size W v (ls.take 30) → Calls Tryd.prog 25 #[.agg #[.int .i64 cur.lv, .int .u64 (u cur.c), .int .i64 cur.ig], v, .agg #[.int .i64 high.lv, .int .u64 (u high.c), .int .i64 high.ig]] W fun e w' => e = .returned (.tuple #[.agg #[.int .i64 x.lv, .int .u64 (u x.c), .int .i64 x.ig], .int .i64 (30 : Nat), .int .i64 0]) ∧ Below W.heap.size W w') (hle : LeastIs (cur :: (ls.take 30)) x 0) (hlk : LabsAt w.heap.size w (.slice (some ⟨b, off, none⟩) 30 cap) (ls.take 30)) (hmk : (ls.take 30).length = 30) (hu : UnderIs x high true) :
    Calls Tryd.prog 10 #[.agg #[.int .i64 cur.lv, .int .u64 (u cur.c), .int .i64 cur.ig], .slice (some ⟨b, off, none⟩) ls.length cap, .agg #[.int .i64 high.lv, .int .u64 (u high.c), .int .i64 high.ig]] w (Yes w) := by
  have HH := Lib.hid hh
  have HL := Lib.hid hl
  have HP := Lib.hid (hp (.slice (some ⟨b, off, none⟩) 30 cap))
  have HLE := Lib.hid hle
  have HLK := Lib.hid hlk
  have HMK := Lib.hid hmk
  have HU := Lib.hid hu
  clear hh hl hp hle hlk hmk hu
  go_enter Tryd.func10, Tryd.ntmps10
  go_wp2_with fail
  refine (shown_any sa _ ((HH.out.alloc _).alloc _)).mono ?_
  rintro e w1 ⟨rfl, hB⟩
  have B0 : Hid (Blk w1 w.heap.size 24 #[.int .i64 cur.lv, .int .u64 (u cur.c), .int .i64 cur.ig]) := Lib.hid (((Blk.new' rfl).alloc _).after hB)
  have B1 : Hid (Blk w1 (w.heap.size + 1) 24 #[.int .i64 high.lv, .int .u64 (u high.c), .int .i64 high.ig]) := Lib.hid ((Blk.new' (by simp)).after hB)
  have HB := Lib.hid (below_call (below_alloc (below_alloc (Below.refl w.heap.size w) _) _) hB)
  clear hB
  generalize e1 : w.heap.size + 1 = gh at *
  have pB0_0 := B0.out.at_ (i := 0) (v := .int .i64 cur.lv) rfl
  have pB0_1 := B0.out.at_ (i := 1) (v := .int .u64 (u cur.c)) rfl
  have pB0_2 := B0.out.at_ (i := 2) (v := .int .i64 cur.ig) rfl
  have lB0 := B0.out.lt
  have pB1_0 := B1.out.at_ (i := 0) (v := .int .i64 high.lv) rfl
  have pB1_1 := B1.out.at_ (i := 1) (v := .int .u64 (u high.c)) rfl
  have pB1_2 := B1.out.at_ (i := 2) (v := .int .i64 high.ig) rfl
  have lB1 := B1.out.lt
  go_wp2_with fail
  refine (HP.out _ (HH.out.up HB.out) ((HL.out.below HB.out).mono HB.out.size)).mono ?_
  rintro e w2 ⟨rfl, hB⟩
  clear pB0_0 pB0_1 pB0_2 pB1_0 pB1_1 pB1_2 lB0 lB1
  replace B0 := Lib.hid (B0.out.after hB)
  replace B1 := Lib.hid (B1.out.after hB)
  replace HB := Lib.hid (below_call HB.out hB)
  clear hB
  obtain ⟨i0, hi, hz0, hz1, hz2⟩ := info_parts infoLab
  have hz2w : w.heap.size ≤ w2.heap.size := HB.out.size
  have hkn : ¬ (30 : Int) = 0 := by omega
  have hkc : (30 : Int) ≤ (cap : Int) := by omega
  go_upto_region 9 with fail
  refine wp_region_gen (S := (fun W' => Blk W' w.heap.size 24 #[.int .i64 cur.lv, .int .u64 (u cur.c), .int .i64 cur.ig] ∧ Blk W' gh 24 #[.int .i64 high.lv, .int .u64 (u high.c), .int .i64 high.ig] ∧ Blk W' w2.heap.size 24 #[.int .i64 x.lv, .int .u64 (u x.c), .int .i64 x.ig] ∧ Below w.heap.size w W')) (by kernel_rfl) ⟨(B0.out.alloc _).drew, (B1.out.alloc _).drew, (Blk.new' rfl).drew, (below_alloc HB.out _).drew⟩ (fun w3 hS => ?_)
  refine wpAnyH_take (i := 0) (v := ?_) (op_at rfl) (by kernel_rfl) (by kernel_rfl) (by kernel_rfl) (fun _ _ _ h => h) (Or.inl ⟨by rfl, ?_⟩) hS ?_; rotate_left; focus ((intro w' hSw; clear hSw; go_simp) <;> with_reducible rfl)
  try simp only [Act.put, List.setIfInBounds_toArray, List.set_cons_zero, List.set_cons_succ]
  refine wpAnyH_take (i := 1) (v := ?_) (op_at rfl) (by kernel_rfl) (by kernel_rfl) (by kernel_rfl) (fun _ _ _ h => h) (Or.inl ⟨by rfl, ?_⟩) hS ?_; rotate_left; focus ((intro w' hSw; obtain ⟨q, -⟩ := hSw; have c0 := q.at_ (i := 0) (v := .int .i64 cur.lv) rfl; have c1 := q.at_ (i := 1) (v := .int .u64 (u cur.c)) rfl; have c2 := q.at_ (i := 2) (v := .int .i64 cur.ig) rfl; clear q; go_simp) <;> with_reducible rfl)
  try simp only [Act.put, List.setIfInBounds_toArray, List.set_cons_zero, List.set_cons_succ]
  refine wpAnyH_take (i := 4) (v := ?_) (op_at rfl) (by kernel_rfl) (by kernel_rfl) (by kernel_rfl) (fun _ _ _ h => h) (Or.inl ⟨by rfl, ?_⟩) hS ?_; rotate_left; focus ((intro w' hSw; clear hSw; go_simp) <;> with_reducible rfl)
  try simp only [Act.put, List.setIfInBounds_toArray, List.set_cons_zero, List.set_cons_succ]
  refine wpAnyH_take (i := 5) (v := ?_) (op_at rfl) (by kernel_rfl) (by kernel_rfl) (by kernel_rfl) (fun _ _ _ h => h) (Or.inl ⟨by rfl, ?_⟩) hS ?_; rotate_left; focus ((intro w' hSw; clear hSw; go_simp) <;> with_reducible rfl)
  try simp only [Act.put, List.setIfInBounds_toArray, List.set_cons_zero, List.set_cons_succ]
  refine wpAnyH_take (i := 6) (v := ?_) (op_at rfl) (by kernel_rfl) (by kernel_rfl) (by kernel_rfl) (fun _ _ _ h => h) (Or.inl ⟨by rfl, ?_⟩) hS ?_; rotate_left; focus ((intro w' hSw; clear hSw; go_simp) <;> with_reducible rfl)
  try simp only [Act.put, List.setIfInBounds_toArray, List.set_cons_zero, List.set_cons_succ]
  refine wpAnyH_ready (rs := [2]) (by kernel_rfl) (by simp) ?_
  refine (AllReadyH.cons (op_at rfl) (fun K hK => ?_) AllReadyH.nil)
  go_simp
  obtain ⟨b0, b1, b2, hb⟩ := hS
  have hz3 : w.heap.size ≤ w3.heap.size := hb.size
  have hb0 := b0.lt
  have hb1 := b1.lt
  have hb2 := b2.lt
  have N0 : Hid (Blk (w3.alloc (.cells #[.int .i64 cur.lv, .int .u64 (u cur.c), .int .i64 cur.ig] 24)) w3.heap.size 24 #[.int .i64 cur.lv, .int .u64 (u cur.c), .int .i64 cur.ig]) := Lib.hid (Blk.new' rfl)
  refine hK.out _ _ ⟨b0.alloc _, b1.alloc _, b2.alloc _, below_alloc hb _⟩ (fun hS => ?_)
  clear hK K b0 b1 b2 hb
  try simp only [Act.put, List.setIfInBounds_toArray, List.set_cons_zero, List.set_cons_succ]
  refine wpAnyH_ready (rs := [3]) (by kernel_rfl) (by simp) ?_
  refine (AllReadyH.cons (op_at rfl) (fun K hK => ?_) AllReadyH.nil)
  rw [if_pos (by rfl)]
  refine wp_append_src _ _ _ 35 rfl w3.heap.size 24 i0 (.agg #[.int .i64 0, .int .u64 0, .int .i64 0]) 3 24 Tryd.underlying35 hi hz0 hz1 hz2 rfl (by decide) _ 0 [] rfl ⟨rfl, .inl ⟨rfl, rfl⟩⟩ (some ⟨w3.heap.size, 0, none⟩) 1 1 [.int .i64 cur.lv, .int .u64 (u cur.c), .int .i64 cur.ig] rfl (Src.of_blk N0.out) (lab_one cur) (by unfold maxLen; omega) (by omega) (by simp) ?_
  intro v1 w4 hown hgrow hblk
  obtain ⟨b0, b1, b2, hb⟩ := hS
  have hsz4 : w3.heap.size < w4.heap.size := by have := hgrow.size; simp at this; omega
  have HOWN := Lib.hid hown
  refine hK.out _ _ ⟨b0.grown hgrow (by intro e; cases e), b1.grown hgrow (by intro e; cases e), b2.grown hgrow (by intro e; cases e), hb.grown hgrow (by simp; omega) (fun k e => by cases e)⟩ (fun hS => ?_)
  clear hK K b0 b1 b2 hb hown hgrow hblk N0
  try simp only [Act.put, List.setIfInBounds_toArray, List.set_cons_zero, List.set_cons_succ]
  refine wpAnyH_ready (rs := [7]) (by kernel_rfl) (by simp) ?_
  refine (AllReadyH.cons (op_at rfl) (fun K hK => ?_) AllReadyH.nil)
  rw [if_pos (by rfl)]
  obtain ⟨b0, b1, b2, hb⟩ := hS
  have hsrc := ((HLK.out.below hb).src).1
  refine wp_append_src _ _ _ 35 rfl w3.heap.size 24 i0 (.agg #[.int .i64 0, .int .u64 0, .int .i64 0]) 3 24 Tryd.underlying35 hi hz0 hz1 hz2 rfl (by decide) _ (0 + 1) _ rfl HOWN.out (some ⟨b, off, none⟩) 30 cap _ rfl hsrc labs_one (by unfold maxLen; omega) (by omega) (by omega) ?_
  intro v2 w5 hown hgrow hblk
  have hge := fun k e => own_ge HOWN.out (k := k) e
  have hsz5 : w4.heap.size ≤ w5.heap.size := hgrow.size
  have HO2 : Hid (w5.ownsRow w3.heap.size 24 3 v2 (0 + 1 + 30) ((cur :: (ls.take 30)).flatMap fun x => [.int .i64 x.lv, .int .u64 (u x.c), .int .i64 x.ig])) := Lib.hid (by simpa using hown)
  refine hK.out _ _ ⟨b0.grown hgrow (fun e => by have := hge _ e.symm; omega), b1.grown hgrow (fun e => by have := hge _ e.symm; omega), b2.grown hgrow (fun e => by have := hge _ e.symm; omega), hb.grown hgrow (by omega) (fun k e => by have := hge k e; omega)⟩ (fun hS => ?_)
  clear hK K b0 b1 b2 hb hown hgrow hblk HOWN hge hsrc
  try simp only [Act.put, List.setIfInBounds_toArray, List.set_cons_zero, List.set_cons_succ]
  refine wpAnyH_take (i := 8) (v := ?_) (op_at rfl) (by kernel_rfl) (by kernel_rfl) (by kernel_rfl) (fun _ _ _ h => h) (Or.inl ⟨by rfl, ?_⟩) hS ?_; rotate_left; focus ((intro w' hSw; clear hSw; go_simp) <;> with_reducible rfl)
  try simp only [Act.put, List.setIfInBounds_toArray, List.set_cons_zero, List.set_cons_succ]
  refine wpAnyH_done (by kernel_rfl) ?_ _
  obtain ⟨b0, b1, b2, hb⟩ := hS
  replace B0 := Lib.hid b0
  replace B1 := Lib.hid b1
  have B2 := Lib.hid b2
  replace HB := Lib.hid hb
  clear b0 b1 b2 hb
  go_wp2_with fail
  refine (HLE.out _ _ (HH.out.up HB.out).h ((LabsAt.of_own (l := cur :: (ls.take 30)) HO2.out (by have hq := HMK.out; simp only [List.length_cons]; omega)))).mono ?_
  rintro e w6 ⟨rfl, hB⟩
  replace B0 := Lib.hid (B0.out.after hB)
  replace B1 := Lib.hid (B1.out.after hB)
  replace B2 := Lib.hid (B2.out.after hB)
  replace HB := Lib.hid (below_call HB.out hB)
  clear hB
  clear HO2
  have pB1_0 := B1.out.at_ (i := 0) (v := .int .i64 high.lv) rfl
  have pB1_1 := B1.out.at_ (i := 1) (v := .int .u64 (u high.c)) rfl
  have pB1_2 := B1.out.at_ (i := 2) (v := .int .i64 high.ig) rfl
  have lB1 := B1.out.lt
  have pB2_0 := B2.out.at_ (i := 0) (v := .int .i64 x.lv) rfl
  have pB2_1 := B2.out.at_ (i := 1) (v := .int .u64 (u x.c)) rfl
  have pB2_2 := B2.out.at_ (i := 2) (v := .int .i64 x.ig) rfl
  have lB2 := B2.out.lt
  have hE := eqlIs (eqL_self x)
  go_wp2_with fail
  refine (HU.out _).mono ?_
  rintro e w7 ⟨rfl, hB⟩
  replace HB := Lib.hid (below_call (below_alloc HB.out _) hB)
  clear hB
  go_wp2_with fail
  go_ret
  exact ⟨rfl, HB.out⟩
set_option maxRecDepth 100000 in
set_option maxHeartbeats 4000000 in
theorem many_all_bad (cur high : Lab) (sa : Addr) (w : World) (hh : Env sa w) (ls : List Lab) (b off cap : Nat) (hl : LabsAt w.heap.size w (.slice (some ⟨b, off, none⟩) ls.length cap) ls) (hm : ¬ 30 < ls.length) (hcap : ls.length ≤ cap) (hp : ∀ v, ∀ W, Env sa W → LabsAt W.heap.size W v ls → Calls Tryd.prog 25 #[.agg #[.int .i64 cur.lv, .int .u64 (u cur.c), .int .i64 cur.ig], v, .agg #[.int .i64 high.lv, .int .u64 (u high.c), .int .i64 high.ig]] W fun e w' => e = .returned (.tuple #[.agg #[.int .i64 zeroL.lv, .int .u64 (u zeroL.c), .int .i64 zeroL.ig], .int .i64 0, .int .i64 20]) ∧ Below W.heap.size W w') :
    Calls Tryd.prog 10 #[.agg #[.int .i64 cur.lv, .int .u64 (u cur.c), .int .i64 cur.ig], .slice (some ⟨b, off, none⟩) ls.length cap, .agg #[.int .i64 high.lv, .int .u64 (u high.c), .int .i64 high.ig]] w (Yes w) := by
  have HH := Lib.hid hh
  have HL := Lib.hid hl
  have HP := Lib.hid (hp (.slice (some ⟨b, off, none⟩) ls.length cap))
  clear hh hl hp
  go_enter Tryd.func10, Tryd.ntmps10
  go_wp2_with fail
  refine (shown_any sa _ ((HH.out.alloc _).alloc _)).mono ?_
  rintro e w1 ⟨rfl, hB⟩
  have B0 : Hid (Blk w1 w.heap.size 24 #[.int .i64 cur.lv, .int .u64 (u cur.c), .int .i64 cur.ig]) := Lib.hid (((Blk.new' rfl).alloc _).after hB)
  have B1 : Hid (Blk w1 (w.heap.size + 1) 24 #[.int .i64 high.lv, .int .u64 (u high.c), .int .i64 high.ig]) := Lib.hid ((Blk.new' (by simp)).after hB)
  have HB := Lib.hid (below_call (below_alloc (below_alloc (Below.refl w.heap.size w) _) _) hB)
  clear hB
  generalize e1 : w.heap.size + 1 = gh at *
  have pB0_0 := B0.out.at_ (i := 0) (v := .int .i64 cur.lv) rfl
  have pB0_1 := B0.out.at_ (i := 1) (v := .int .u64 (u cur.c)) rfl
  have pB0_2 := B0.out.at_ (i := 2) (v := .int .i64 cur.ig) rfl
  have lB0 := B0.out.lt
  have pB1_0 := B1.out.at_ (i := 0) (v := .int .i64 high.lv) rfl
  have pB1_1 := B1.out.at_ (i := 1) (v := .int .u64 (u high.c)) rfl
  have pB1_2 := B1.out.at_ (i := 2) (v := .int .i64 high.ig) rfl
  have lB1 := B1.out.lt
  go_wp2_with fail
  refine (HP.out _ (HH.out.up HB.out) ((HL.out.below HB.out).mono HB.out.size)).mono ?_
  rintro e w2 ⟨rfl, hB⟩
  clear pB0_0 pB0_1 pB0_2 pB1_0 pB1_1 pB1_2 lB0 lB1
  replace B0 := Lib.hid (B0.out.after hB)
  replace B1 := Lib.hid (B1.out.after hB)
  replace HB := Lib.hid (below_call HB.out hB)
  clear hB
  go_wp2_with fail
  go_ret
  exact ⟨rfl, below_alloc HB.out _⟩
set_option maxRecDepth 100000 in
set_option maxHeartbeats 4000000 in
theorem many_all_mid (cur high x : Lab) (sa : Addr) (w : World) (hh : Env sa w) (ls : List Lab) (b off cap : Nat) (hl : LabsAt w.heap.size w (.slice (some ⟨b, off, none⟩) ls.length cap) ls) (hm : ¬ 30 < ls.length) (hcap : ls.length ≤ cap) (k : Nat) (hk0 : 0 < k) (hkl : k < ls.length) (hp : ∀ v, ∀ W, Env sa W → LabsAt W.heap.size W v ls → Calls Tryd.prog 25 #[.agg #[.int .i64 cur.lv, .int .u64 (u cur.c), .int .i64 cur.ig], v, .agg #[.int .i64 high.lv, .int .u64 (u high.c), .int .i64 high.ig]] W fun e w' => e = .returned (.tuple #[.agg #[.int .i64 x.lv, .int .u64 (u x.c), .int .i64 x.ig], .int .i64 (k : Nat), .int .i64 120]) ∧ Below W.heap.size W w') (hle : LeastIs (cur :: (ls.take k)) x 0) (hlk : LabsAt w.heap.size w (.slice (some ⟨b, off, none⟩) k cap) (ls.take k)) (hmk : (ls.take k).length = k) (hu : UnderIs x high true) :
    Calls Tryd.prog 10 #[.agg #[.int .i64 cur.lv, .int .u64 (u cur.c), .int .i64 cur.ig], .slice (some ⟨b, off, none⟩) ls.length cap, .agg #[.int .i64 high.lv, .int .u64 (u high.c), .int .i64 high.ig]] w (Yes w) := by
  have HH := Lib.hid hh
  have HL := Lib.hid hl
  have HP := Lib.hid (hp (.slice (some ⟨b, off, none⟩) ls.length cap))
  have HLE := Lib.hid hle
  have HLK := Lib.hid hlk
  have HMK := Lib.hid hmk
  have HU := Lib.hid hu
  clear hh hl hp hle hlk hmk hu
  go_enter Tryd.func10, Tryd.ntmps10
  go_wp2_with fail
  refine (shown_any sa _ ((HH.out.alloc _).alloc _)).mono ?_
  rintro e w1 ⟨rfl, hB⟩
  have B0 : Hid (Blk w1 w.heap.size 24 #[.int .i64 cur.lv, .int .u64 (u cur.c), .int .i64 cur.ig]) := Lib.hid (((Blk.new' rfl).alloc _).after hB)
  have B1 : Hid (Blk w1 (w.heap.size + 1) 24 #[.int .i64 high.lv, .int .u64 (u high.c), .int .i64 high.ig]) := Lib.hid ((Blk.new' (by simp)).after hB)
  have HB := Lib.hid (below_call (below_alloc (below_alloc (Below.refl w.heap.size w) _) _) hB)
  clear hB
  generalize e1 : w.heap.size + 1 = gh at *
  have pB0_0 := B0.out.at_ (i := 0) (v := .int .i64 cur.lv) rfl
  have pB0_1 := B0.out.at_ (i := 1) (v := .int .u64 (u cur.c)) rfl
  have pB0_2 := B0.out.at_ (i := 2) (v := .int .i64 cur.ig) rfl
  have lB0 := B0.out.lt
  have pB1_0 := B1.out.at_ (i := 0) (v := .int .i64 high.lv) rfl
  have pB1_1 := B1.out.at_ (i := 1) (v := .int .u64 (u high.c)) rfl
  have pB1_2 := B1.out.at_ (i := 2) (v := .int .i64 high.ig) rfl
  have lB1 := B1.out.lt
  go_wp2_with fail
  refine (HP.out _ (HH.out.up HB.out) ((HL.out.below HB.out).mono HB.out.size)).mono ?_
  rintro e w2 ⟨rfl, hB⟩
  clear pB0_0 pB0_1 pB0_2 pB1_0 pB1_1 pB1_2 lB0 lB1
  replace B0 := Lib.hid (B0.out.after hB)
  replace B1 := Lib.hid (B1.out.after hB)
  replace HB := Lib.hid (below_call HB.out hB)
  clear hB
  obtain ⟨i0, hi, hz0, hz1, hz2⟩ := info_parts infoLab
  have hz2w : w.heap.size ≤ w2.heap.size := HB.out.size
  have hkz : (0 : Int) ≤ (k : Int) := by omega
  have hkc : (k : Int) ≤ (cap : Int) := by omega
  have hkm : ¬ (ls.length : Int) < (k : Int) := by omega
  have hkn : ¬ (k : Int) = 0 := by omega
  have hkM : ¬ (k : Int) = (ls.length : Int) := by omega
  have hkB : ((k : Int) == (ls.length : Int)) = false := by simpa using hkM
  go_upto_region 9 with fail
  refine wp_region_gen (S := (fun W' => Blk W' w.heap.size 24 #[.int .i64 cur.lv, .int .u64 (u cur.c), .int .i64 cur.ig] ∧ Blk W' gh 24 #[.int .i64 high.lv, .int .u64 (u high.c), .int .i64 high.ig] ∧ Blk W' w2.heap.size 24 #[.int .i64 x.lv, .int .u64 (u x.c), .int .i64 x.ig] ∧ Below w.heap.size w W')) (by kernel_rfl) ⟨(B0.out.alloc _).drew, (B1.out.alloc _).drew, (Blk.new' rfl).drew, (below_alloc HB.out _).drew⟩ (fun w3 hS => ?_)
  refine wpAnyH_take (i := 0) (v := ?_) (op_at rfl) (by kernel_rfl) (by kernel_rfl) (by kernel_rfl) (fun _ _ _ h => h) (Or.inl ⟨by rfl, ?_⟩) hS ?_; rotate_left; focus ((intro w' hSw; clear hSw; go_simp) <;> with_reducible rfl)
  try simp only [Act.put, List.setIfInBounds_toArray, List.set_cons_zero, List.set_cons_succ]
  refine wpAnyH_take (i := 1) (v := ?_) (op_at rfl) (by kernel_rfl) (by kernel_rfl) (by kernel_rfl) (fun _ _ _ h => h) (Or.inl ⟨by rfl, ?_⟩) hS ?_; rotate_left; focus ((intro w' hSw; obtain ⟨q, -⟩ := hSw; have c0 := q.at_ (i := 0) (v := .int .i64 cur.lv) rfl; have c1 := q.at_ (i := 1) (v := .int .u64 (u cur.c)) rfl; have c2 := q.at_ (i := 2) (v := .int .i64 cur.ig) rfl; clear q; go_simp) <;> with_reducible rfl)
  try simp only [Act.put, List.setIfInBounds_toArray, List.set_cons_zero, List.set_cons_succ]
  refine wpAnyH_take (i := 4) (v := ?_) (op_at rfl) (by kernel_rfl) (by kernel_rfl) (by kernel_rfl) (fun _ _ _ h => h) (Or.inl ⟨by rfl, ?_⟩) hS ?_; rotate_left; focus ((intro w' hSw; clear hSw; go_simp) <;> with_reducible rfl)
  try simp only [Act.put, List.setIfInBounds_toArray, List.set_cons_zero, List.set_cons_succ]
  refine wpAnyH_take (i := 5) (v := ?_) (op_at rfl) (by kernel_rfl) (by kernel_rfl) (by kernel_rfl) (fun _ _ _ h => h) (Or.inl ⟨by rfl, ?_⟩) hS ?_; rotate_left; focus ((intro w' hSw; clear hSw; go_simp) <;> with_reducible rfl)
  try simp only [Act.put, List.setIfInBounds_toArray, List.set_cons_zero, List.set_cons_succ]
  refine wpAnyH_take (i := 6) (v := ?_) (op_at rfl) (by kernel_rfl) (by kernel_rfl) (by kernel_rfl) (fun _ _ _ h => h) (Or.inl ⟨by rfl, ?_⟩) hS ?_; rotate_left; focus ((intro w' hSw; clear hSw; go_simp) <;> with_reducible rfl)
  try simp only [Act.put, List.setIfInBounds_toArray, List.set_cons_zero, List.set_cons_succ]
  refine wpAnyH_ready (rs := [2]) (by kernel_rfl) (by simp) ?_
  refine (AllReadyH.cons (op_at rfl) (fun K hK => ?_) AllReadyH.nil)
  go_simp
  obtain ⟨b0, b1, b2, hb⟩ := hS
  have hz3 : w.heap.size ≤ w3.heap.size := hb.size
  have hb0 := b0.lt
  have hb1 := b1.lt
  have hb2 := b2.lt
  have N0 : Hid (Blk (w3.alloc (.cells #[.int .i64 cur.lv, .int .u64 (u cur.c), .int .i64 cur.ig] 24)) w3.heap.size 24 #[.int .i64 cur.lv, .int .u64 (u cur.c), .int .i64 cur.ig]) := Lib.hid (Blk.new' rfl)
  refine hK.out _ _ ⟨b0.alloc _, b1.alloc _, b2.alloc _, below_alloc hb _⟩ (fun hS => ?_)
  clear hK K b0 b1 b2 hb
  try simp only [Act.put, List.setIfInBounds_toArray, List.set_cons_zero, List.set_cons_succ]
  refine wpAnyH_ready (rs := [3]) (by kernel_rfl) (by simp) ?_
  refine (AllReadyH.cons (op_at rfl) (fun K hK => ?_) AllReadyH.nil)
  rw [if_pos (by rfl)]
  refine wp_append_src _ _ _ 35 rfl w3.heap.size 24 i0 (.agg #[.int .i64 0, .int .u64 0, .int .i64 0]) 3 24 Tryd.underlying35 hi hz0 hz1 hz2 rfl (by decide) _ 0 [] rfl ⟨rfl, .inl ⟨rfl, rfl⟩⟩ (some ⟨w3.heap.size, 0, none⟩) 1 1 [.int .i64 cur.lv, .int .u64 (u cur.c), .int .i64 cur.ig] rfl (Src.of_blk N0.out) (lab_one cur) (by unfold maxLen; omega) (by omega) (by simp) ?_
  intro v1 w4 hown hgrow hblk
  obtain ⟨b0, b1, b2, hb⟩ := hS
  have hsz4 : w3.heap.size < w4.heap.size := by have := hgrow.size; simp at this; omega
  have HOWN := Lib.hid hown
  refine hK.out _ _ ⟨b0.grown hgrow (by intro e; cases e), b1.grown hgrow (by intro e; cases e), b2.grown hgrow (by intro e; cases e), hb.grown hgrow (by simp; omega) (fun k e => by cases e)⟩ (fun hS => ?_)
  clear hK K b0 b1 b2 hb hown hgrow hblk N0
  try simp only [Act.put, List.setIfInBounds_toArray, List.set_cons_zero, List.set_cons_succ]
  refine wpAnyH_ready (rs := [7]) (by kernel_rfl) (by simp) ?_
  refine (AllReadyH.cons (op_at rfl) (fun K hK => ?_) AllReadyH.nil)
  rw [if_pos (by rfl)]
  obtain ⟨b0, b1, b2, hb⟩ := hS
  have hsrc := ((HLK.out.below hb).src).1
  refine wp_append_src _ _ _ 35 rfl w3.heap.size 24 i0 (.agg #[.int .i64 0, .int .u64 0, .int .i64 0]) 3 24 Tryd.underlying35 hi hz0 hz1 hz2 rfl (by decide) _ (0 + 1) _ rfl HOWN.out (some ⟨b, off, none⟩) k cap _ rfl hsrc labs_one (by unfold maxLen; omega) (by omega) (by omega) ?_
  intro v2 w5 hown hgrow hblk
  have hge := fun k e => own_ge HOWN.out (k := k) e
  have hsz5 : w4.heap.size ≤ w5.heap.size := hgrow.size
  have HO2 : Hid (w5.ownsRow w3.heap.size 24 3 v2 (0 + 1 + k) ((cur :: (ls.take k)).flatMap fun x => [.int .i64 x.lv, .int .u64 (u x.c), .int .i64 x.ig])) := Lib.hid (by simpa using hown)
  refine hK.out _ _ ⟨b0.grown hgrow (fun e => by have := hge _ e.symm; omega), b1.grown hgrow (fun e => by have := hge _ e.symm; omega), b2.grown hgrow (fun e => by have := hge _ e.symm; omega), hb.grown hgrow (by omega) (fun k e => by have := hge k e; omega)⟩ (fun hS => ?_)
  clear hK K b0 b1 b2 hb hown hgrow hblk HOWN hge hsrc
  try simp only [Act.put, List.setIfInBounds_toArray, List.set_cons_zero, List.set_cons_succ]
  refine wpAnyH_take (i := 8) (v := ?_) (op_at rfl) (by kernel_rfl) (by kernel_rfl) (by kernel_rfl) (fun _ _ _ h => h) (Or.inl ⟨by rfl, ?_⟩) hS ?_; rotate_left; focus ((intro w' hSw; clear hSw; go_simp) <;> with_reducible rfl)
  try simp only [Act.put, List.setIfInBounds_toArray, List.set_cons_zero, List.set_cons_succ]
  refine wpAnyH_done (by kernel_rfl) ?_ _
  obtain ⟨b0, b1, b2, hb⟩ := hS
  replace B0 := Lib.hid b0
  replace B1 := Lib.hid b1
  have B2 := Lib.hid b2
  replace HB := Lib.hid hb
  clear b0 b1 b2 hb
  go_wp2_with fail
  refine (HLE.out _ _ (HH.out.up HB.out).h ((LabsAt.of_own (l := cur :: (ls.take k)) HO2.out (by have hq := HMK.out; simp only [List.length_cons]; omega)))).mono ?_
  rintro e w6 ⟨rfl, hB⟩
  replace B0 := Lib.hid (B0.out.after hB)
  replace B1 := Lib.hid (B1.out.after hB)
  replace B2 := Lib.hid (B2.out.after hB)
  replace HB := Lib.hid (below_call HB.out hB)
  clear hB
  clear HO2
  have pB1_0 := B1.out.at_ (i := 0) (v := .int .i64 high.lv) rfl
  have pB1_1 := B1.out.at_ (i := 1) (v := .int .u64 (u high.c)) rfl
  have pB1_2 := B1.out.at_ (i := 2) (v := .int .i64 high.ig) rfl
  have lB1 := B1.out.lt
  have pB2_0 := B2.out.at_ (i := 0) (v := .int .i64 x.lv) rfl
  have pB2_1 := B2.out.at_ (i := 1) (v := .int .u64 (u x.c)) rfl
  have pB2_2 := B2.out.at_ (i := 2) (v := .int .i64 x.ig) rfl
  have lB2 := B2.out.lt
  have hE := eqlIs (eqL_self x)
  go_wp2_with fail
  refine (HU.out _).mono ?_
  rintro e w7 ⟨rfl, hB⟩
  replace HB := Lib.hid (below_call (below_alloc HB.out _) hB)
  clear hB
  go_wp2_with fail
  go_ret
  exact ⟨(by first | rfl | (show Ending.returned (.bool (!(_ == _))) = _; rw [hkB]; rfl)), HB.out⟩
set_option maxRecDepth 100000 in
set_option maxHeartbeats 4000000 in
theorem many_all_zero (cur high x : Lab) (sa : Addr) (w : World) (hh : Env sa w) (ls : List Lab) (b off cap : Nat) (hl : LabsAt w.heap.size w (.slice (some ⟨b, off, none⟩) ls.length cap) ls) (hm : ¬ 30 < ls.length) (hcap : ls.length ≤ cap) (hz : 0 < ls.length) (hp : ∀ v, ∀ W, Env sa W → LabsAt W.heap.size W v ls → Calls Tryd.prog 25 #[.agg #[.int .i64 cur.lv, .int .u64 (u cur.c), .int .i64 cur.ig], v, .agg #[.int .i64 high.lv, .int .u64 (u high.c), .int .i64 high.ig]] W fun e w' => e = .returned (.tuple #[.agg #[.int .i64 x.lv, .int .u64 (u x.c), .int .i64 x.ig], .int .i64 (0 : Nat), .int .i64 120]) ∧ Below W.heap.size W w') (hle : LeastIs (cur :: (ls.take 0)) x 0) (hlk : LabsAt w.heap.size w (.slice (some ⟨b, off, none⟩) 0 cap) (ls.take 0)) (hmk : (ls.take 0).length = 0) :
    Calls Tryd.prog 10 #[.agg #[.int .i64 cur.lv, .int .u64 (u cur.c), .int .i64 cur.ig], .slice (some ⟨b, off, none⟩) ls.length cap, .agg #[.int .i64 high.lv, .int .u64 (u high.c), .int .i64 high.ig]] w (Yes w) := by
  have HH := Lib.hid hh
  have HL := Lib.hid hl
  have HP := Lib.hid (hp (.slice (some ⟨b, off, none⟩) ls.length cap))
  have HLE := Lib.hid hle
  have HLK := Lib.hid hlk
  have HMK := Lib.hid hmk
  clear hh hl hp hle hlk hmk
  go_enter Tryd.func10, Tryd.ntmps10
  go_wp2_with fail
  refine (shown_any sa _ ((HH.out.alloc _).alloc _)).mono ?_
  rintro e w1 ⟨rfl, hB⟩
  have B0 : Hid (Blk w1 w.heap.size 24 #[.int .i64 cur.lv, .int .u64 (u cur.c), .int .i64 cur.ig]) := Lib.hid (((Blk.new' rfl).alloc _).after hB)
  have B1 : Hid (Blk w1 (w.heap.size + 1) 24 #[.int .i64 high.lv, .int .u64 (u high.c), .int .i64 high.ig]) := Lib.hid ((Blk.new' (by simp)).after hB)
  have HB := Lib.hid (below_call (below_alloc (below_alloc (Below.refl w.heap.size w) _) _) hB)
  clear hB
  generalize e1 : w.heap.size + 1 = gh at *
  have pB0_0 := B0.out.at_ (i := 0) (v := .int .i64 cur.lv) rfl
  have pB0_1 := B0.out.at_ (i := 1) (v := .int .u64 (u cur.c)) rfl
  have pB0_2 := B0.out.at_ (i := 2) (v := .int .i64 cur.ig) rfl
  have lB0 := B0.out.lt
  have pB1_0 := B1.out.at_ (i := 0) (v := .int .i64 high.lv) rfl
  have pB1_1 := B1.out.at_ (i := 1) (v := .int .u64 (u high.c)) rfl
  have pB1_2 := B1.out.at_ (i := 2) (v := .int .i64 high.ig) rfl
  have lB1 := B1.out.lt
  go_wp2_with fail
  refine (HP.out _ (HH.out.up HB.out) ((HL.out.below HB.out).mono HB.out.size)).mono ?_
  rintro e w2 ⟨rfl, hB⟩
  clear pB0_0 pB0_1 pB0_2 pB1_0 pB1_1 pB1_2 lB0 lB1
  replace B0 := Lib.hid (B0.out.after hB)
  replace B1 := Lib.hid (B1.out.after hB)
  replace HB := Lib.hid (below_call HB.out hB)
  clear hB
  obtain ⟨i0, hi, hz0, hz1, hz2⟩ := info_parts infoLab
  have hz2w : w.heap.size ≤ w2.heap.size := HB.out.size
  have hkM : ¬ (0 : Int) = (ls.length : Int) := by omega
  have hkB : ((0 : Int) == (ls.length : Int)) = false := beq_eq_false_iff_ne.2 hkM
  have hkL : ¬ ls = [] := by intro h; subst h; simp at hz
  go_upto_region 9 with fail
  refine wp_region_gen (S := (fun W' => Blk W' w.heap.size 24 #[.int .i64 cur.lv, .int .u64 (u cur.c), .int .i64 cur.ig] ∧ Blk W' gh 24 #[.int .i64 high.lv, .int .u64 (u high.c), .int .i64 high.ig] ∧ Blk W' w2.heap.size 24 #[.int .i64 x.lv, .int .u64 (u x.c), .int .i64 x.ig] ∧ Below w.heap.size w W')) (by kernel_rfl) ⟨(B0.out.alloc _).drew, (B1.out.alloc _).drew, (Blk.new' rfl).drew, (below_alloc HB.out _).drew⟩ (fun w3 hS => ?_)
  refine wpAnyH_take (i := 0) (v := ?_) (op_at rfl) (by kernel_rfl) (by kernel_rfl) (by kernel_rfl) (fun _ _ _ h => h) (Or.inl ⟨by rfl, ?_⟩) hS ?_; rotate_left; focus ((intro w' hSw; clear hSw; go_simp) <;> with_reducible rfl)
  try simp only [Act.put, List.setIfInBounds_toArray, List.set_cons_zero, List.set_cons_succ]
  refine wpAnyH_take (i := 1) (v := ?_) (op_at rfl) (by kernel_rfl) (by kernel_rfl) (by kernel_rfl) (fun _ _ _ h => h) (Or.inl ⟨by rfl, ?_⟩) hS ?_; rotate_left; focus ((intro w' hSw; obtain ⟨q, -⟩ := hSw; have c0 := q.at_ (i := 0) (v := .int .i64 cur.lv) rfl; have c1 := q.at_ (i := 1) (v := .int .u64 (u cur.c)) rfl; have c2 := q.at_ (i := 2) (v := .int .i64 cur.ig) rfl; clear q; go_simp) <;> with_reducible rfl)
  try simp only [Act.put, List.setIfInBounds_toArray, List.set_cons_zero, List.set_cons_succ]
  refine wpAnyH_take (i := 4) (v := ?_) (op_at rfl) (by kernel_rfl) (by kernel_rfl) (by kernel_rfl) (fun _ _ _ h => h) (Or.inl ⟨by rfl, ?_⟩) hS ?_; rotate_left; focus ((intro w' hSw; clear hSw; go_simp) <;> with_reducible rfl)
  try simp only [Act.put, List.setIfInBounds_toArray, List.set_cons_zero, List.set_cons_succ]
  refine wpAnyH_take (i := 5) (v := ?_) (op_at rfl) (by kernel_rfl) (by kernel_rfl) (by kernel_rfl) (fun _ _ _ h => h) (Or.inl ⟨by rfl, ?_⟩) hS ?_; rotate_left; focus ((intro w' hSw; clear hSw; go_simp) <;> with_reducible rfl)
  try simp only [Act.put, List.setIfInBounds_toArray, List.set_cons_zero, List.set_cons_succ]
  refine wpAnyH_take (i := 6) (v := ?_) (op_at rfl) (by kernel_rfl) (by kernel_rfl) (by kernel_rfl) (fun _ _ _ h => h) (Or.inl ⟨by rfl, ?_⟩) hS ?_; rotate_left; focus ((intro w' hSw; clear hSw; go_simp) <;> with_reducible rfl)
  try simp only [Act.put, List.setIfInBounds_toArray, List.set_cons_zero, List.set_cons_succ]
  refine wpAnyH_ready (rs := [2]) (by kernel_rfl) (by simp) ?_
  refine (AllReadyH.cons (op_at rfl) (fun K hK => ?_) AllReadyH.nil)
  go_simp
  obtain ⟨b0, b1, b2, hb⟩ := hS
  have hz3 : w.heap.size ≤ w3.heap.size := hb.size
  have hb0 := b0.lt
  have hb1 := b1.lt
  have hb2 := b2.lt
  have N0 : Hid (Blk (w3.alloc (.cells #[.int .i64 cur.lv, .int .u64 (u cur.c), .int .i64 cur.ig] 24)) w3.heap.size 24 #[.int .i64 cur.lv, .int .u64 (u cur.c), .int .i64 cur.ig]) := Lib.hid (Blk.new' rfl)
  refine hK.out _ _ ⟨b0.alloc _, b1.alloc _, b2.alloc _, below_alloc hb _⟩ (fun hS => ?_)
  clear hK K b0 b1 b2 hb
  try simp only [Act.put, List.setIfInBounds_toArray, List.set_cons_zero, List.set_cons_succ]
  refine wpAnyH_ready (rs := [3]) (by kernel_rfl) (by simp) ?_
  refine (AllReadyH.cons (op_at rfl) (fun K hK => ?_) AllReadyH.nil)
  rw [if_pos (by rfl)]
  refine wp_append_src _ _ _ 35 rfl w3.heap.size 24 i0 (.agg #[.int .i64 0, .int .u64 0, .int .i64 0]) 3 24 Tryd.underlying35 hi hz0 hz1 hz2 rfl (by decide) _ 0 [] rfl ⟨rfl, .inl ⟨rfl, rfl⟩⟩ (some ⟨w3.heap.size, 0, none⟩) 1 1 [.int .i64 cur.lv, .int .u64 (u cur.c), .int .i64 cur.ig] rfl (Src.of_blk N0.out) (lab_one cur) (by unfold maxLen; omega) (by omega) (by simp) ?_
  intro v1 w4 hown hgrow hblk
  obtain ⟨b0, b1, b2, hb⟩ := hS
  have hsz4 : w3.heap.size < w4.heap.size := by have := hgrow.size; simp at this; omega
  have HOWN := Lib.hid hown
  refine hK.out _ _ ⟨b0.grown hgrow (by intro e; cases e), b1.grown hgrow (by intro e; cases e), b2.grown hgrow (by intro e; cases e), hb.grown hgrow (by simp; omega) (fun k e => by cases e)⟩ (fun hS => ?_)
  clear hK K b0 b1 b2 hb hown hgrow hblk N0
  try simp only [Act.put, List.setIfInBounds_toArray, List.set_cons_zero, List.set_cons_succ]
  refine wpAnyH_ready (rs := [7]) (by kernel_rfl) (by simp) ?_
  refine (AllReadyH.cons (op_at rfl) (fun K hK => ?_) AllReadyH.nil)
  rw [if_pos (by rfl)]
  obtain ⟨b0, b1, b2, hb⟩ := hS
  have hsrc := ((HLK.out.below hb).src).1
  refine wp_append_src _ _ _ 35 rfl w3.heap.size 24 i0 (.agg #[.int .i64 0, .int .u64 0, .int .i64 0]) 3 24 Tryd.underlying35 hi hz0 hz1 hz2 rfl (by decide) _ (0 + 1) _ rfl HOWN.out (some ⟨b, off, none⟩) 0 cap _ rfl hsrc labs_one (by unfold maxLen; omega) (by omega) (by omega) ?_
  intro v2 w5 hown hgrow hblk
  have hge := fun k e => own_ge HOWN.out (k := k) e
  have hsz5 : w4.heap.size ≤ w5.heap.size := hgrow.size
  have HO2 : Hid (w5.ownsRow w3.heap.size 24 3 v2 (0 + 1 + 0) ((cur :: (ls.take 0)).flatMap fun x => [.int .i64 x.lv, .int .u64 (u x.c), .int .i64 x.ig])) := Lib.hid (by simpa using hown)
  refine hK.out _ _ ⟨b0.grown hgrow (fun e => by have := hge _ e.symm; omega), b1.grown hgrow (fun e => by have := hge _ e.symm; omega), b2.grown hgrow (fun e => by have := hge _ e.symm; omega), hb.grown hgrow (by omega) (fun k e => by have := hge k e; omega)⟩ (fun hS => ?_)
  clear hK K b0 b1 b2 hb hown hgrow hblk HOWN hge hsrc
  try simp only [Act.put, List.setIfInBounds_toArray, List.set_cons_zero, List.set_cons_succ]
  refine wpAnyH_take (i := 8) (v := ?_) (op_at rfl) (by kernel_rfl) (by kernel_rfl) (by kernel_rfl) (fun _ _ _ h => h) (Or.inl ⟨by rfl, ?_⟩) hS ?_; rotate_left; focus ((intro w' hSw; clear hSw; go_simp) <;> with_reducible rfl)
  try simp only [Act.put, List.setIfInBounds_toArray, List.set_cons_zero, List.set_cons_succ]
  refine wpAnyH_done (by kernel_rfl) ?_ _
  obtain ⟨b0, b1, b2, hb⟩ := hS
  replace B0 := Lib.hid b0
  replace B1 := Lib.hid b1
  have B2 := Lib.hid b2
  replace HB := Lib.hid hb
  clear b0 b1 b2 hb
  go_wp2_with fail
  refine (HLE.out _ _ (HH.out.up HB.out).h ((LabsAt.of_own (l := cur :: (ls.take 0)) HO2.out (by have hq := HMK.out; simp only [List.length_cons]; omega)))).mono ?_
  rintro e w6 ⟨rfl, hB⟩
  replace B0 := Lib.hid (B0.out.after hB)
  replace B1 := Lib.hid (B1.out.after hB)
  replace B2 := Lib.hid (B2.out.after hB)
  replace HB := Lib.hid (below_call HB.out hB)
  clear hB
  clear HO2
  have pB1_0 := B1.out.at_ (i := 0) (v := .int .i64 high.lv) rfl
  have pB1_1 := B1.out.at_ (i := 1) (v := .int .u64 (u high.c)) rfl
  have pB1_2 := B1.out.at_ (i := 2) (v := .int .i64 high.ig) rfl
  have lB1 := B1.out.lt
  have pB2_0 := B2.out.at_ (i := 0) (v := .int .i64 x.lv) rfl
  have pB2_1 := B2.out.at_ (i := 1) (v := .int .u64 (u x.c)) rfl
  have pB2_2 := B2.out.at_ (i := 2) (v := .int .i64 x.ig) rfl
  have lB2 := B2.out.lt
  have hE := eqlIs (eqL_self x)
  go_wp2_with fail
  go_ret
  exact ⟨(by first | rfl | (show Ending.returned (.bool (!(_ == _))) = _; rw [hkB]; rfl)), below_alloc HB.out _⟩
set_option maxRecDepth 100000 in
set_option maxHeartbeats 4000000 in
theorem many_all_full (cur high x : Lab) (sa : Addr) (w : World) (hh : Env sa w) (ls : List Lab) (b off cap : Nat) (hl : LabsAt w.heap.size w (.slice (some ⟨b, off, none⟩) ls.length cap) ls) (hm : ¬ 30 < ls.length) (hcap : ls.length ≤ cap) (hz : 0 < ls.length) (hp : ∀ v, ∀ W, Env sa W → LabsAt W.heap.size W v ls → Calls Tryd.prog 25 #[.agg #[.int .i64 cur.lv, .int .u64 (u cur.c), .int .i64 cur.ig], v, .agg #[.int .i64 high.lv, .int .u64 (u high.c), .int .i64 high.ig]] W fun e w' => e = .returned (.tuple #[.agg #[.int .i64 x.lv, .int .u64 (u x.c), .int .i64 x.ig], .int .i64 (ls.length : Nat), .int .i64 0]) ∧ Below W.heap.size W w') (hle : LeastIs (cur :: ls) x 0) (hlk : LabsAt w.heap.size w (.slice (some ⟨b, off, none⟩) ls.length cap) ls) (hmk : ls.length = ls.length) (hu : UnderIs x high true) :
    Calls Tryd.prog 10 #[.agg #[.int .i64 cur.lv, .int .u64 (u cur.c), .int .i64 cur.ig], .slice (some ⟨b, off, none⟩) ls.length cap, .agg #[.int .i64 high.lv, .int .u64 (u high.c), .int .i64 high.ig]] w (Yes w) := by
  have HH := Lib.hid hh
  have HL := Lib.hid hl
  have HP := Lib.hid (hp (.slice (some ⟨b, off, none⟩) ls.length cap))
  have HLE := Lib.hid hle
  have HLK := Lib.hid hlk
  have HMK := Lib.hid hmk
  have HU := Lib.hid hu
  clear hh hl hp hle hlk hmk hu
  go_enter Tryd.func10, Tryd.ntmps10
  go_wp2_with fail
  refine (shown_any sa _ ((HH.out.alloc _).alloc _)).mono ?_
  rintro e w1 ⟨rfl, hB⟩
  have B0 : Hid (Blk w1 w.heap.size 24 #[.int .i64 cur.lv, .int .u64 (u cur.c), .int .i64 cur.ig]) := Lib.hid (((Blk.new' rfl).alloc _).after hB)
  have B1 : Hid (Blk w1 (w.heap.size + 1) 24 #[.int .i64 high.lv, .int .u64 (u high.c), .int .i64 high.ig]) := Lib.hid ((Blk.new' (by simp)).after hB)
  have HB := Lib.hid (below_call (below_alloc (below_alloc (Below.refl w.heap.size w) _) _) hB)
  clear hB
  generalize e1 : w.heap.size + 1 = gh at *
  have pB0_0 := B0.out.at_ (i := 0) (v := .int .i64 cur.lv) rfl
  have pB0_1 := B0.out.at_ (i := 1) (v := .int .u64 (u cur.c)) rfl
  have pB0_2 := B0.out.at_ (i := 2) (v := .int .i64 cur.ig) rfl
  have lB0 := B0.out.lt
  have pB1_0 := B1.out.at_ (i := 0) (v := .int .i64 high.lv) rfl
  have pB1_1 := B1.out.at_ (i := 1) (v := .int .u64 (u high.c)) rfl
  have pB1_2 := B1.out.at_ (i := 2) (v := .int .i64 high.ig) rfl
  have lB1 := B1.out.lt
  go_wp2_with fail
  refine (HP.out _ (HH.out.up HB.out) ((HL.out.below HB.out).mono HB.out.size)).mono ?_
  rintro e w2 ⟨rfl, hB⟩
  clear pB0_0 pB0_1 pB0_2 pB1_0 pB1_1 pB1_2 lB0 lB1
  replace B0 := Lib.hid (B0.out.after hB)
  replace B1 := Lib.hid (B1.out.after hB)
  replace HB := Lib.hid (below_call HB.out hB)
  clear hB
  obtain ⟨i0, hi, hz0, hz1, hz2⟩ := info_parts infoLab
  have hz2w : w.heap.size ≤ w2.heap.size := HB.out.size
  have hkn : ¬ (ls.length : Int) = 0 := by omega
  have hkc : (ls.length : Int) ≤ (cap : Int) := by omega
  have hkL : ¬ ls = [] := by intro h; subst h; simp at hz
  go_upto_region 9 with fail
  refine wp_region_gen (S := (fun W' => Blk W' w.heap.size 24 #[.int .i64 cur.lv, .int .u64 (u cur.c), .int .i64 cur.ig] ∧ Blk W' gh 24 #[.int .i64 high.lv, .int .u64 (u high.c), .int .i64 high.ig] ∧ Blk W' w2.heap.size 24 #[.int .i64 x.lv, .int .u64 (u x.c), .int .i64 x.ig] ∧ Below w.heap.size w W')) (by kernel_rfl) ⟨(B0.out.alloc _).drew, (B1.out.alloc _).drew, (Blk.new' rfl).drew, (below_alloc HB.out _).drew⟩ (fun w3 hS => ?_)
  refine wpAnyH_take (i := 0) (v := ?_) (op_at rfl) (by kernel_rfl) (by kernel_rfl) (by kernel_rfl) (fun _ _ _ h => h) (Or.inl ⟨by rfl, ?_⟩) hS ?_; rotate_left; focus ((intro w' hSw; clear hSw; go_simp) <;> with_reducible rfl)
  try simp only [Act.put, List.setIfInBounds_toArray, List.set_cons_zero, List.set_cons_succ]
  refine wpAnyH_take (i := 1) (v := ?_) (op_at rfl) (by kernel_rfl) (by kernel_rfl) (by kernel_rfl) (fun _ _ _ h => h) (Or.inl ⟨by rfl, ?_⟩) hS ?_; rotate_left; focus ((intro w' hSw; obtain ⟨q, -⟩ := hSw; have c0 := q.at_ (i := 0) (v := .int .i64 cur.lv) rfl; have c1 := q.at_ (i := 1) (v := .int .u64 (u cur.c)) rfl; have c2 := q.at_ (i := 2) (v := .int .i64 cur.ig) rfl; clear q; go_simp) <;> with_reducible rfl)
  try simp only [Act.put, List.setIfInBounds_toArray, List.set_cons_zero, List.set_cons_succ]
  refine wpAnyH_take (i := 4) (v := ?_) (op_at rfl) (by kernel_rfl) (by kernel_rfl) (by kernel_rfl) (fun _ _ _ h => h) (Or.inl ⟨by rfl, ?_⟩) hS ?_; rotate_left; focus ((intro w' hSw; clear hSw; go_simp) <;> with_reducible rfl)
  try simp only [Act.put, List.setIfInBounds_toArray, List.set_cons_zero, List.set_cons_succ]
  refine wpAnyH_take (i := 5) (v := ?_) (op_at rfl) (by kernel_rfl) (by kernel_rfl) (by kernel_rfl) (fun _ _ _ h => h) (Or.inl ⟨by rfl, ?_⟩) hS ?_; rotate_left; focus ((intro w' hSw; clear hSw; go_simp) <;> with_reducible rfl)
  try simp only [Act.put, List.setIfInBounds_toArray, List.set_cons_zero, List.set_cons_succ]
  refine wpAnyH_take (i := 6) (v := ?_) (op_at rfl) (by kernel_rfl) (by kernel_rfl) (by kernel_rfl) (fun _ _ _ h => h) (Or.inl ⟨by rfl, ?_⟩) hS ?_; rotate_left; focus ((intro w' hSw; clear hSw; go_simp) <;> with_reducible rfl)
  try simp only [Act.put, List.setIfInBounds_toArray, List.set_cons_zero, List.set_cons_succ]
  refine wpAnyH_ready (rs := [2]) (by kernel_rfl) (by simp) ?_
  refine (AllReadyH.cons (op_at rfl) (fun K hK => ?_) AllReadyH.nil)
  go_simp
  obtain ⟨b0, b1, b2, hb⟩ := hS
  have hz3 : w.heap.size ≤ w3.heap.size := hb.size
  have hb0 := b0.lt
  have hb1 := b1.lt
  have hb2 := b2.lt
  have N0 : Hid (Blk (w3.alloc (.cells #[.int .i64 cur.lv, .int .u64 (u cur.c), .int .i64 cur.ig] 24)) w3.heap.size 24 #[.int .i64 cur.lv, .int .u64 (u cur.c), .int .i64 cur.ig]) := Lib.hid (Blk.new' rfl)
  refine hK.out _ _ ⟨b0.alloc _, b1.alloc _, b2.alloc _, below_alloc hb _⟩ (fun hS => ?_)
  clear hK K b0 b1 b2 hb
  try simp only [Act.put, List.setIfInBounds_toArray, List.set_cons_zero, List.set_cons_succ]
  refine wpAnyH_ready (rs := [3]) (by kernel_rfl) (by simp) ?_
  refine (AllReadyH.cons (op_at rfl) (fun K hK => ?_) AllReadyH.nil)
  rw [if_pos (by rfl)]
  refine wp_append_src _ _ _ 35 rfl w3.heap.size 24 i0 (.agg #[.int .i64 0, .int .u64 0, .int .i64 0]) 3 24 Tryd.underlying35 hi hz0 hz1 hz2 rfl (by decide) _ 0 [] rfl ⟨rfl, .inl ⟨rfl, rfl⟩⟩ (some ⟨w3.heap.size, 0, none⟩) 1 1 [.int .i64 cur.lv, .int .u64 (u cur.c), .int .i64 cur.ig] rfl (Src.of_blk N0.out) (lab_one cur) (by unfold maxLen; omega) (by omega) (by simp) ?_
  intro v1 w4 hown hgrow hblk
  obtain ⟨b0, b1, b2, hb⟩ := hS
  have hsz4 : w3.heap.size < w4.heap.size := by have := hgrow.size; simp at this; omega
  have HOWN := Lib.hid hown
  refine hK.out _ _ ⟨b0.grown hgrow (by intro e; cases e), b1.grown hgrow (by intro e; cases e), b2.grown hgrow (by intro e; cases e), hb.grown hgrow (by simp; omega) (fun k e => by cases e)⟩ (fun hS => ?_)
  clear hK K b0 b1 b2 hb hown hgrow hblk N0
  try simp only [Act.put, List.setIfInBounds_toArray, List.set_cons_zero, List.set_cons_succ]
  refine wpAnyH_ready (rs := [7]) (by kernel_rfl) (by simp) ?_
  refine (AllReadyH.cons (op_at rfl) (fun K hK => ?_) AllReadyH.nil)
  rw [if_pos (by rfl)]
  obtain ⟨b0, b1, b2, hb⟩ := hS
  have hsrc := ((HLK.out.below hb).src).1
  refine wp_append_src _ _ _ 35 rfl w3.heap.size 24 i0 (.agg #[.int .i64 0, .int .u64 0, .int .i64 0]) 3 24 Tryd.underlying35 hi hz0 hz1 hz2 rfl (by decide) _ (0 + 1) _ rfl HOWN.out (some ⟨b, off, none⟩) ls.length cap _ rfl hsrc labs_one (by unfold maxLen; omega) (by omega) (by omega) ?_
  intro v2 w5 hown hgrow hblk
  have hge := fun k e => own_ge HOWN.out (k := k) e
  have hsz5 : w4.heap.size ≤ w5.heap.size := hgrow.size
  have HO2 : Hid (w5.ownsRow w3.heap.size 24 3 v2 (0 + 1 + ls.length) ((cur :: ls).flatMap fun x => [.int .i64 x.lv, .int .u64 (u x.c), .int .i64 x.ig])) := Lib.hid (by simpa using hown)
  refine hK.out _ _ ⟨b0.grown hgrow (fun e => by have := hge _ e.symm; omega), b1.grown hgrow (fun e => by have := hge _ e.symm; omega), b2.grown hgrow (fun e => by have := hge _ e.symm; omega), hb.grown hgrow (by omega) (fun k e => by have := hge k e; omega)⟩ (fun hS => ?_)
  clear hK K b0 b1 b2 hb hown hgrow hblk HOWN hge hsrc
  try simp only [Act.put, List.setIfInBounds_toArray, List.set_cons_zero, List.set_cons_succ]
  refine wpAnyH_take (i := 8) (v := ?_) (op_at rfl) (by kernel_rfl) (by kernel_rfl) (by kernel_rfl) (fun _ _ _ h => h) (Or.inl ⟨by rfl, ?_⟩) hS ?_; rotate_left; focus ((intro w' hSw; clear hSw; go_simp) <;> with_reducible rfl)
  try simp only [Act.put, List.setIfInBounds_toArray, List.set_cons_zero, List.set_cons_succ]
  refine wpAnyH_done (by kernel_rfl) ?_ _
  obtain ⟨b0, b1, b2, hb⟩ := hS
  replace B0 := Lib.hid b0
  replace B1 := Lib.hid b1
  have B2 := Lib.hid b2
  replace HB := Lib.hid hb
  clear b0 b1 b2 hb
  go_wp2_with fail
  refine (HLE.out _ _ (HH.out.up HB.out).h ((LabsAt.of_own (l := cur :: ls) HO2.out (by have hq := HMK.out; simp only [List.length_cons]; omega)))).mono ?_
  rintro e w6 ⟨rfl, hB⟩
  replace B0 := Lib.hid (B0.out.after hB)
  replace B1 := Lib.hid (B1.out.after hB)
  replace B2 := Lib.hid (B2.out.after hB)
  replace HB := Lib.hid (below_call HB.out hB)
  clear hB
  clear HO2
  have pB1_0 := B1.out.at_ (i := 0) (v := .int .i64 high.lv) rfl
  have pB1_1 := B1.out.at_ (i := 1) (v := .int .u64 (u high.c)) rfl
  have pB1_2 := B1.out.at_ (i := 2) (v := .int .i64 high.ig) rfl
  have lB1 := B1.out.lt
  have pB2_0 := B2.out.at_ (i := 0) (v := .int .i64 x.lv) rfl
  have pB2_1 := B2.out.at_ (i := 1) (v := .int .u64 (u x.c)) rfl
  have pB2_2 := B2.out.at_ (i := 2) (v := .int .i64 x.ig) rfl
  have lB2 := B2.out.lt
  have hE := eqlIs (eqL_self x)
  go_wp2_with fail
  refine (HU.out _).mono ?_
  rintro e w7 ⟨rfl, hB⟩
  replace HB := Lib.hid (below_call (below_alloc HB.out _) hB)
  clear hB
  go_wp2_with fail
  go_ret
  exact ⟨rfl, HB.out⟩
set_option maxRecDepth 100000 in
set_option maxHeartbeats 4000000 in
theorem many_all_none (cur high x : Lab) (sa : Addr) (w : World) (hh : Env sa w) (b off cap : Nat) (hl : LabsAt w.heap.size w (.slice (some ⟨b, off, none⟩) 0 cap) ([] : List Lab)) (hp : ∀ v, ∀ W, Env sa W → LabsAt W.heap.size W v ([] : List Lab) → Calls Tryd.prog 25 #[.agg #[.int .i64 cur.lv, .int .u64 (u cur.c), .int .i64 cur.ig], v, .agg #[.int .i64 high.lv, .int .u64 (u high.c), .int .i64 high.ig]] W fun e w' => e = .returned (.tuple #[.agg #[.int .i64 x.lv, .int .u64 (u x.c), .int .i64 x.ig], .int .i64 (0 : Nat), .int .i64 0]) ∧ Below W.heap.size W w') (hle : LeastIs (cur :: ([] : List Lab)) x 0) (hlk : LabsAt w.heap.size w (.slice (some ⟨b, off, none⟩) 0 cap) ([] : List Lab)) (hmk : ([] : List Lab).length = 0) :
    Calls Tryd.prog 10 #[.agg #[.int .i64 cur.lv, .int .u64 (u cur.c), .int .i64 cur.ig], .slice (some ⟨b, off, none⟩) 0 cap, .agg #[.int .i64 high.lv, .int .u64 (u high.c), .int .i64 high.ig]] w (Yes w) := by
  have HH := Lib.hid hh
  have HL := Lib.hid hl
  have HP := Lib.hid (hp (.slice (some ⟨b, off, none⟩) 0 cap))
  have HLE := Lib.hid hle
  have HLK := Lib.hid hlk
  have HMK := Lib.hid hmk
  clear hh hl hp hle hlk hmk
  go_enter Tryd.func10, Tryd.ntmps10
  go_wp2_with fail
  refine (shown_any sa _ ((HH.out.alloc _).alloc _)).mono ?_
  rintro e w1 ⟨rfl, hB⟩
  have B0 : Hid (Blk w1 w.heap.size 24 #[.int .i64 cur.lv, .int .u64 (u cur.c), .int .i64 cur.ig]) := Lib.hid (((Blk.new' rfl).alloc _).after hB)
  have B1 : Hid (Blk w1 (w.heap.size + 1) 24 #[.int .i64 high.lv, .int .u64 (u high.c), .int .i64 high.ig]) := Lib.hid ((Blk.new' (by simp)).after hB)
  have HB := Lib.hid (below_call (below_alloc (below_alloc (Below.refl w.heap.size w) _) _) hB)
  clear hB
  generalize e1 : w.heap.size + 1 = gh at *
  have pB0_0 := B0.out.at_ (i := 0) (v := .int .i64 cur.lv) rfl
  have pB0_1 := B0.out.at_ (i := 1) (v := .int .u64 (u cur.c)) rfl
  have pB0_2 := B0.out.at_ (i := 2) (v := .int .i64 cur.ig) rfl
  have lB0 := B0.out.lt
  have pB1_0 := B1.out.at_ (i := 0) (v := .int .i64 high.lv) rfl
  have pB1_1 := B1.out.at_ (i := 1) (v := .int .u64 (u high.c)) rfl
  have pB1_2 := B1.out.at_ (i := 2) (v := .int .i64 high.ig) rfl
  have lB1 := B1.out.lt
  go_wp2_with fail
  refine (HP.out _ (HH.out.up HB.out) ((HL.out.below HB.out).mono HB.out.size)).mono ?_
  rintro e w2 ⟨rfl, hB⟩
  clear pB0_0 pB0_1 pB0_2 pB1_0 pB1_1 pB1_2 lB0 lB1
  replace B0 := Lib.hid (B0.out.after hB)
  replace B1 := Lib.hid (B1.out.after hB)
  replace HB := Lib.hid (below_call HB.out hB)
  clear hB
  obtain ⟨i0, hi, hz0, hz1, hz2⟩ := info_parts infoLab
  have hz2w : w.heap.size ≤ w2.heap.size := HB.out.size
  go_upto_region 9 with fail
  refine wp_region_gen (S := (fun W' => Blk W' w.heap.size 24 #[.int .i64 cur.lv, .int .u64 (u cur.c), .int .i64 cur.ig] ∧ Blk W' gh 24 #[.int .i64 high.lv, .int .u64 (u high.c), .int .i64 high.ig] ∧ Blk W' w2.heap.size 24 #[.int .i64 x.lv, .int .u64 (u x.c), .int .i64 x.ig] ∧ Below w.heap.size w W')) (by kernel_rfl) ⟨(B0.out.alloc _).drew, (B1.out.alloc _).drew, (Blk.new' rfl).drew, (below_alloc HB.out _).drew⟩ (fun w3 hS => ?_)
  refine wpAnyH_take (i := 0) (v := ?_) (op_at rfl) (by kernel_rfl) (by kernel_rfl) (by kernel_rfl) (fun _ _ _ h => h) (Or.inl ⟨by rfl, ?_⟩) hS ?_; rotate_left; focus ((intro w' hSw; clear hSw; go_simp) <;> with_reducible rfl)
  try simp only [Act.put, List.setIfInBounds_toArray, List.set_cons_zero, List.set_cons_succ]
  refine wpAnyH_take (i := 1) (v := ?_) (op_at rfl) (by kernel_rfl) (by kernel_rfl) (by kernel_rfl) (fun _ _ _ h => h) (Or.inl ⟨by rfl, ?_⟩) hS ?_; rotate_left; focus ((intro w' hSw; obtain ⟨q, -⟩ := hSw; have c0 := q.at_ (i := 0) (v := .int .i64 cur.lv) rfl; have c1 := q.at_ (i := 1) (v := .int .u64 (u cur.c)) rfl; have c2 := q.at_ (i := 2) (v := .int .i64 cur.ig) rfl; clear q; go_simp) <;> with_reducible rfl)
  try simp only [Act.put, List.setIfInBounds_toArray, List.set_cons_zero, List.set_cons_succ]
  refine wpAnyH_take (i := 4) (v := ?_) (op_at rfl) (by kernel_rfl) (by kernel_rfl) (by kernel_rfl) (fun _ _ _ h => h) (Or.inl ⟨by rfl, ?_⟩) hS ?_; rotate_left; focus ((intro w' hSw; clear hSw; go_simp) <;> with_reducible rfl)
  try simp only [Act.put, List.setIfInBounds_toArray, List.set_cons_zero, List.set_cons_succ]
  refine wpAnyH_take (i := 5) (v := ?_) (op_at rfl) (by kernel_rfl) (by kernel_rfl) (by kernel_rfl) (fun _ _ _ h => h) (Or.inl ⟨by rfl, ?_⟩) hS ?_; rotate_left; focus ((intro w' hSw; clear hSw; go_simp) <;> with_reducible rfl)
  try simp only [Act.put, List.setIfInBounds_toArray, List.set_cons_zero, List.set_cons_succ]
  refine wpAnyH_take (i := 6) (v := ?_) (op_at rfl) (by kernel_rfl) (by kernel_rfl) (by kernel_rfl) (fun _ _ _ h => h) (Or.inl ⟨by rfl, ?_⟩) hS ?_; rotate_left; focus ((intro w' hSw; clear hSw; go_simp) <;> with_reducible rfl)
  try simp only [Act.put, List.setIfInBounds_toArray, List.set_cons_zero, List.set_cons_succ]
  refine wpAnyH_ready (rs := [2]) (by kernel_rfl) (by simp) ?_
  refine (AllReadyH.cons (op_at rfl) (fun K hK => ?_) AllReadyH.nil)
  go_simp
  obtain ⟨b0, b1, b2, hb⟩ := hS
  have hz3 : w.heap.size ≤ w3.heap.size := hb.size
  have hb0 := b0.lt
  have hb1 := b1.lt
  have hb2 := b2.lt
  have N0 : Hid (Blk (w3.alloc (.cells #[.int .i64 cur.lv, .int .u64 (u cur.c), .int .i64 cur.ig] 24)) w3.heap.size 24 #[.int .i64 cur.lv, .int .u64 (u cur.c), .int .i64 cur.ig]) := Lib.hid (Blk.new' rfl)
  refine hK.out _ _ ⟨b0.alloc _, b1.alloc _, b2.alloc _, below_alloc hb _⟩ (fun hS => ?_)
  clear hK K b0 b1 b2 hb
  try simp only [Act.put, List.setIfInBounds_toArray, List.set_cons_zero, List.set_cons_succ]
  refine wpAnyH_ready (rs := [3]) (by kernel_rfl) (by simp) ?_
  refine (AllReadyH.cons (op_at rfl) (fun K hK => ?_) AllReadyH.nil)
  rw [if_pos (by rfl)]
  refine wp_append_src _ _ _ 35 rfl w3.heap.size 24 i0 (.agg #[.int .i64 0, .int .u64 0, .int .i64 0]) 3 24 Tryd.underlying35 hi hz0 hz1 hz2 rfl (by decide) _ 0 [] rfl ⟨rfl, .inl ⟨rfl, rfl⟩⟩ (some ⟨w3.heap.size, 0, none⟩) 1 1 [.int .i64 cur.lv, .int .u64 (u cur.c), .int .i64 cur.ig] rfl (Src.of_blk N0.out) (lab_one cur) (by unfold maxLen; omega) (by omega) (by simp) ?_
  intro v1 w4 hown hgrow hblk
  obtain ⟨b0, b1, b2, hb⟩ := hS
  have hsz4 : w3.heap.size < w4.heap.size := by have := hgrow.size; simp at this; omega
  have HOWN := Lib.hid hown
  refine hK.out _ _ ⟨b0.grown hgrow (by intro e; cases e), b1.grown hgrow (by intro e; cases e), b2.grown hgrow (by intro e; cases e), hb.grown hgrow (by simp; omega) (fun k e => by cases e)⟩ (fun hS => ?_)
  clear hK K b0 b1 b2 hb hown hgrow hblk N0
  try simp only [Act.put, List.setIfInBounds_toArray, List.set_cons_zero, List.set_cons_succ]
  refine wpAnyH_ready (rs := [7]) (by kernel_rfl) (by simp) ?_
  refine (AllReadyH.cons (op_at rfl) (fun K hK => ?_) AllReadyH.nil)
  rw [if_pos (by rfl)]
  obtain ⟨b0, b1, b2, hb⟩ := hS
  have hsrc := ((HLK.out.below hb).src).1
  refine wp_append_src _ _ _ 35 rfl w3.heap.size 24 i0 (.agg #[.int .i64 0, .int .u64 0, .int .i64 0]) 3 24 Tryd.underlying35 hi hz0 hz1 hz2 rfl (by decide) _ (0 + 1) _ rfl HOWN.out (some ⟨b, off, none⟩) 0 cap _ rfl hsrc labs_one (by unfold maxLen; omega) (by omega) (by omega) ?_
  intro v2 w5 hown hgrow hblk
  have hge := fun k e => own_ge HOWN.out (k := k) e
  have hsz5 : w4.heap.size ≤ w5.heap.size := hgrow.size
  have HO2 : Hid (w5.ownsRow w3.heap.size 24 3 v2 (0 + 1 + 0) ((cur :: ([] : List Lab)).flatMap fun x => [.int .i64 x.lv, .int .u64 (u x.c), .int .i64 x.ig])) := Lib.hid (by simpa using hown)
  refine hK.out _ _ ⟨b0.grown hgrow (fun e => by have := hge _ e.symm; omega), b1.grown hgrow (fun e => by have := hge _ e.symm; omega), b2.grown hgrow (fun e => by have := hge _ e.symm; omega), hb.grown hgrow (by omega) (fun k e => by have := hge k e; omega)⟩ (fun hS => ?_)
  clear hK K b0 b1 b2 hb hown hgrow hblk HOWN hge hsrc
  try simp only [Act.put, List.setIfInBounds_toArray, List.set_cons_zero, List.set_cons_succ]
  refine wpAnyH_take (i := 8) (v := ?_) (op_at rfl) (by kernel_rfl) (by kernel_rfl) (by kernel_rfl) (fun _ _ _ h => h) (Or.inl ⟨by rfl, ?_⟩) hS ?_; rotate_left; focus ((intro w' hSw; clear hSw; go_simp) <;> with_reducible rfl)
  try simp only [Act.put, List.setIfInBounds_toArray, List.set_cons_zero, List.set_cons_succ]
  refine wpAnyH_done (by kernel_rfl) ?_ _
  obtain ⟨b0, b1, b2, hb⟩ := hS
  replace B0 := Lib.hid b0
  replace B1 := Lib.hid b1
  have B2 := Lib.hid b2
  replace HB := Lib.hid hb
  clear b0 b1 b2 hb
  go_wp2_with fail
  refine (HLE.out _ _ (HH.out.up HB.out).h ((LabsAt.of_own (l := cur :: ([] : List Lab)) HO2.out (by have hq := HMK.out; simp only [List.length_cons]; omega)))).mono ?_
  rintro e w6 ⟨rfl, hB⟩
  replace B0 := Lib.hid (B0.out.after hB)
  replace B1 := Lib.hid (B1.out.after hB)
  replace B2 := Lib.hid (B2.out.after hB)
  replace HB := Lib.hid (below_call HB.out hB)
  clear hB
  clear HO2
  have pB1_0 := B1.out.at_ (i := 0) (v := .int .i64 high.lv) rfl
  have pB1_1 := B1.out.at_ (i := 1) (v := .int .u64 (u high.c)) rfl
  have pB1_2 := B1.out.at_ (i := 2) (v := .int .i64 high.ig) rfl
  have lB1 := B1.out.lt
  have pB2_0 := B2.out.at_ (i := 0) (v := .int .i64 x.lv) rfl
  have pB2_1 := B2.out.at_ (i := 1) (v := .int .u64 (u x.c)) rfl
  have pB2_2 := B2.out.at_ (i := 2) (v := .int .i64 x.ig) rfl
  have lB2 := B2.out.lt
  have hE := eqlIs (eqL_self x)
  go_wp2_with fail
  go_ret
  exact ⟨rfl, below_alloc HB.out _⟩
set_option maxRecDepth 100000 in
set_option maxHeartbeats 4000000 in
theorem many_all_none_bad (cur high : Lab) (sa : Addr) (w : World) (hh : Env sa w) (b off cap : Nat) (hl : LabsAt w.heap.size w (.slice (some ⟨b, off, none⟩) 0 cap) ([] : List Lab)) (hp : ∀ v, ∀ W, Env sa W → LabsAt W.heap.size W v ([] : List Lab) → Calls Tryd.prog 25 #[.agg #[.int .i64 cur.lv, .int .u64 (u cur.c), .int .i64 cur.ig], v, .agg #[.int .i64 high.lv, .int .u64 (u high.c), .int .i64 high.ig]] W fun e w' => e = .returned (.tuple #[.agg #[.int .i64 zeroL.lv, .int .u64 (u zeroL.c), .int .i64 zeroL.ig], .int .i64 0, .int .i64 20]) ∧ Below W.heap.size W w') :
    Calls Tryd.prog 10 #[.agg #[.int .i64 cur.lv, .int .u64 (u cur.c), .int .i64 cur.ig], .slice (some ⟨b, off, none⟩) 0 cap, .agg #[.int .i64 high.lv, .int .u64 (u high.c), .int .i64 high.ig]] w (Yes w) := by
  have HH := Lib.hid hh
  have HL := Lib.hid hl
  have HP := Lib.hid (hp (.slice (some ⟨b, off, none⟩) 0 cap))
  clear hh hl hp
  go_enter Tryd.func10, Tryd.ntmps10
  go_wp2_with fail
  refine (shown_any sa _ ((HH.out.alloc _).alloc _)).mono ?_
  rintro e w1 ⟨rfl, hB⟩
  have B0 : Hid (Blk w1 w.heap.size 24 #[.int .i64 cur.lv, .int .u64 (u cur.c), .int .i64 cur.ig]) := Lib.hid (((Blk.new' rfl).alloc _).after hB)
  have B1 : Hid (Blk w1 (w.heap.size + 1) 24 #[.int .i64 high.lv, .int .u64 (u high.c), .int .i64 high.ig]) := Lib.hid ((Blk.new' (by simp)).after hB)
  have HB := Lib.hid (below_call (below_alloc (below_alloc (Below.refl w.heap.size w) _) _) hB)
  clear hB
  generalize e1 : w.heap.size + 1 = gh at *
  have pB0_0 := B0.out.at_ (i := 0) (v := .int .i64 cur.lv) rfl
  have pB0_1 := B0.out.at_ (i := 1) (v := .int .u64 (u cur.c)) rfl
  have pB0_2 := B0.out.at_ (i := 2) (v := .int .i64 cur.ig) rfl
  have lB0 := B0.out.lt
  have pB1_0 := B1.out.at_ (i := 0) (v := .int .i64 high.lv) rfl
  have pB1_1 := B1.out.at_ (i := 1) (v := .int .u64 (u high.c)) rfl
  have pB1_2 := B1.out.at_ (i := 2) (v := .int .i64 high.ig) rfl
  have lB1 := B1.out.lt
  go_wp2_with fail
  refine (HP.out _ (HH.out.up HB.out) ((HL.out.below HB.out).mono HB.out.size)).mono ?_
  rintro e w2 ⟨rfl, hB⟩
  clear pB0_0 pB0_1 pB0_2 pB1_0 pB1_1 pB1_2 lB0 lB1
  replace B0 := Lib.hid (B0.out.after hB)
  replace B1 := Lib.hid (B1.out.after hB)
  replace HB := Lib.hid (below_call HB.out hB)
  clear hB
  go_wp2_with fail
  go_ret
  exact ⟨rfl, below_alloc HB.out _⟩
theorem many_walk (cur high : Lab) (ls : List Lab) (v : Value) (sa : Addr) (w : World) (hh : Env sa w) (hl : LabsAt w.heap.size w v ls) : Calls Tryd.prog 10 #[.agg #[.int .i64 cur.lv, .int .u64 (u cur.c), .int .i64 cur.ig], v, .agg #[.int .i64 high.lv, .int .u64 (u high.c), .int .i64 high.ig]] w (Yes w) := by
  have hl' := hl
  rcases hl with ⟨rfl, rfl⟩ | ⟨b, off, cap, rfl, hlt, hcap, hn63, hc⟩
  · cases h : allR cur high []
    · exact many_nil_bad cur high sa w hh hl' (near h (by simp))
    · obtain ⟨k, x, hk, hp, hle, _⟩ := far (sa := sa) h (by simp)
      obtain rfl : k = 0 := by simpa using hk
      exact many_nil cur high x sa w hh hl' hp hle hl' rfl
  · by_cases hm : 30 < ls.length
    · have hmm : (ls.take 30).length = 30 := by rw [List.length_take]; omega
      have ht := hl'.take 30 hmm
      cases h : allR cur high (ls.take 30)
      · exact many_cut_bad cur high sa w hh ls b off cap ht hm hcap hn63 (near h (by omega))
      · obtain ⟨k, x, hk, hp, hle, hu⟩ := far (sa := sa) h (by omega)
        have hmk : ((ls.take 30).take k).length = k := by rw [List.length_take]; omega
        have hlk : LabsAt w.heap.size w (.slice (some ⟨b, off, none⟩) k cap) ((ls.take 30).take k) := LabsAt.take (l := ls.take 30) (by rw [hmm]; exact ht) k hmk
        rw [hmm] at hp
        by_cases h0 : k = 0
        · subst h0
          exact many_cut_zero cur high x sa w hh ls b off cap ht hm hcap hn63 hp hle hlk hmk
        · by_cases h1 : k = 30
          · subst h1
            rw [List.take_of_length_le (by omega)] at hle hlk hmk
            exact many_cut_full cur high x sa w hh ls b off cap ht hm hcap hn63 hp hle hlk hmk (hu (by omega))
          · rw [if_neg h1] at hp
            exact many_cut_mid cur high x sa w hh ls b off cap ht hm hcap hn63 k (by omega) (by omega) hp hle hlk hmk (hu (by omega))
    · by_cases hz : ls = []
      · subst hz
        cases h : allR cur high []
        · exact many_all_none_bad cur high sa w hh b off cap hl' (near h (by simp))
        · obtain ⟨k, x, hk, hp, hle, _⟩ := far (sa := sa) h (by simp)
          obtain rfl : k = 0 := by simpa using hk
          exact many_all_none cur high x sa w hh b off cap hl' hp hle hl' rfl
      · have hz' : 0 < ls.length := List.length_pos_iff.2 hz
        cases h : allR cur high ls
        · exact many_all_bad cur high sa w hh ls b off cap hl' hm hcap (near h (by omega))
        · obtain ⟨k, x, hk, hp, hle, hu⟩ := far (sa := sa) h (by omega)
          have hmk : (ls.take k).length = k := by rw [List.length_take]; omega
          have hlk := hl'.take k hmk
          by_cases h1 : k = ls.length
          · subst h1
            rw [if_pos rfl] at hp
            rw [List.take_of_length_le (Nat.le_refl _)] at hle hlk hmk
            exact many_all_full cur high x sa w hh ls b off cap hl' hm hcap hz' hp hle hlk hmk (hu hz')
          · rw [if_neg h1] at hp
            by_cases h0 : k = 0
            · subst h0
              exact many_all_zero cur high x sa w hh ls b off cap hl' hm hcap hz' hp hle hlk hmk
            · exact many_all_mid cur high x sa w hh ls b off cap hl' hm hcap k (by omega) (by omega) hp hle hlk hmk (hu (by omega))
end Go.Proofs.YtmbafllkiofhnaaDoor
