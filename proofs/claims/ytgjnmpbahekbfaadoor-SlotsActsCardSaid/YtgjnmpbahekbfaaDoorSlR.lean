/-
  PACKAGE slots: New (printed by wip/gensl5.py).
-/
import Derived.Test.YtgjnmpbahekbfaaDoorSlQ
namespace Go.Proofs.YtgjnmpbahekbfaaDoor
open Go.RowKit

def heapN : Nat → List Int
  | 0 => []
  | k + 1 => upL (heapN k ++ [(k : Int)]) (heapN k).length
theorem heapN_len (k : Nat) : (heapN k).length = k := by
  induction k with
  | zero => rfl
  | succ k ih => rw [heapN, upL_len, List.length_append, ih]; rfl
set_option maxRecDepth 100000 in
set_option maxHeartbeats 4000000 in
theorem New_bad (n : Int) (w : World) (hn : n < 1 ∨ 64 < n) :
    Calls Tryd.prog 10 #[.int .i64 n] w fun e w' => e = .returned (.tuple #[.pointer none, .int .i64 2]) ∧ w = w' := by
  by_cases h1 : n < 1
  · go_enter Tryd.func10, Tryd.ntmps10
    go_wp2
    go_ret2
    exact ⟨rfl, rfl⟩
  · have h2 : 64 < n := by omega
    go_enter Tryd.func10, Tryd.ntmps10
    go_wp2
    go_ret2
    exact ⟨rfl, rfl⟩
/-- slots as New tells them -/
def Fresh (w w' : World) (n sb gb tb : Nat) (v : Value) : Prop := SlotsAt (w.heap.size + 3) w' sb gb tb v (List.replicate n 0) (List.replicate n false) (heapN n) 0 ∧ Below w.heap.size w w' ∧ w.heap.size ≤ sb ∧ w.heap.size ≤ gb ∧ w.heap.size ≤ tb
set_option maxRecDepth 100000 in
set_option maxHeartbeats 8000000 in
theorem New_any (n : Nat) (w : World) (hn1 : 1 ≤ n) (hn2 : n ≤ 64) :
    Calls Tryd.prog 10 #[.int .i64 n] w fun e w' => ∃ sb gb tb v, e = .returned (.tuple #[.pointer (some ⟨sb, 0, none⟩), .int .i64 0]) ∧ Fresh w w' n sb gb tb v := by
  have e1 : ¬ ((n : Int) < 1) := by omega
  have e2 : ¬ (64 < (n : Int)) := by omega
  go_enter Tryd.func10, Tryd.ntmps10
  go_wp2_with fail
  refine wp_region_gen2 (S := fun _ => True) (N := fun W' => W' = w.drew) (by kernel_rfl) trivial rfl (fun w1 hS hN => ?_)
  have HN := Lib.hid hN
  clear hN
  refine wpAnyH_take (i := 0) (v := ?_) (op_at rfl) (by kernel_rfl) (by kernel_rfl) (by kernel_rfl) (fun _ _ _ h => h) (Or.inl ⟨by rfl, ?_⟩) hS ?_; rotate_left; focus ((intro w' hSw; clear hSw; go_simp) <;> with_reducible rfl)
  try simp only [Act.put, List.setIfInBounds_toArray, List.set_cons_zero, List.set_cons_succ]
  refine wpAnyH_take (i := 2) (v := ?_) (op_at rfl) (by kernel_rfl) (by kernel_rfl) (by kernel_rfl) (fun _ _ _ h => h) (Or.inl ⟨by rfl, ?_⟩) hS ?_; rotate_left; focus ((intro w' hSw; clear hSw; go_simp) <;> with_reducible rfl)
  try simp only [Act.put, List.setIfInBounds_toArray, List.set_cons_zero, List.set_cons_succ]
  refine wpAnyH_ready (rs := [1, 3]) (by kernel_rfl) (by simp) ?_
  refine (AllReadyH.cons (op_at rfl) (fun K hK => ?_) (AllReadyH.cons (op_at rfl) (fun K hK => ?_) AllReadyH.nil))
  · skip
    have mk := makeI n hn2 w1
    obtain ⟨w2, hw2⟩ : ∃ W, w1.alloc (.cells ⟨(List.replicate n (0 : Int)).map vI⟩ 3) = W := ⟨_, rfl⟩
    rw [hw2] at mk
    have Hw2 := Lib.hid hw2
    clear hw2
    go_simp
    refine hK.out _ _ trivial (fun hS => ?_)
    clear hK K
    try simp only [Act.put, List.setIfInBounds_toArray, List.set_cons_zero, List.set_cons_succ]
    clear mk
    refine wpAnyH_ready (rs := [3]) (by kernel_rfl) (by simp) ?_
    refine (AllReadyH.cons (op_at rfl) (fun K hK => ?_) AllReadyH.nil)
    have mk := makeB n hn2 w2
    obtain ⟨w3, hw3⟩ : ∃ W, w2.alloc (.cells ⟨(List.replicate n false).map vB⟩ 4) = W := ⟨_, rfl⟩
    rw [hw3] at mk
    have Hw3 := Lib.hid hw3
    clear hw3
    go_simp
    refine hK.out _ _ trivial (fun hS => ?_)
    clear hK K
    try simp only [Act.put, List.setIfInBounds_toArray, List.set_cons_zero, List.set_cons_succ]
    clear mk
    refine wpAnyH_take (i := 4) (v := ?_) (op_at rfl) (by kernel_rfl) (by kernel_rfl) (by kernel_rfl) (fun _ _ _ h => h) (Or.inl ⟨by rfl, ?_⟩) hS ?_; rotate_left; focus ((intro w' hSw; clear hSw; go_simp) <;> with_reducible rfl)
    try simp only [Act.put, List.setIfInBounds_toArray, List.set_cons_zero, List.set_cons_succ]
    refine wpAnyH_ready (rs := [5]) (by kernel_rfl) (by simp) ?_
    refine (AllReadyH.cons (op_at rfl) (fun K hK => ?_) AllReadyH.nil)
    go_simp
    refine hK.out _ _ trivial (fun hS => ?_)
    clear hK K
    try simp only [Act.put, List.setIfInBounds_toArray, List.set_cons_zero, List.set_cons_succ]
    refine wpAnyH_take (i := 6) (v := ?_) (op_at rfl) (by kernel_rfl) (by kernel_rfl) (by kernel_rfl) (fun _ _ _ h => h) (Or.inl ⟨by rfl, ?_⟩) hS ?_; rotate_left; focus ((intro w' hSw; clear hSw; go_simp) <;> with_reducible rfl)
    try simp only [Act.put, List.setIfInBounds_toArray, List.set_cons_zero, List.set_cons_succ]
    refine wpAnyH_done (by kernel_rfl) ?_ _
    have z1 : w1.heap.size = w.heap.size := by rw [HN.out]; rfl
    have z2 : w2.heap.size = w.heap.size + 1 := by rw [← Hw2.out]; simp [z1]
    have z3 : w3.heap.size = w.heap.size + 2 := by rw [← Hw3.out]; simp [z2]
    have HG1 := Blk.new' (w := w1) (t := 3) (cs := ⟨(List.replicate n (0 : Int)).map vI⟩) rfl
    rw [Hw2.out] at HG1
    have HG2 := Blk.new' (w := w2) (t := 4) (cs := ⟨(List.replicate n false).map vB⟩) rfl
    rw [Hw3.out] at HG2
    have HG1' := HG1.alloc (.cells ⟨(List.replicate n false).map vB⟩ 4)
    rw [Hw3.out] at HG1'
    have hB3 : Below w.heap.size w w3 := by rw [← Hw3.out, ← Hw2.out, HN.out]; exact below_alloc (below_alloc (Below.refl w.heap.size w).drew _) _
    obtain ⟨W, hW⟩ : ∃ W, w3.alloc (.cells (slotsC (.slice none 0 0) (.slice (some ⟨w1.heap.size, 0, none⟩) n n) (.slice (some ⟨w2.heap.size, 0, none⟩) n n) 0) 57) = W := ⟨_, rfl⟩
    have hB : Below w.heap.size w W := by rw [← hW]; exact below_alloc hB3 _
    have hsz : W.heap.size = w.heap.size + 3 := by rw [← hW]; simp [z3]
    have hS0 : SlotsAt (w.heap.size + 3) W w3.heap.size w1.heap.size w2.heap.size (.slice none 0 0) (List.replicate n 0) (List.replicate n false) (heapN 0) 0 := by
      refine ⟨?_, ⟨rfl, .inl ⟨rfl, rfl⟩⟩, ?_, ?_, by omega, by simp, by omega⟩
      · rw [List.length_replicate, ← hW]; exact Blk.new' rfl
      · rw [← hW]; exact HG1'.alloc _
      · rw [← hW]; exact HG2.alloc _
    rw [hW]
    have H0 := Lib.hid hS0
    have HB := Lib.hid hB
    clear hW hB hS0 HG1 HG2 HG1' hB3
    generalize w3.heap.size = sb at *
    generalize w1.heap.size = gb at *
    generalize w2.heap.size = tb at *
    have y1 : w.heap.size ≤ sb := by omega
    have y2 : w.heap.size ≤ gb := by omega
    have y3 : w.heap.size ≤ tb := by omega
    have y4 : gb ≠ sb := by omega
    have y5 : tb ≠ sb := by omega
    have y6 : gb < w.heap.size + 3 := by omega
    have y7 : tb < w.heap.size + 3 := by omega
    clear z1 z2 z3 hsz Hw2 Hw3
    go_wp2_with fail
    go_loopw [19] (fun s wr => ∃ (k : Nat) (v : Value), s = .int .i64 k ∧ k ≤ n ∧ SlotsAt (w.heap.size + 3) wr sb gb tb v (List.replicate n 0) (List.replicate n false) (heapN k) 0 ∧ Below w.heap.size w wr) (fun s _ => n - (intOf s).toNat)
    case atStart => exact ⟨0, _, rfl, Nat.zero_le _, H0.out, HB.out⟩
    case round =>
      obtain ⟨k, v, rfl, hk, hS, hB⟩ := hrel
      have HS := Lib.hid hS
      have HBR := Lib.hid hB
      have zr := hB.size
      clear hS hB
      by_cases hkn : k < n
      · have hk2 : (k : Int) < (n : Int) := by omega
        go_wp2_with fail
        have hlen : (heapN k).length ≤ 900 := Nat.le_trans (Nat.le_of_eq (heapN_len k)) (by omega)
        have hpx := HPush_any (w.heap.size + 3) sb v _ _ 0 (k : Int) (heapN k) wr HS.out.s HS.out.h HS.out.bl hlen
        refine hpx.mono ?_
        rintro e w6 ⟨rfl, g6, n6, c6, hs6, hh6, hown, hT6⟩
        obtain ⟨l0, l1, l2, l3⟩ := HS.out.lts
        have m2 : ¬ Own sb v wr.heap.size gb := by
          rintro (e | e | e)
          · omega
          · have := (HS.out.h.own_lt e).1; omega
          · omega
        have m3 : ¬ Own sb v wr.heap.size tb := by
          rintro (e | e | e)
          · omega
          · have := (HS.out.h.own_lt e).1; omega
          · omega
        have S6 : Hid (SlotsAt (w.heap.size + 3) w6 sb gb tb (.slice (some ⟨g6, 0, none⟩) n6 c6) (List.replicate n 0) (List.replicate n false) (heapN (k + 1)) 0) := Lib.hid ⟨hs6, hh6, HS.out.g.keepT hT6 m2, HS.out.t.keepT hT6 m3, HS.out.gl, HS.out.tl, Nat.le_trans HS.out.bl hT6.size⟩
        have B6 := Lib.hid (HBR.out.trans (hT6.down zr (fun b hb => by
          rcases hb with e | e | e
          · omega
          · have := (HS.out.h.own_lt e).1; omega
          · omega)))
        clear hs6 hh6 hown hT6
        go_wp2_with fail
        go_roundw
        case rel => exact ⟨k + 1, _, by go_num, by omega, S6.out, B6.out⟩
        case measure => simp [intOf]; omega
      · have hke : k = n := by omega
        subst hke
        go_wp2_with fail
        go_ret2
        exact ⟨sb, gb, tb, v, rfl, HS.out, HBR.out, by omega, by omega, by omega⟩
  · skip
    have mk := makeB n hn2 w1
    obtain ⟨w2, hw2⟩ : ∃ W, w1.alloc (.cells ⟨(List.replicate n false).map vB⟩ 4) = W := ⟨_, rfl⟩
    rw [hw2] at mk
    have Hw2 := Lib.hid hw2
    clear hw2
    go_simp
    refine hK.out _ _ trivial (fun hS => ?_)
    clear hK K
    try simp only [Act.put, List.setIfInBounds_toArray, List.set_cons_zero, List.set_cons_succ]
    clear mk
    refine wpAnyH_ready (rs := [1]) (by kernel_rfl) (by simp) ?_
    refine (AllReadyH.cons (op_at rfl) (fun K hK => ?_) AllReadyH.nil)
    have mk := makeI n hn2 w2
    obtain ⟨w3, hw3⟩ : ∃ W, w2.alloc (.cells ⟨(List.replicate n (0 : Int)).map vI⟩ 3) = W := ⟨_, rfl⟩
    rw [hw3] at mk
    have Hw3 := Lib.hid hw3
    clear hw3
    go_simp
    refine hK.out _ _ trivial (fun hS => ?_)
    clear hK K
    try simp only [Act.put, List.setIfInBounds_toArray, List.set_cons_zero, List.set_cons_succ]
    clear mk
    refine wpAnyH_take (i := 4) (v := ?_) (op_at rfl) (by kernel_rfl) (by kernel_rfl) (by kernel_rfl) (fun _ _ _ h => h) (Or.inl ⟨by rfl, ?_⟩) hS ?_; rotate_left; focus ((intro w' hSw; clear hSw; go_simp) <;> with_reducible rfl)
    try simp only [Act.put, List.setIfInBounds_toArray, List.set_cons_zero, List.set_cons_succ]
    refine wpAnyH_ready (rs := [5]) (by kernel_rfl) (by simp) ?_
    refine (AllReadyH.cons (op_at rfl) (fun K hK => ?_) AllReadyH.nil)
    go_simp
    refine hK.out _ _ trivial (fun hS => ?_)
    clear hK K
    try simp only [Act.put, List.setIfInBounds_toArray, List.set_cons_zero, List.set_cons_succ]
    refine wpAnyH_take (i := 6) (v := ?_) (op_at rfl) (by kernel_rfl) (by kernel_rfl) (by kernel_rfl) (fun _ _ _ h => h) (Or.inl ⟨by rfl, ?_⟩) hS ?_; rotate_left; focus ((intro w' hSw; clear hSw; go_simp) <;> with_reducible rfl)
    try simp only [Act.put, List.setIfInBounds_toArray, List.set_cons_zero, List.set_cons_succ]
    refine wpAnyH_done (by kernel_rfl) ?_ _
    have z1 : w1.heap.size = w.heap.size := by rw [HN.out]; rfl
    have z2 : w2.heap.size = w.heap.size + 1 := by rw [← Hw2.out]; simp [z1]
    have z3 : w3.heap.size = w.heap.size + 2 := by rw [← Hw3.out]; simp [z2]
    have HG1 := Blk.new' (w := w1) (t := 4) (cs := ⟨(List.replicate n false).map vB⟩) rfl
    rw [Hw2.out] at HG1
    have HG2 := Blk.new' (w := w2) (t := 3) (cs := ⟨(List.replicate n (0 : Int)).map vI⟩) rfl
    rw [Hw3.out] at HG2
    have HG1' := HG1.alloc (.cells ⟨(List.replicate n (0 : Int)).map vI⟩ 3)
    rw [Hw3.out] at HG1'
    have hB3 : Below w.heap.size w w3 := by rw [← Hw3.out, ← Hw2.out, HN.out]; exact below_alloc (below_alloc (Below.refl w.heap.size w).drew _) _
    obtain ⟨W, hW⟩ : ∃ W, w3.alloc (.cells (slotsC (.slice none 0 0) (.slice (some ⟨w2.heap.size, 0, none⟩) n n) (.slice (some ⟨w1.heap.size, 0, none⟩) n n) 0) 57) = W := ⟨_, rfl⟩
    have hB : Below w.heap.size w W := by rw [← hW]; exact below_alloc hB3 _
    have hsz : W.heap.size = w.heap.size + 3 := by rw [← hW]; simp [z3]
    have hS0 : SlotsAt (w.heap.size + 3) W w3.heap.size w2.heap.size w1.heap.size (.slice none 0 0) (List.replicate n 0) (List.replicate n false) (heapN 0) 0 := by
      refine ⟨?_, ⟨rfl, .inl ⟨rfl, rfl⟩⟩, ?_, ?_, by omega, by simp, by omega⟩
      · rw [List.length_replicate, ← hW]; exact Blk.new' rfl
      · rw [← hW]; exact HG2.alloc _
      · rw [← hW]; exact HG1'.alloc _
    rw [hW]
    have H0 := Lib.hid hS0
    have HB := Lib.hid hB
    clear hW hB hS0 HG1 HG2 HG1' hB3
    generalize w3.heap.size = sb at *
    generalize w2.heap.size = gb at *
    generalize w1.heap.size = tb at *
    have y1 : w.heap.size ≤ sb := by omega
    have y2 : w.heap.size ≤ gb := by omega
    have y3 : w.heap.size ≤ tb := by omega
    have y4 : gb ≠ sb := by omega
    have y5 : tb ≠ sb := by omega
    have y6 : gb < w.heap.size + 3 := by omega
    have y7 : tb < w.heap.size + 3 := by omega
    clear z1 z2 z3 hsz Hw2 Hw3
    go_wp2_with fail
    go_loopw [19] (fun s wr => ∃ (k : Nat) (v : Value), s = .int .i64 k ∧ k ≤ n ∧ SlotsAt (w.heap.size + 3) wr sb gb tb v (List.replicate n 0) (List.replicate n false) (heapN k) 0 ∧ Below w.heap.size w wr) (fun s _ => n - (intOf s).toNat)
    case atStart => exact ⟨0, _, rfl, Nat.zero_le _, H0.out, HB.out⟩
    case round =>
      obtain ⟨k, v, rfl, hk, hS, hB⟩ := hrel
      have HS := Lib.hid hS
      have HBR := Lib.hid hB
      have zr := hB.size
      clear hS hB
      by_cases hkn : k < n
      · have hk2 : (k : Int) < (n : Int) := by omega
        go_wp2_with fail
        have hlen : (heapN k).length ≤ 900 := Nat.le_trans (Nat.le_of_eq (heapN_len k)) (by omega)
        have hpx := HPush_any (w.heap.size + 3) sb v _ _ 0 (k : Int) (heapN k) wr HS.out.s HS.out.h HS.out.bl hlen
        refine hpx.mono ?_
        rintro e w6 ⟨rfl, g6, n6, c6, hs6, hh6, hown, hT6⟩
        obtain ⟨l0, l1, l2, l3⟩ := HS.out.lts
        have m2 : ¬ Own sb v wr.heap.size gb := by
          rintro (e | e | e)
          · omega
          · have := (HS.out.h.own_lt e).1; omega
          · omega
        have m3 : ¬ Own sb v wr.heap.size tb := by
          rintro (e | e | e)
          · omega
          · have := (HS.out.h.own_lt e).1; omega
          · omega
        have S6 : Hid (SlotsAt (w.heap.size + 3) w6 sb gb tb (.slice (some ⟨g6, 0, none⟩) n6 c6) (List.replicate n 0) (List.replicate n false) (heapN (k + 1)) 0) := Lib.hid ⟨hs6, hh6, HS.out.g.keepT hT6 m2, HS.out.t.keepT hT6 m3, HS.out.gl, HS.out.tl, Nat.le_trans HS.out.bl hT6.size⟩
        have B6 := Lib.hid (HBR.out.trans (hT6.down zr (fun b hb => by
          rcases hb with e | e | e
          · omega
          · have := (HS.out.h.own_lt e).1; omega
          · omega)))
        clear hs6 hh6 hown hT6
        go_wp2_with fail
        go_roundw
        case rel => exact ⟨k + 1, _, by go_num, by omega, S6.out, B6.out⟩
        case measure => simp [intOf]; omega
      · have hke : k = n := by omega
        subst hke
        go_wp2_with fail
        go_ret2
        exact ⟨sb, gb, tb, v, rfl, HS.out, HBR.out, by omega, by omega, by omega⟩
end Go.Proofs.YtgjnmpbahekbfaaDoor
