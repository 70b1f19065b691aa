/-
  THE REFERENCE'S SLOTS: New, Take.
-/
import Derived.Test.YtgjnmpbahekbfaaDoorSlY
import Derived.Test.YtgjnmpbahekbfaaDoorSlQ
import Derived.LoopN
namespace Go.Proofs.YtgjnmpbahekbfaaDoor
open Go.RowKit

/-- the reference's slots as they lie -/
structure RefAt (w : World) (rb gb tb : Nat) (n : Nat) (gen : List Int) (tk : List Bool) : Prop where
  s : Blk w rb 71 #[.slice (some ⟨gb, 0, none⟩) n n, .slice (some ⟨tb, 0, none⟩) n n]
  g : Blk w gb 3 ⟨gen.map vI⟩
  t : Blk w tb 4 ⟨(tk.map Bool.not).map vB⟩
  gl : gen.length = n
  tl : tk.length = n
theorem RefAt.keepT {w w' : World} {rb gb tb n : Nat} {gen : List Int} {tk : List Bool} {T : Nat → Prop} (H : RefAt w rb gb tb n gen tk) (k : Turns T w w') (h0 : ¬ T rb) (h1 : ¬ T gb) (h2 : ¬ T tb) : RefAt w' rb gb tb n gen tk :=
  ⟨H.s.keepT k h0, H.g.keepT k h1, H.t.keepT k h2, H.gl, H.tl⟩
theorem RefAt.after {w w' : World} {rb gb tb n : Nat} {gen : List Int} {tk : List Bool} (H : RefAt w rb gb tb n gen tk) (hb : Below w.heap.size w w') : RefAt w' rb gb tb n gen tk := H.keepT (T := fun _ => False) (Turns.of_below hb) id id id
theorem RefAt.alloc {w : World} {rb gb tb n : Nat} {gen : List Int} {tk : List Bool} (H : RefAt w rb gb tb n gen tk) (o : Obj) : RefAt (w.alloc o) rb gb tb n gen tk := H.keepT (T := fun _ => False) ((Turns.refl _ w).alloc o) id id id
/-- what a turn of the reference's slots may touch -/
abbrev OwnF (gb tb n : Nat) (k : Nat) : Prop := k = gb ∨ k = tb ∨ n ≤ k
theorem not_get {tk : List Bool} {i : Nat} {b : Bool} (h : tk[i]? = some b) : (tk.map Bool.not)[i]? = some (!b) := by rw [List.getElem?_map, h]; rfl
/-- the reference's slots while New fills them: the first k are free -/
structure RefNew (w : World) (rb gb tb : Nat) (n k : Nat) : Prop where
  s : Blk w rb 71 #[.slice (some ⟨gb, 0, none⟩) n n, .slice (some ⟨tb, 0, none⟩) n n]
  g : Blk w gb 3 ⟨(List.replicate n (0 : Int)).map vI⟩
  t : Blk w tb 4 ⟨(fullT n k).map vB⟩
theorem RefNew.step {w : World} {rb gb tb n k : Nat} (H : RefNew w rb gb tb n k) (_hk : k < n) (h1 : tb ≠ rb) (h2 : tb ≠ gb) : RefNew (w.setCell ⟨tb, k, none⟩ (.bool true)) rb gb tb n (k + 1) :=
  ⟨H.s.far (Ne.symm h1) _, H.g.far (Ne.symm h2) _, by rw [← fullT_step]; exact H.t.set' (set_map vB _ _ _)⟩
theorem fullT_not (n : Nat) : fullT n n = (List.replicate n false).map Bool.not := by
  apply List.ext_getElem?
  intro j
  rw [List.getElem?_map, List.getElem?_replicate]
  unfold fullT
  split
  · rename_i h
    rw [range_map_get h]; simp [h]
  · rw [List.getElem?_eq_none (by rw [List.length_map, List.length_range]; omega)]; rfl
theorem RefNew.whole {w : World} {rb gb tb n : Nat} (H : RefNew w rb gb tb n n) : RefAt w rb gb tb n (List.replicate n 0) (List.replicate n false) :=
  ⟨H.s, H.g, by rw [← fullT_not]; exact H.t, List.length_replicate, List.length_replicate⟩
theorem rNew_bad (n : Int) (w : World) (hn : n < 1 ∨ 64 < n) :
    Calls Tryd.prog 15 #[.int .i64 n] w fun e w' => e = .returned (.tuple #[.pointer none, .int .i64 2]) ∧ w = w' := by
  by_cases h1 : n < 1
  · have e1 : decide (n < 1) = true := decide_eq_true h1
    clear hn
    go_enter Tryd.func15, Tryd.ntmps15
    go_wp2
    go_ret2
    exact ⟨rfl, rfl⟩
  · have h2 : 64 < n := by omega
    clear hn
    go_enter Tryd.func15, Tryd.ntmps15
    go_wp2
    go_ret2
    exact ⟨rfl, rfl⟩
set_option maxRecDepth 100000 in
set_option maxHeartbeats 8000000 in
theorem rNew_any (n : Nat) (w : World) (hn1 : 1 ≤ n) (hn2 : n ≤ 64) :
    Calls Tryd.prog 15 #[.int .i64 n] w fun e w' => ∃ rb gb tb, e = .returned (.tuple #[.pointer (some ⟨rb, 0, none⟩), .int .i64 0]) ∧ RefAt w' rb gb tb n (List.replicate n 0) (List.replicate n false) ∧ Below w.heap.size w w' ∧ w.heap.size ≤ rb ∧ w.heap.size ≤ gb ∧ w.heap.size ≤ tb := by
  have e1 : ¬ ((n : Int) < 1) := by omega
  have e2 : ¬ (64 < (n : Int)) := by omega
  go_enter Tryd.func15, Tryd.ntmps15
  go_wp2_with fail
  refine wp_region_gen2 (S := fun _ => True) (N := fun W' => W' = w.drew) (by kernel_rfl) trivial rfl (fun w1 hS hN => ?_)
  have HN := Lib.hid hN
  clear hN
  refine wpAnyH_take (i := 0) (v := ?_) (op_at rfl) (by kernel_rfl) (by kernel_rfl) (by kernel_rfl) (fun _ _ _ h => h) (Or.inl ⟨by rfl, ?_⟩) hS ?_; rotate_left; focus ((intro w' hSw; clear hSw; go_simp) <;> with_reducible rfl)
  try simp only [Act.put, List.setIfInBounds_toArray, List.set_cons_zero, List.set_cons_succ]
  refine wpAnyH_take (i := 2) (v := ?_) (op_at rfl) (by kernel_rfl) (by kernel_rfl) (by kernel_rfl) (fun _ _ _ h => h) (Or.inl ⟨by rfl, ?_⟩) hS ?_; rotate_left; focus ((intro w' hSw; clear hSw; go_simp) <;> with_reducible rfl)
  try simp only [Act.put, List.setIfInBounds_toArray, List.set_cons_zero, List.set_cons_succ]
  refine wpAnyH_ready (rs := [1, 3]) (by kernel_rfl) (by simp) ?_
  refine (AllReadyH.cons (op_at rfl) (fun K hK => ?_) (AllReadyH.cons (op_at rfl) (fun K hK => ?_) AllReadyH.nil))
  · skip
    have mk := makeI n hn2 w1
    obtain ⟨w2, hw2⟩ : ∃ W, w1.alloc (.cells ⟨(List.replicate n (0 : Int)).map vI⟩ 3) = W := ⟨_, rfl⟩
    rw [hw2] at mk
    have Hw2 := Lib.hid hw2
    clear hw2
    go_simp
    refine hK.out _ _ trivial (fun hS => ?_)
    clear hK K
    try simp only [Act.put, List.setIfInBounds_toArray, List.set_cons_zero, List.set_cons_succ]
    clear mk
    refine wpAnyH_ready (rs := [3]) (by kernel_rfl) (by simp) ?_
    refine (AllReadyH.cons (op_at rfl) (fun K hK => ?_) AllReadyH.nil)
    have mk := makeB n hn2 w2
    obtain ⟨w3, hw3⟩ : ∃ W, w2.alloc (.cells ⟨(List.replicate n false).map vB⟩ 4) = W := ⟨_, rfl⟩
    rw [hw3] at mk
    have Hw3 := Lib.hid hw3
    clear hw3
    go_simp
    refine hK.out _ _ trivial (fun hS => ?_)
    clear hK K
    try simp only [Act.put, List.setIfInBounds_toArray, List.set_cons_zero, List.set_cons_succ]
    clear mk
    refine wpAnyH_take (i := 4) (v := ?_) (op_at rfl) (by kernel_rfl) (by kernel_rfl) (by kernel_rfl) (fun _ _ _ h => h) (Or.inl ⟨by rfl, ?_⟩) hS ?_; rotate_left; focus ((intro w' hSw; clear hSw; go_simp) <;> with_reducible rfl)
    try simp only [Act.put, List.setIfInBounds_toArray, List.set_cons_zero, List.set_cons_succ]
    refine wpAnyH_ready (rs := [5]) (by kernel_rfl) (by simp) ?_
    refine (AllReadyH.cons (op_at rfl) (fun K hK => ?_) AllReadyH.nil)
    go_simp
    refine hK.out _ _ trivial (fun hS => ?_)
    clear hK K
    try simp only [Act.put, List.setIfInBounds_toArray, List.set_cons_zero, List.set_cons_succ]
    refine wpAnyH_take (i := 6) (v := ?_) (op_at rfl) (by kernel_rfl) (by kernel_rfl) (by kernel_rfl) (fun _ _ _ h => h) (Or.inl ⟨by rfl, ?_⟩) hS ?_; rotate_left; focus ((intro w' hSw; clear hSw; go_simp) <;> with_reducible rfl)
    try simp only [Act.put, List.setIfInBounds_toArray, List.set_cons_zero, List.set_cons_succ]
    refine wpAnyH_done (by kernel_rfl) ?_ _
    have z1 : w1.heap.size = w.heap.size := by rw [HN.out]; rfl
    have z2 : w2.heap.size = w.heap.size + 1 := by rw [← Hw2.out]; simp [z1]
    have z3 : w3.heap.size = w.heap.size + 2 := by rw [← Hw3.out]; simp [z2]
    have HG1 := Blk.new' (w := w1) (t := 3) (cs := ⟨(List.replicate n (0 : Int)).map vI⟩) rfl
    rw [Hw2.out] at HG1
    have HG2 := Blk.new' (w := w2) (t := 4) (cs := ⟨(List.replicate n false).map vB⟩) rfl
    rw [Hw3.out] at HG2
    have HG1' := HG1.alloc (.cells ⟨(List.replicate n false).map vB⟩ 4)
    rw [Hw3.out] at HG1'
    have hB3 : Below w.heap.size w w3 := by rw [← Hw3.out, ← Hw2.out, HN.out]; exact below_alloc (below_alloc (Below.refl w.heap.size w).drew _) _
    obtain ⟨W, hW⟩ : ∃ W, w3.alloc (.cells #[.slice (some ⟨w1.heap.size, 0, none⟩) n n, .slice (some ⟨w2.heap.size, 0, none⟩) n n] 71) = W := ⟨_, rfl⟩
    have hB : Below w.heap.size w W := by rw [← hW]; exact below_alloc hB3 _
    have hS0 : RefNew W w3.heap.size w1.heap.size w2.heap.size n 0 := by
      refine ⟨?_, ?_, ?_⟩
      · rw [← hW]; exact Blk.new' rfl
      · rw [← hW]; exact (HG1').alloc _
      · rw [fullT_zero, ← hW]; exact (HG2).alloc _
    rw [hW]
    have H0 := Lib.hid hS0
    have HB := Lib.hid hB
    clear hW hB hS0 HG1 HG2 HG1' hB3
    have y0 : w1.heap.size ≠ w2.heap.size := by omega
    generalize w3.heap.size = rb at *
    generalize w1.heap.size = gb at *
    generalize w2.heap.size = tb at *
    have Y : Hid (w.heap.size ≤ rb ∧ w.heap.size ≤ gb ∧ w.heap.size ≤ tb ∧ tb ≠ rb ∧ tb ≠ gb) := Lib.hid ⟨by omega, by omega, by omega, by omega, by omega⟩
    clear z1 z2 z3 Hw2 Hw3 HN y0
    go_wp2_with fail
    go_loopw [5] (fun s wr => ∃ (k : Nat), s = .int .i64 k ∧ k ≤ n ∧ RefNew wr rb gb tb n k ∧ Below w.heap.size w wr) (fun s _ => n - (intOf s).toNat)
    case atStart => exact ⟨0, rfl, Nat.zero_le _, H0.out, HB.out⟩
    case round =>
      obtain ⟨k, rfl, hk, hS, hB⟩ := hrel
      have HS := Lib.hid hS
      have HBR := Lib.hid hB
      clear hS hB
      by_cases hkn : k < n
      · have hk2 : (k : Int) < (n : Int) := by omega
        have hk0 : (0 : Int) ≤ (k : Int) := by omega
        have HK := Lib.hid hkn
        have q1 := HS.out.s.at_ (i := 1) (v := .slice (some ⟨tb, 0, none⟩) n n) rfl
        have q5 : wr.cell? ⟨tb, k, none⟩ = some (.bool false) := HS.out.t.at_ (map_get (fullT_get hkn))
        have q6 := HS.out.t.frozen k
        clear hkn
        go_wp2_with fail
        go_roundw
        case rel => exact ⟨k + 1, by go_num, by have := HK.out; omega, HS.out.step HK.out Y.out.2.2.2.1 Y.out.2.2.2.2, below_set HBR.out Y.out.2.2.1 _⟩
        case measure => have := HK.out; simp [intOf]; omega
      · have hke : k = n := by omega
        subst hke
        clear hkn
        go_wp2_with fail
        go_ret2
        exact ⟨rb, gb, tb, rfl, HS.out.whole, HBR.out, Y.out.1, Y.out.2.1, Y.out.2.2.1⟩
  · skip
    have mk := makeB n hn2 w1
    obtain ⟨w2, hw2⟩ : ∃ W, w1.alloc (.cells ⟨(List.replicate n false).map vB⟩ 4) = W := ⟨_, rfl⟩
    rw [hw2] at mk
    have Hw2 := Lib.hid hw2
    clear hw2
    go_simp
    refine hK.out _ _ trivial (fun hS => ?_)
    clear hK K
    try simp only [Act.put, List.setIfInBounds_toArray, List.set_cons_zero, List.set_cons_succ]
    clear mk
    refine wpAnyH_ready (rs := [1]) (by kernel_rfl) (by simp) ?_
    refine (AllReadyH.cons (op_at rfl) (fun K hK => ?_) AllReadyH.nil)
    have mk := makeI n hn2 w2
    obtain ⟨w3, hw3⟩ : ∃ W, w2.alloc (.cells ⟨(List.replicate n (0 : Int)).map vI⟩ 3) = W := ⟨_, rfl⟩
    rw [hw3] at mk
    have Hw3 := Lib.hid hw3
    clear hw3
    go_simp
    refine hK.out _ _ trivial (fun hS => ?_)
    clear hK K
    try simp only [Act.put, List.setIfInBounds_toArray, List.set_cons_zero, List.set_cons_succ]
    clear mk
    refine wpAnyH_take (i := 4) (v := ?_) (op_at rfl) (by kernel_rfl) (by kernel_rfl) (by kernel_rfl) (fun _ _ _ h => h) (Or.inl ⟨by rfl, ?_⟩) hS ?_; rotate_left; focus ((intro w' hSw; clear hSw; go_simp) <;> with_reducible rfl)
    try simp only [Act.put, List.setIfInBounds_toArray, List.set_cons_zero, List.set_cons_succ]
    refine wpAnyH_ready (rs := [5]) (by kernel_rfl) (by simp) ?_
    refine (AllReadyH.cons (op_at rfl) (fun K hK => ?_) AllReadyH.nil)
    go_simp
    refine hK.out _ _ trivial (fun hS => ?_)
    clear hK K
    try simp only [Act.put, List.setIfInBounds_toArray, List.set_cons_zero, List.set_cons_succ]
    refine wpAnyH_take (i := 6) (v := ?_) (op_at rfl) (by kernel_rfl) (by kernel_rfl) (by kernel_rfl) (fun _ _ _ h => h) (Or.inl ⟨by rfl, ?_⟩) hS ?_; rotate_left; focus ((intro w' hSw; clear hSw; go_simp) <;> with_reducible rfl)
    try simp only [Act.put, List.setIfInBounds_toArray, List.set_cons_zero, List.set_cons_succ]
    refine wpAnyH_done (by kernel_rfl) ?_ _
    have z1 : w1.heap.size = w.heap.size := by rw [HN.out]; rfl
    have z2 : w2.heap.size = w.heap.size + 1 := by rw [← Hw2.out]; simp [z1]
    have z3 : w3.heap.size = w.heap.size + 2 := by rw [← Hw3.out]; simp [z2]
    have HG1 := Blk.new' (w := w1) (t := 4) (cs := ⟨(List.replicate n false).map vB⟩) rfl
    rw [Hw2.out] at HG1
    have HG2 := Blk.new' (w := w2) (t := 3) (cs := ⟨(List.replicate n (0 : Int)).map vI⟩) rfl
    rw [Hw3.out] at HG2
    have HG1' := HG1.alloc (.cells ⟨(List.replicate n (0 : Int)).map vI⟩ 3)
    rw [Hw3.out] at HG1'
    have hB3 : Below w.heap.size w w3 := by rw [← Hw3.out, ← Hw2.out, HN.out]; exact below_alloc (below_alloc (Below.refl w.heap.size w).drew _) _
    obtain ⟨W, hW⟩ : ∃ W, w3.alloc (.cells #[.slice (some ⟨w2.heap.size, 0, none⟩) n n, .slice (some ⟨w1.heap.size, 0, none⟩) n n] 71) = W := ⟨_, rfl⟩
    have hB : Below w.heap.size w W := by rw [← hW]; exact below_alloc hB3 _
    have hS0 : RefNew W w3.heap.size w2.heap.size w1.heap.size n 0 := by
      refine ⟨?_, ?_, ?_⟩
      · rw [← hW]; exact Blk.new' rfl
      · rw [← hW]; exact (HG2).alloc _
      · rw [fullT_zero, ← hW]; exact (HG1').alloc _
    rw [hW]
    have H0 := Lib.hid hS0
    have HB := Lib.hid hB
    clear hW hB hS0 HG1 HG2 HG1' hB3
    have y0 : w1.heap.size ≠ w2.heap.size := by omega
    generalize w3.heap.size = rb at *
    generalize w2.heap.size = gb at *
    generalize w1.heap.size = tb at *
    have Y : Hid (w.heap.size ≤ rb ∧ w.heap.size ≤ gb ∧ w.heap.size ≤ tb ∧ tb ≠ rb ∧ tb ≠ gb) := Lib.hid ⟨by omega, by omega, by omega, by omega, by omega⟩
    clear z1 z2 z3 Hw2 Hw3 HN y0
    go_wp2_with fail
    go_loopw [5] (fun s wr => ∃ (k : Nat), s = .int .i64 k ∧ k ≤ n ∧ RefNew wr rb gb tb n k ∧ Below w.heap.size w wr) (fun s _ => n - (intOf s).toNat)
    case atStart => exact ⟨0, rfl, Nat.zero_le _, H0.out, HB.out⟩
    case round =>
      obtain ⟨k, rfl, hk, hS, hB⟩ := hrel
      have HS := Lib.hid hS
      have HBR := Lib.hid hB
      clear hS hB
      by_cases hkn : k < n
      · have hk2 : (k : Int) < (n : Int) := by omega
        have hk0 : (0 : Int) ≤ (k : Int) := by omega
        have HK := Lib.hid hkn
        have q1 := HS.out.s.at_ (i := 1) (v := .slice (some ⟨tb, 0, none⟩) n n) rfl
        have q5 : wr.cell? ⟨tb, k, none⟩ = some (.bool false) := HS.out.t.at_ (map_get (fullT_get hkn))
        have q6 := HS.out.t.frozen k
        clear hkn
        go_wp2_with fail
        go_roundw
        case rel => exact ⟨k + 1, by go_num, by have := HK.out; omega, HS.out.step HK.out Y.out.2.2.2.1 Y.out.2.2.2.2, below_set HBR.out Y.out.2.2.1 _⟩
        case measure => have := HK.out; simp [intOf]; omega
      · have hke : k = n := by omega
        subst hke
        clear hkn
        go_wp2_with fail
        go_ret2
        exact ⟨rb, gb, tb, rfl, HS.out.whole, HBR.out, Y.out.1, Y.out.2.1, Y.out.2.2.1⟩
end Go.Proofs.YtgjnmpbahekbfaaDoor
