/-
  PLAIN LAWS behind the statements on sets: what is left, how many there are, lists and sets.
-/
import Derived.Test.YtkmklmdhmfikmaaDoorCtz
import Derived.Test.YtkmklmdhmfikmaaDoorCatB
namespace Go.Proofs.YtkmklmdhmfikmaaDoor
open Go.RowKit

theorem filter_parts (p q : Nat → Bool) (l : List Nat) : (l.filter fun k => p k && !q k).length + (l.filter fun k => p k && q k).length = (l.filter p).length := by
  induction l with
  | nil => rfl
  | cons k l ih =>
    simp only [List.filter_cons]
    cases hp : p k <;> cases hq : q k <;> simp <;> omega
theorem pc_parts (x y : BitVec 64) : pc (x &&& ~~~y) + pc (x &&& ~~~(x &&& ~~~y)) = pc x := by
  have h := filter_parts (fun k : Nat => has x (k : Int)) (fun k : Nat => has y (k : Int)) (List.range 64)
  have e1 : pc (x &&& ~~~y) = ((List.range 64).filter fun k : Nat => has x (k : Int) && !has y (k : Int)).length := by
    show ((List.range 64).filter fun k : Nat => has (x &&& ~~~y) (k : Int)).length = _
    rw [List.filter_congr (show ∀ k : Nat, k ∈ List.range 64 → has (x &&& ~~~y) (k : Int) = (has x (k : Int) && !has y (k : Int)) from fun k _ => has_less x y (k : Int))]
  have e2 : pc (x &&& ~~~(x &&& ~~~y)) = ((List.range 64).filter fun k : Nat => has x (k : Int) && has y (k : Int)).length := by
    show ((List.range 64).filter fun k : Nat => has (x &&& ~~~(x &&& ~~~y)) (k : Int)).length = _
    rw [List.filter_congr (show ∀ k : Nat, k ∈ List.range 64 → has (x &&& ~~~(x &&& ~~~y)) (k : Int) = (has x (k : Int) && has y (k : Int)) from fun k _ => by
      rw [has_less, has_less]
      cases has x (k : Int) <;> cases has y (k : Int) <;> rfl)]
  rw [e1, e2, h]
  rfl
theorem parts_sub (x y : BitVec 64) : sub (x &&& ~~~y) x = true ∧ sub (x &&& ~~~(x &&& ~~~y)) y = true := by
  constructor
  · rw [sub_iff]; intro k _ h
    rw [has_less] at h
    cases hx : has x (k : Int)
    · rw [hx] at h; cases h
    · rfl
  · rw [sub_iff]; intro k _ h
    rw [has_less, has_less] at h
    cases hy : has y (k : Int)
    · rw [hy] at h; cases hx : has x (k : Int) <;> rw [hx] at h <;> cases h
    · rfl
theorem parts_add (x y : BitVec 64) : (x &&& ~~~y) + (x &&& ~~~(x &&& ~~~y)) = x := by
  rw [BitVec.add_eq_or_of_and_eq_zero]
  · refine has_ext fun k _ => ?_
    rw [has_or, has_less, has_less, has_less]
    cases has x (k : Int) <;> cases has y (k : Int) <;> rfl
  · refine has_ext fun k _ => ?_
    rw [has_and, has_less, has_less, has_less]
    have z : has 0#64 (k : Int) = false := by unfold has; simp
    rw [z]
    cases has x (k : Int) <;> cases has y (k : Int) <;> rfl
theorem pc_le (x : BitVec 64) : pc x ≤ 64 := by
  have := List.length_filter_le (fun j : Nat => has x (j : Int)) (List.range 64)
  simpa [pc, cats] using this

theorem has_bit (i : Int) (h0 : 0 ≤ i) (h1 : i < 64) (k : Int) : has (bit i) k = decide (k = i) := by
  have h := has_or_bit 0#64 i k h0 h1
  have z : has 0#64 k = false := by unfold has; simp
  rw [z, Bool.false_or] at h
  rw [← h]; simp
theorem pc_zero : pc 0#64 = 0 := by unfold pc; rw [cats_zero]; rfl
theorem pc_bit (i : Int) (h0 : 0 ≤ i) (h1 : i < 64) : pc (bit i) = 1 := by
  have hl : Low (bit i) i.toNat := ⟨by omega, by rw [has_bit i h0 h1]; simp; omega, fun j hj => by rw [has_bit i h0 h1]; simp; omega⟩
  unfold pc
  rw [hl.cats, hl.clear]
  have e : bit i &&& ~~~bit ((i.toNat : Nat) : Int) = 0#64 := by
    have : ((i.toNat : Nat) : Int) = i := by omega
    rw [this]; simp
  rw [e, cats_zero]; rfl
/-- what is left of a set with one more -/
theorem less_with (x : BitVec 64) (i : Int) (h0 : 0 ≤ i) (h1 : i < 64) : (x ||| bit i) &&& ~~~x = if has x i then 0#64 else bit i := by
  refine has_ext fun k hk => ?_
  rw [has_less, has_or_bit _ _ _ h0 h1]
  have z : has 0#64 (k : Int) = false := by unfold has; simp
  by_cases e : (k : Int) = i
  · subst e
    cases hx : has x (k : Int)
    · rw [if_neg (by simp), has_bit _ h0 h1]; simp
    · rw [if_pos rfl, z]; rfl
  · by_cases hx : has x i = true
    · rw [if_pos hx, z]; cases has x (k : Int) <;> simp [e]
    · rw [if_neg hx, has_bit _ h0 h1]; cases has x (k : Int) <;> simp [e]
theorem keep_with (x : BitVec 64) (i : Int) (h0 : 0 ≤ i) (h1 : i < 64) : (x ||| bit i) &&& ~~~((x ||| bit i) &&& ~~~x) = x := by
  refine has_ext fun k hk => ?_
  rw [has_less, has_less, has_or_bit _ _ _ h0 h1]
  cases has x (k : Int) <;> cases decide ((k : Int) = i) <;> rfl
theorem pc_with (x : BitVec 64) (i : Int) (h0 : 0 ≤ i) (h1 : i < 64) : pc (x ||| bit i) = pc x + (if has x i then 0 else 1) ∧ pc ((x ||| bit i) &&& ~~~x) = if has x i then 0 else 1 := by
  have a : pc ((x ||| bit i) &&& ~~~x) = if has x i then 0 else 1 := by
    rw [less_with x i h0 h1]
    cases has x i
    · rw [if_neg (by simp), if_neg (by simp)]; exact pc_bit i h0 h1
    · exact pc_zero
  refine ⟨?_, a⟩
  have h := pc_parts (x ||| bit i) x
  rw [keep_with x i h0 h1, a] at h
  omega
theorem sub_with (x : BitVec 64) (i : Int) (h0 : 0 ≤ i) (h1 : i < 64) : sub x (x ||| bit i) = true := by
  rw [sub_iff]; intro k _ h; rw [has_or_bit _ _ _ h0 h1, h]; rfl

/-! ### sets and lists -/
theorem has_withAll (l : List Int) (hl : l.all ok = true) : ∀ (x : BitVec 64) (k : Int), has (withAll x l) k = (has x k || decide (k ∈ l)) := by
  induction l with
  | nil => intro x k; simp [withAll]
  | cons i l ih =>
    intro x k
    rw [List.all_cons, Bool.and_eq_true] at hl
    have hi := ok_iff.1 hl.1
    have e : withAll x (i :: l) = withAll (x ||| bit i) l := by simp [withAll, hl.1]
    rw [e, ih hl.2, has_or_bit _ _ _ hi.1 hi.2]
    by_cases h1 : k = i
    · simp [h1]
    · simp [h1]
theorem ints_ok (x : BitVec 64) : ((cats x).map fun k : Nat => (k : Int)).all ok = true := by
  rw [List.all_eq_true]
  intro i hi
  obtain ⟨k, hk, rfl⟩ := List.mem_map.1 hi
  have := (cats_mem x k).1 hk
  exact ok_iff.2 ⟨by omega, by omega⟩
/-- the set of a set's list is the set -/
theorem of_list (x : BitVec 64) : ofSet ((cats x).map fun k : Nat => (k : Int)) = x ∧ ofErr ((cats x).map fun k : Nat => (k : Int)) = 0 := by
  refine ⟨?_, if_pos (ints_ok x)⟩
  unfold ofSet
  rw [if_pos (ints_ok x)]
  refine has_ext fun k hk => ?_
  rw [has_withAll _ (ints_ok x)]
  have z : has 0#64 (k : Int) = false := by unfold has; simp
  rw [z, Bool.false_or]
  cases hx : has x (k : Int)
  · rw [decide_eq_false]
    intro hm
    obtain ⟨j, hj, e⟩ := List.mem_map.1 hm
    have : j = k := by omega
    subst this
    have := ((cats_mem x j).1 hj).2
    rw [hx] at this; cases this
  · rw [decide_eq_true]
    exact List.mem_map.2 ⟨k, (cats_mem x k).2 ⟨hk, hx⟩, rfl⟩
/-- rising lists with the same members are the same -/
theorem rising_ext : ∀ (a b : List Int), a.Pairwise (· < ·) → b.Pairwise (· < ·) → (∀ i, i ∈ a ↔ i ∈ b) → a = b
  | [], [], _, _, _ => rfl
  | [], j :: b, _, _, h => absurd ((h j).2 (by simp)) (by simp)
  | i :: a, [], _, _, h => absurd ((h i).1 (by simp)) (by simp)
  | i :: a, j :: b, ha, hb, h => by
    rw [List.pairwise_cons] at ha hb
    have e : i = j := by
      have h1 : i = j ∨ i ∈ b := by simpa using (h i).1 (by simp)
      have h2 : j = i ∨ j ∈ a := by simpa using (h j).2 (by simp)
      rcases h1 with h1 | h1
      · exact h1
      · rcases h2 with h2 | h2
        · exact h2.symm
        · have := ha.1 j h2; have := hb.1 i h1; omega
    subst e
    rw [rising_ext a b ha.2 hb.2 fun k => ?_]
    constructor
    · intro hk
      have := (h k).1 (by simp [hk])
      rcases (by simpa using this : k = i ∨ k ∈ b) with e | e
      · subst e; exact absurd (ha.1 k hk) (by omega)
      · exact e
    · intro hk
      have := (h k).2 (by simp [hk])
      rcases (by simpa using this : k = i ∨ k ∈ a) with e | e
      · subst e; exact absurd (hb.1 k hk) (by omega)
      · exact e
theorem cats_rising (x : BitVec 64) : ((cats x).map fun k : Nat => (k : Int)).Pairwise (· < ·) := by
  rw [List.pairwise_map]
  have h : (List.range 64).Pairwise (· < ·) := List.pairwise_lt_range
  have h2 : (cats x).Pairwise (· < ·) := h.sublist List.filter_sublist
  exact h2.imp fun h => by omega
/-- the list of a rising list's set is the list -/
theorem list_of (l : List Int) (hl : l.all ok = true) (hr : l.Pairwise (· < ·)) : ((cats (ofSet l)).map fun k : Nat => (k : Int)) = l := by
  refine rising_ext _ _ (cats_rising _) hr fun i => ?_
  have e : ofSet l = withAll 0#64 l := if_pos hl
  have z : has 0#64 i = false := by unfold has; simp
  have hm := has_withAll l hl 0#64 i
  rw [z, Bool.false_or] at hm
  constructor
  · intro h
    obtain ⟨k, hk, rfl⟩ := List.mem_map.1 h
    have := ((cats_mem _ k).1 hk).2
    rw [e, hm] at this
    simpa using this
  · intro h
    have hi := ok_iff.1 (List.all_eq_true.1 hl i h)
    refine List.mem_map.2 ⟨i.toNat, (cats_mem _ _).2 ⟨by omega, ?_⟩, by omega⟩
    have e2 : ((i.toNat : Nat) : Int) = i := by omega
    rw [e2, e, hm]
    simpa using h
end Go.Proofs.YtkmklmdhmfikmaaDoor
