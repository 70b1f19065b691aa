/-
  PLAIN LAWS ON SETS OF 64 BITS, no program in sight: a uint64 is the number 'u x' of a bit vector x; what the walk makes of Go's operations on it is said of x.
-/
import Derived.WalkKit
namespace Go.Proofs.YtbggaijjgnjknaaDoor

/-- The number that a uint64 holds. -/
def u (x : BitVec 64) : Int := (x.toNat : Int)
/-- One category. -/
def bit (i : Int) : BitVec 64 := 1#64 <<< i.toNat
/-- Is a category in a set? -/
def has (x : BitVec 64) (i : Int) : Bool := decide (0 ≤ i ∧ i < 64) && x.getLsbD i.toNat
/-- All of x are in y. -/
def sub (x y : BitVec 64) : Bool := x &&& ~~~y == 0#64

theorem u_nonneg (x : BitVec 64) : 0 ≤ u x := by unfold u; omega
theorem u_lt (x : BitVec 64) : u x < 18446744073709551616 := by have := x.isLt; unfold u; omega
theorem u_inj {x y : BitVec 64} (h : u x = u y) : x = y := BitVec.eq_of_toNat_eq (by unfold u at h; omega)
theorem u_of {n : Int} (h0 : 0 ≤ n) (h1 : n < 18446744073709551616) : ∃ x : BitVec 64, n = u x :=
  ⟨BitVec.ofNat 64 n.toNat, by unfold u; rw [BitVec.toNat_ofNat, Nat.mod_eq_of_lt (by omega)]; omega⟩
theorem u_of_wf {n : Int} (h : (Lit.int .u64 n).wf = true) : ∃ x : BitVec 64, n = u x := by
  have h' : 0 ≤ n ∧ n < 18446744073709551616 := by
    simp [Lit.wf, IntKind.min, IntKind.max, IntKind.signed, IntKind.bits] at h
    omega
  exact u_of h'.1 h'.2
theorem u_zero : u 0#64 = 0 := rfl

theorem u_and (x y : BitVec 64) : bits .and .u64 (u x) (u y) = u (x &&& y) := by
  unfold u; rw [bits_and_u64_nat _ _ x.isLt y.isLt, BitVec.toNat_and]
theorem u_or (x y : BitVec 64) : bits .or .u64 (u x) (u y) = u (x ||| y) := by
  unfold u; rw [bits_or_u64_nat _ _ x.isLt y.isLt, BitVec.toNat_or]
theorem u_andNot (x y : BitVec 64) : bits .andNot .u64 (u x) (u y) = u (x &&& ~~~y) := by
  unfold u
  have hx : (BitVec.ofInt 64 (x.toNat : Int)) = x := by rw [BitVec.ofInt_natCast, BitVec.ofNat_toNat, BitVec.setWidth_eq]
  have hy : (BitVec.ofInt 64 (y.toNat : Int)) = y := by rw [BitVec.ofInt_natCast, BitVec.ofNat_toNat, BitVec.setWidth_eq]
  show IntKind.u64.wrap ((BitVec.ofInt 64 (x.toNat : Int) &&& ~~~BitVec.ofInt 64 (y.toNat : Int)).toNat : Int) = _
  rw [hx, hy, IntKind.wrap_u64]
  have := (x &&& ~~~y).isLt
  omega
theorem u_add (x y : BitVec 64) : IntKind.u64.wrap (u x + u y) = u (x + y) := by
  unfold u; rw [IntKind.wrap_u64, BitVec.toNat_add]; omega
theorem u_sub (x y : BitVec 64) : IntKind.u64.wrap (u x - u y) = u (x - y) := by
  unfold u; rw [IntKind.wrap_u64, BitVec.toNat_sub]; have := x.isLt; have := y.isLt; omega
theorem u_bit (i : Int) : IntKind.u64.wrap (2 ^ i.toNat) = u (bit i) := by
  unfold u bit
  rw [IntKind.wrap_u64, BitVec.toNat_shiftLeft, Nat.shiftLeft_eq]
  simp

theorem bit_get (i : Int) (k : Nat) (hk : k < 64) : (bit i).getLsbD k = decide (k = i.toNat) := by
  unfold bit
  rw [BitVec.getLsbD_shiftLeft]
  by_cases e : k = i.toNat
  · subst e; simp [hk]
  · by_cases h2 : k < i.toNat
    · simp [hk, h2, e]
    · have : ¬ (k - i.toNat = 0) := by omega
      simp [hk, e, h2, this]

theorem u_has (x : BitVec 64) (i : Int) (h0 : 0 ≤ i) (h1 : i < 64) : ((u x / 2 ^ i.toNat).tmod 2 == 1) = has x i := by
  have e : x.getLsbD i.toNat = decide (x.toNat / 2 ^ i.toNat % 2 = 1) := by
    rw [BitVec.getLsbD, Nat.testBit_eq_decide_div_mod_eq]
  unfold has
  rw [decide_eq_true ⟨h0, h1⟩, Bool.true_and, e]
  have e2 : (u x / 2 ^ i.toNat).tmod 2 = ((x.toNat / 2 ^ i.toNat % 2 : Nat) : Int) := by
    unfold u
    rw [Int.tmod_eq_emod_of_nonneg (Int.ediv_nonneg (by omega) (by exact Int.le_of_lt (Int.pow_pos (by omega))))]
    simp
  rw [e2]
  by_cases h : x.toNat / 2 ^ i.toNat % 2 = 1
  · simp [h]
  · have : x.toNat / 2 ^ i.toNat % 2 = 0 := by omega
    simp [this]

theorem has_out (x : BitVec 64) (i : Int) (h : i < 0 ∨ 64 ≤ i) : has x i = false := by
  unfold has; rw [decide_eq_false (by omega)]; rfl
theorem has_in (x : BitVec 64) (i : Int) (h0 : 0 ≤ i) (h1 : i < 64) : has x i = x.getLsbD i.toNat := by
  unfold has; rw [decide_eq_true ⟨h0, h1⟩, Bool.true_and]
theorem has_nat (x : BitVec 64) (k : Nat) (h1 : k < 64) : has x (k : Int) = x.getLsbD k := by
  rw [has_in x k (by omega) (by omega)]; rfl

theorem and_bit (x : BitVec 64) (i : Int) (h0 : 0 ≤ i) (h1 : i < 64) : (u (x &&& bit i) != 0) = has x i := by
  rw [has_in x i h0 h1]
  cases h : x.getLsbD i.toNat
  · have : x &&& bit i = 0#64 := by
      apply BitVec.eq_of_getLsbD_eq
      intro k hk
      rw [BitVec.getLsbD_and, bit_get i k hk]
      by_cases e : k = i.toNat
      · subst e; simp [h]
      · simp [e]
    rw [this]; rfl
  · have hne : x &&& bit i ≠ 0#64 := by
      intro e
      have := congrArg (fun z => z.getLsbD i.toNat) e
      simp only [BitVec.getLsbD_and, bit_get i i.toNat (by omega), h] at this
      simp at this
    have : u (x &&& bit i) ≠ 0 := fun e => hne (u_inj (by rw [e]; rfl))
    simpa using this

theorem add_bit (x : BitVec 64) (i : Int) (h0 : 0 ≤ i) (h1 : i < 64) (h : has x i = false) : x + bit i = x ||| bit i := by
  rw [has_in x i h0 h1] at h
  apply BitVec.add_eq_or_of_and_eq_zero
  apply BitVec.eq_of_getLsbD_eq
  intro k hk
  rw [BitVec.getLsbD_and, bit_get i k hk]
  by_cases e : k = i.toNat
  · subst e; simp [h]
  · simp [e]
theorem or_bit (x : BitVec 64) (i : Int) (h0 : 0 ≤ i) (h1 : i < 64) (h : has x i = true) : x ||| bit i = x := by
  rw [has_in x i h0 h1] at h
  apply BitVec.eq_of_getLsbD_eq
  intro k hk
  rw [BitVec.getLsbD_or, bit_get i k hk]
  by_cases e : k = i.toNat
  · subst e; simp [h]
  · simp [e]
theorem not_bit (x : BitVec 64) (i : Int) (h0 : 0 ≤ i) (h1 : i < 64) (h : has x i = false) : x &&& ~~~bit i = x := by
  rw [has_in x i h0 h1] at h
  apply BitVec.eq_of_getLsbD_eq
  intro k hk
  rw [BitVec.getLsbD_and, BitVec.getLsbD_not, bit_get i k hk]
  by_cases e : k = i.toNat
  · subst e; simp [h]
  · simp [e, hk]
theorem sub_bit (x : BitVec 64) (i : Int) (h0 : 0 ≤ i) (h1 : i < 64) (h : has x i = true) : x - bit i = x &&& ~~~bit i := by
  have h' := h
  rw [has_in x i h0 h1] at h'
  have e : x = (x &&& ~~~bit i) + bit i := by
    rw [add_bit _ i h0 h1]
    · apply BitVec.eq_of_getLsbD_eq
      intro k hk
      rw [BitVec.getLsbD_or, BitVec.getLsbD_and, BitVec.getLsbD_not, bit_get i k hk]
      by_cases e : k = i.toNat
      · subst e; simp [h']
      · simp [e, hk]
    · rw [has_in _ i h0 h1, BitVec.getLsbD_and, BitVec.getLsbD_not, bit_get i _ (by omega)]
      simp
  calc x - bit i = ((x &&& ~~~bit i) + bit i) - bit i := by rw [← e]
    _ = _ := BitVec.add_sub_cancel _ _

theorem has_or_bit (x : BitVec 64) (i k : Int) (h0 : 0 ≤ i) (h1 : i < 64) : has (x ||| bit i) k = (has x k || decide (k = i)) := by
  by_cases hk : 0 ≤ k ∧ k < 64
  · rw [has_in _ k hk.1 hk.2, has_in _ k hk.1 hk.2, BitVec.getLsbD_or, bit_get i _ (by omega)]
    have : (k.toNat = i.toNat) ↔ k = i := by omega
    simp [this]
  · rw [has_out _ k (by omega), has_out _ k (by omega)]
    have : ¬ k = i := by omega
    simp [this]
theorem has_not_bit (x : BitVec 64) (i k : Int) (h0 : 0 ≤ i) (h1 : i < 64) : has (x &&& ~~~bit i) k = (has x k && !decide (k = i)) := by
  by_cases hk : 0 ≤ k ∧ k < 64
  · rw [has_in _ k hk.1 hk.2, has_in _ k hk.1 hk.2, BitVec.getLsbD_and, BitVec.getLsbD_not, bit_get i _ (by omega)]
    have : (k.toNat = i.toNat) ↔ k = i := by omega
    have h3 : k.toNat < 64 := by omega
    simp [this, h3]
  · rw [has_out _ k (by omega), has_out _ k (by omega)]
    rfl
theorem has_and (x y : BitVec 64) (k : Int) : has (x &&& y) k = (has x k && has y k) := by
  unfold has; rw [BitVec.getLsbD_and]; cases decide (0 ≤ k ∧ k < 64) <;> simp
theorem has_or (x y : BitVec 64) (k : Int) : has (x ||| y) k = (has x k || has y k) := by
  unfold has; rw [BitVec.getLsbD_or]; cases decide (0 ≤ k ∧ k < 64) <;> simp
theorem has_less (x y : BitVec 64) (k : Int) : has (x &&& ~~~y) k = (has x k && !has y k) := by
  by_cases hk : 0 ≤ k ∧ k < 64
  · rw [has_in _ k hk.1 hk.2, has_in _ k hk.1 hk.2, has_in _ k hk.1 hk.2, BitVec.getLsbD_and, BitVec.getLsbD_not]
    have h3 : k.toNat < 64 := by omega
    simp [h3]
  · rw [has_out _ k (by omega), has_out _ k (by omega)]; rfl
theorem has_ext {x y : BitVec 64} (h : ∀ k : Nat, k < 64 → has x (k : Int) = has y (k : Int)) : x = y := by
  apply BitVec.eq_of_getLsbD_eq
  intro k hk
  have := h k hk
  rwa [has_nat x k hk, has_nat y k hk] at this
theorem sub_iff {x y : BitVec 64} : sub x y = true ↔ ∀ k : Nat, k < 64 → has x (k : Int) = true → has y (k : Int) = true := by
  unfold sub
  rw [beq_iff_eq]
  constructor
  · intro h k _ hx
    have := has_less x y (k : Int)
    rw [h, hx] at this
    have z : has 0#64 (k : Int) = false := by unfold has; simp
    rw [z] at this
    simpa using this.symm
  · intro h
    refine has_ext fun k hk => ?_
    have z : has 0#64 (k : Int) = false := by unfold has; simp
    rw [has_less, z]
    cases hx : has x (k : Int)
    · rfl
    · rw [h k hk hx]; rfl
theorem u_eq_zero (x : BitVec 64) : (u x == 0) = (x == 0#64) := by
  by_cases h : x = 0#64
  · subst h; rfl
  · have : u x ≠ 0 := fun e => h (u_inj (by rw [e]; rfl))
    rw [beq_eq_false_iff_ne.2 this, beq_eq_false_iff_ne.2 h]
theorem u_beq (x y : BitVec 64) : (u x == u y) = (x == y) := by
  by_cases h : x = y
  · subst h; simp
  · have : u x ≠ u y := fun e => h (u_inj e)
    rw [beq_eq_false_iff_ne.2 this, beq_eq_false_iff_ne.2 h]
end Go.Proofs.YtbggaijjgnjknaaDoor
