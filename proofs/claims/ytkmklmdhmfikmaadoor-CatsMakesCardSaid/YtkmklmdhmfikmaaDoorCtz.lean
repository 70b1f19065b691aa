/-
  PLAIN LAWS: the least category of a set: what x & -x and x & (x-1) are; de Bruijn's table.
-/
import Derived.Test.YtkmklmdhmfikmaaDoorPop
namespace Go.Proofs.YtkmklmdhmfikmaaDoor
open Go.RowKit

theorem cats_mem (x : BitVec 64) (k : Nat) : k ∈ cats x ↔ k < 64 ∧ has x (k : Int) = true := by
  unfold cats; rw [List.mem_filter, List.mem_range]
/-- the least one: x is not empty -/
structure Low (x : BitVec 64) (k : Nat) : Prop where
  lt : k < 64
  has : has x (k : Int) = true
  least : ∀ j : Nat, j < k → Go.Proofs.YtkmklmdhmfikmaaDoor.has x (j : Int) = false
theorem filter_least (p : Nat → Bool) (k : Nat) (hp : p k = true) (hl : ∀ j, j < k → p j = false) : ∀ n, k < n → (List.range n).filter p = k :: (List.range n).filter fun j => p j && !decide (j = k)
  | 0, h => by omega
  | n + 1, h => by
    rw [List.range_succ, List.filter_append, List.filter_append]
    by_cases e : k = n
    · subst e
      have a : (List.range k).filter p = [] := List.filter_eq_nil_iff.2 fun j hj => by rw [hl j (List.mem_range.1 hj)]; simp
      have b : (List.range k).filter (fun j => p j && !decide (j = k)) = [] := List.filter_eq_nil_iff.2 fun j hj => by rw [hl j (List.mem_range.1 hj)]; simp
      rw [a, b]; simp [hp]
    · have ih := filter_least p k hp hl n (by omega)
      have hne : ¬ n = k := by omega
      rw [ih]
      simp [List.filter_cons, hne]
theorem exists_least (p : Nat → Bool) : ∀ n, (∃ k, k < n ∧ p k = true) → ∃ k, k < n ∧ p k = true ∧ ∀ j, j < k → p j = false
  | 0, ⟨k, h, _⟩ => by omega
  | n + 1, ⟨k, h, hk⟩ => by
    by_cases hex : ∃ k, k < n ∧ p k = true
    · obtain ⟨k, h1, h2, h3⟩ := exists_least p n hex
      exact ⟨k, by omega, h2, h3⟩
    · have e : k = n := by
        rcases Nat.lt_or_ge k n with h' | h'
        · exact absurd ⟨k, h', hk⟩ hex
        · omega
      subst e
      exact ⟨k, by omega, hk, fun j hj => by
        cases hpj : p j
        · rfl
        · exact absurd ⟨j, hj, hpj⟩ hex⟩
theorem low_of {x : BitVec 64} (h : x ≠ 0#64) : ∃ k, Low x k := by
  have hex : ∃ k, k < 64 ∧ has x ((k : Nat) : Int) = true := by
    refine Classical.byContradiction fun hn => h ?_
    refine has_ext fun k hk => ?_
    have z : has 0#64 (k : Int) = false := by unfold has; simp
    rw [z]
    cases hx : has x (k : Int)
    · rfl
    · exact absurd ⟨k, hk, hx⟩ hn
  obtain ⟨k, h1, h2, h3⟩ := exists_least (fun k : Nat => has x (k : Int)) 64 hex
  exact ⟨k, h1, h2, h3⟩
theorem Low.ne {x : BitVec 64} {k : Nat} (h : Low x k) : x ≠ 0#64 := by
  rintro rfl
  have := h.has
  unfold Go.Proofs.YtkmklmdhmfikmaaDoor.has at this
  simp at this
theorem Low.parts {x : BitVec 64} {k : Nat} (h : Low x k) : x.toNat = 2 ^ (k + 1) * (x.toNat / 2 ^ (k + 1)) + 2 ^ k := by
  have e : x.toNat % 2 ^ (k + 1) = 2 ^ k := by
    apply Nat.eq_of_testBit_eq
    intro j
    rw [Nat.testBit_mod_two_pow, Nat.testBit_two_pow]
    by_cases hj : j < k + 1
    · have hx : x.toNat.testBit j = Go.Proofs.YtkmklmdhmfikmaaDoor.has x (j : Int) := (has_nat x j (by have := h.lt; omega)).symm
      rw [decide_eq_true hj, Bool.true_and, hx]
      by_cases e : k = j
      · subst e; rw [h.has]; simp
      · rw [h.least j (by omega)]; simp [e]
    · have : ¬ k = j := by omega
      simp [hj, this]
  have := Nat.div_add_mod x.toNat (2 ^ (k + 1))
  omega
theorem Low.pred {x : BitVec 64} {k : Nat} (h : Low x k) (j : Nat) (hj : j < 64) : Go.Proofs.YtkmklmdhmfikmaaDoor.has (x - 1#64) (j : Int) = if j < k then true else if j = k then false else Go.Proofs.YtkmklmdhmfikmaaDoor.has x (j : Int) := by
  have hp := h.parts
  have hpos : 0 < 2 ^ k := Nat.pow_pos (by omega)
  have e1 : (x - 1#64).toNat = 2 ^ (k + 1) * (x.toNat / 2 ^ (k + 1)) + (2 ^ k - 1) := by
    have hlt := x.isLt
    rw [BitVec.toNat_sub]
    have : (1#64).toNat = 1 := rfl
    rw [this]
    omega
  have hle : 2 ^ k - 1 < 2 ^ (k + 1) := by rw [Nat.pow_succ]; omega
  have hle2 : 2 ^ k < 2 ^ (k + 1) := by rw [Nat.pow_succ]; omega
  rw [has_nat _ j hj, has_nat _ j hj, BitVec.getLsbD, BitVec.getLsbD, e1]
  have e2 : x.toNat.testBit j = if j < k + 1 then (2 ^ k).testBit j else (x.toNat / 2 ^ (k + 1)).testBit (j - (k + 1)) := by
    conv => lhs; rw [hp]
    rw [Nat.testBit_two_pow_mul_add _ hle2]
  rw [Nat.testBit_two_pow_mul_add _ hle, e2, Nat.testBit_two_pow_sub_one]
  by_cases h1 : j < k
  · have : j < k + 1 := by omega
    simp [h1, this]
  · by_cases h2 : j = k
    · subst h2; simp
    · have : ¬ j < k + 1 := by omega
      simp [h1, h2, this]
theorem Low.clear {x : BitVec 64} {k : Nat} (h : Low x k) : x &&& (x - 1#64) = x &&& ~~~bit (k : Int) := by
  refine has_ext fun j hj => ?_
  rw [has_and, h.pred j hj, has_not_bit _ _ _ (by omega) (by have := h.lt; omega)]
  by_cases h1 : j < k
  · rw [h.least j h1]; simp
  · by_cases h2 : j = k
    · subst h2; simp
    · have : ¬ ((j : Int) = (k : Int)) := by omega
      simp [h1, h2, this]
theorem Low.neg {x : BitVec 64} {k : Nat} (h : Low x k) : x &&& -x = bit (k : Int) := by
  have e : -x = ~~~(x - 1#64) := by
    rw [BitVec.neg_eq_not_add, BitVec.not_sub_one_eq_not_add_one]
  rw [e]
  refine has_ext fun j hj => ?_
  rw [has_less, h.pred j hj]
  have hb : Go.Proofs.YtkmklmdhmfikmaaDoor.has (bit (k : Int)) (j : Int) = decide (j = k) := by
    rw [has_nat _ j hj, bit_get _ _ hj]; simp
  rw [hb]
  by_cases h1 : j < k
  · have : ¬ j = k := by omega
    rw [h.least j h1]; simp [this]
  · by_cases h2 : j = k
    · subst h2; rw [h.has]; simp
    · simp [h1, h2]
theorem Low.cats {x : BitVec 64} {k : Nat} (h : Low x k) : cats x = k :: cats (x &&& (x - 1#64)) := by
  rw [h.clear]
  show (List.range 64).filter (fun j : Nat => Go.Proofs.YtkmklmdhmfikmaaDoor.has x (j : Int)) = k :: (List.range 64).filter fun j : Nat => Go.Proofs.YtkmklmdhmfikmaaDoor.has (x &&& ~~~bit (k : Int)) (j : Int)
  rw [filter_least (fun j : Nat => Go.Proofs.YtkmklmdhmfikmaaDoor.has x (j : Int)) k h.has h.least 64 h.lt]
  congr 1
  refine List.filter_congr fun j hj => ?_
  rw [has_not_bit _ _ _ (by omega) (by have := h.lt; omega)]
  have : ((j : Int) = (k : Int)) ↔ j = k := by omega
  simp [this]
theorem cats_zero : cats 0#64 = [] := by decide +kernel

/-- de Bruijn's table, and its index -/
def tab64 : List Int := [0, 1, 56, 2, 57, 49, 28, 3, 61, 58, 42, 50, 38, 29, 17, 4, 62, 47, 59, 36, 45, 43, 51, 22, 53, 39, 33, 30, 24, 18, 12, 5, 63, 55, 48, 27, 60, 41, 37, 16, 46, 35, 44, 21, 52, 32, 23, 11, 54, 26, 40, 15, 34, 20, 31, 10, 25, 14, 19, 9, 13, 8, 7, 6]
def db (k : Nat) : Nat := (2 ^ k * 285870213051353865 % 18446744073709551616) / 288230376151711744
theorem db_lt (k : Nat) : db k < 64 := by unfold db; omega
theorem tab_db (k : Nat) (h : k < 64) : tab64[db k]?.getD 0 = (k : Int) := by
  have : ∀ k : Fin 64, tab64[db k.1]?.getD 0 = (k.1 : Int) := by decide +kernel
  exact this ⟨k, h⟩
theorem u_bitk (k : Nat) (h : k < 64) : u (bit (k : Int)) = ((2 ^ k : Nat) : Int) := by
  unfold u bit
  rw [BitVec.toNat_shiftLeft, Nat.shiftLeft_eq]
  have : (2 : Nat) ^ k < 2 ^ 64 := Nat.pow_lt_pow_right (by omega) h
  rw [Int.toNat_natCast, show (1#64).toNat = 1 from rfl, Nat.one_mul, Nat.mod_eq_of_lt this]
theorem u_db (k : Nat) (h : k < 64) : IntKind.u64.wrap (u (bit (k : Int)) * 285870213051353865) / 288230376151711744 = (db k : Int) := by
  rw [u_bitk k h, IntKind.wrap_u64]; unfold db; omega
theorem u_neg (x : BitVec 64) : IntKind.u64.wrap (-u x) = u (-x) := by
  unfold u; rw [IntKind.wrap_u64, BitVec.toNat_neg]; have := x.isLt; omega
theorem u_pred (x : BitVec 64) : IntKind.u64.wrap (u x - 1) = u (x - 1#64) := u_sub x 1#64
end Go.Proofs.YtkmklmdhmfikmaaDoor
