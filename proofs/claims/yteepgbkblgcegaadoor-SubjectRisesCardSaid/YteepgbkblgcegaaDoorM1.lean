/-
  PLAIN LAWS ON SETS OF 64 BITS, no program in sight: a uint64 is the number 'u x' of a bit vector x; what the walk makes of Go's operations on it is said of x.
  PLAIN LAWS ON LABELS, no program in sight.
  THE WALKS OF PACKAGE label, part one: the checks.
  THE WALKS OF PACKAGE label, part two: makers.
  errors.As BY ITS CONTRACTS at label's own error: Go's own text is walked; the library's entries by closed facts.
  errors.As at label's own error, and label.told.
  THE WALKS OF PACKAGE label, part three: Join, Meet.
  WORDS FOR MEMORY that the printed walks use: a block known whole, what lay before the call, an operation of a region written out; no program in sight.
  A SLICE OF LABELS IN MEMORY, no program in sight.
  THE WALKS OF PACKAGE ceiling, part one: areRight.
  errors.As BY ITS CONTRACT at ceiling's own error (printed by wip/genas.py).
  THE WALKS OF PACKAGE ceiling, part two: errors.Is, errors.As at what stops one; told.
  HOW A STATEMENT'S ROW IS CLOSED, whatever its parameters: the call answers true and what lay before it lies as it lay.
  WHAT THE LISTED VARIABLES AND THE ARGUMENTS GIVE THE WALKS ON CEILINGS.
  SLICES OF LABELS THAT CAME IN: the cells of a label, element by element.
  PLAIN LAWS of the statements on labels.
  A RANGE OVER A FUNCTION WHOSE ITERATOR WRITES CELLS OF ITS OWN BETWEEN TWO ROUNDS, no program in sight: which blocks the iterator may turn (T) and which the loop's body may turn (U) are said by sets of block numbers.
  SOME CELLS OF A ROW IN MEMORY, read and never written; no program in sight.
  append ONTO A ROW OF THE CALL's OWN, FROM A SLICE THAT IS nil OR NOT; no program in sight.
  A SLICE WHOSE ELEMENTS HAVE s CELLS EACH, whatever they are; no program in sight.
  SUBJECTS, plain: what is a table, who is alive; the cells of one.
  THE WALKS OF PACKAGE ceiling, part three: floater.to, Float (printed by wip/genceil.py).
-/
import Derived.WalkKit
import Derived.Test.YteepgbkblgcegaaDoorProg
import Derived.Handy
import Derived.WalkSpells
import Derived.WalkLawsBesides
import Derived.WalkSmall
import Derived.Lib.Hide
import Derived.Laws.EntriesVeiled
import Derived.StillTailTactics
import Derived.Deep.RegionHeld3
import Derived.Deep.RegionWith
import Derived.LaidEql
import Derived.Stop.Asserts
import Derived.RowKitTokens
import Derived.Maps.AppendAt
import Derived.Deep.DeepCutAuto
import Derived.Below
import Derived.Laws.OwnMore
import Derived.Laws.Rows
import Derived.Deep.RegionHeld
import Derived.LoopN
import Derived.WalkMore
import Derived.Test.YteepgbkblgcegaaDoorRows
import Derived.ProofKit
import Derived.LaidMore
import Derived.OpenShut
import Derived.Stop.Joined
import Derived.Stop.LaidErr
import Derived.Lib.LaidTab
import Derived.WideKeyArgs
import Derived.SevenTiedAt
import Derived.Lib.SmallJoins
import Derived.LaidHandle
import Derived.Deep.Slices
import Derived.Deep.Fields
import Derived.ChangeSame
import Derived.RangeFuncNested
import Derived.RangeFuncBound
import Derived.Deep.AppendLies
import Derived.RegionTactic
import Derived.OwnWalk
import Derived.OwnWalkIn
namespace Go.Proofs.YteepgbkblgcegaaDoor

section

/-- The number that a uint64 holds. -/
def u (x : BitVec 64) : Int := (x.toNat : Int)
/-- One category. -/
def bit (i : Int) : BitVec 64 := 1#64 <<< i.toNat
/-- Is a category in a set? -/
def has (x : BitVec 64) (i : Int) : Bool := decide (0 ≤ i ∧ i < 64) && x.getLsbD i.toNat
/-- All of x are in y. -/
def sub (x y : BitVec 64) : Bool := x &&& ~~~y == 0#64

theorem u_nonneg (x : BitVec 64) : 0 ≤ u x := by unfold u; omega
theorem u_lt (x : BitVec 64) : u x < 18446744073709551616 := by have := x.isLt; unfold u; omega
theorem u_inj {x y : BitVec 64} (h : u x = u y) : x = y := BitVec.eq_of_toNat_eq (by unfold u at h; omega)
theorem u_of {n : Int} (h0 : 0 ≤ n) (h1 : n < 18446744073709551616) : ∃ x : BitVec 64, n = u x :=
  ⟨BitVec.ofNat 64 n.toNat, by unfold u; rw [BitVec.toNat_ofNat, Nat.mod_eq_of_lt (by omega)]; omega⟩
theorem u_of_wf {n : Int} (h : (Lit.int .u64 n).wf = true) : ∃ x : BitVec 64, n = u x := by
  have h' : 0 ≤ n ∧ n < 18446744073709551616 := by
    simp [Lit.wf, IntKind.min, IntKind.max, IntKind.signed, IntKind.bits] at h
    omega
  exact u_of h'.1 h'.2
theorem u_zero : u 0#64 = 0 := rfl

theorem u_and (x y : BitVec 64) : bits .and .u64 (u x) (u y) = u (x &&& y) := by
  unfold u; rw [bits_and_u64_nat _ _ x.isLt y.isLt, BitVec.toNat_and]
theorem u_or (x y : BitVec 64) : bits .or .u64 (u x) (u y) = u (x ||| y) := by
  unfold u; rw [bits_or_u64_nat _ _ x.isLt y.isLt, BitVec.toNat_or]
theorem u_andNot (x y : BitVec 64) : bits .andNot .u64 (u x) (u y) = u (x &&& ~~~y) := by
  unfold u
  have hx : (BitVec.ofInt 64 (x.toNat : Int)) = x := by rw [BitVec.ofInt_natCast, BitVec.ofNat_toNat, BitVec.setWidth_eq]
  have hy : (BitVec.ofInt 64 (y.toNat : Int)) = y := by rw [BitVec.ofInt_natCast, BitVec.ofNat_toNat, BitVec.setWidth_eq]
  show IntKind.u64.wrap ((BitVec.ofInt 64 (x.toNat : Int) &&& ~~~BitVec.ofInt 64 (y.toNat : Int)).toNat : Int) = _
  rw [hx, hy, IntKind.wrap_u64]
  have := (x &&& ~~~y).isLt
  omega
theorem u_add (x y : BitVec 64) : IntKind.u64.wrap (u x + u y) = u (x + y) := by
  unfold u; rw [IntKind.wrap_u64, BitVec.toNat_add]; omega
theorem u_sub (x y : BitVec 64) : IntKind.u64.wrap (u x - u y) = u (x - y) := by
  unfold u; rw [IntKind.wrap_u64, BitVec.toNat_sub]; have := x.isLt; have := y.isLt; omega
theorem u_bit (i : Int) : IntKind.u64.wrap (2 ^ i.toNat) = u (bit i) := by
  unfold u bit
  rw [IntKind.wrap_u64, BitVec.toNat_shiftLeft, Nat.shiftLeft_eq]
  simp

theorem bit_get (i : Int) (k : Nat) (hk : k < 64) : (bit i).getLsbD k = decide (k = i.toNat) := by
  unfold bit
  rw [BitVec.getLsbD_shiftLeft]
  by_cases e : k = i.toNat
  · subst e; simp [hk]
  · by_cases h2 : k < i.toNat
    · simp [hk, h2, e]
    · have : ¬ (k - i.toNat = 0) := by omega
      simp [hk, e, h2, this]

theorem u_has (x : BitVec 64) (i : Int) (h0 : 0 ≤ i) (h1 : i < 64) : ((u x / 2 ^ i.toNat).tmod 2 == 1) = has x i := by
  have e : x.getLsbD i.toNat = decide (x.toNat / 2 ^ i.toNat % 2 = 1) := by
    rw [BitVec.getLsbD, Nat.testBit_eq_decide_div_mod_eq]
  unfold has
  rw [decide_eq_true ⟨h0, h1⟩, Bool.true_and, e]
  have e2 : (u x / 2 ^ i.toNat).tmod 2 = ((x.toNat / 2 ^ i.toNat % 2 : Nat) : Int) := by
    unfold u
    rw [Int.tmod_eq_emod_of_nonneg (Int.ediv_nonneg (by omega) (by exact Int.le_of_lt (Int.pow_pos (by omega))))]
    simp
  rw [e2]
  by_cases h : x.toNat / 2 ^ i.toNat % 2 = 1
  · simp [h]
  · have : x.toNat / 2 ^ i.toNat % 2 = 0 := by omega
    simp [this]

theorem has_out (x : BitVec 64) (i : Int) (h : i < 0 ∨ 64 ≤ i) : has x i = false := by
  unfold has; rw [decide_eq_false (by omega)]; rfl
theorem has_in (x : BitVec 64) (i : Int) (h0 : 0 ≤ i) (h1 : i < 64) : has x i = x.getLsbD i.toNat := by
  unfold has; rw [decide_eq_true ⟨h0, h1⟩, Bool.true_and]
theorem has_nat (x : BitVec 64) (k : Nat) (h1 : k < 64) : has x (k : Int) = x.getLsbD k := by
  rw [has_in x k (by omega) (by omega)]; rfl

theorem and_bit (x : BitVec 64) (i : Int) (h0 : 0 ≤ i) (h1 : i < 64) : (u (x &&& bit i) != 0) = has x i := by
  rw [has_in x i h0 h1]
  cases h : x.getLsbD i.toNat
  · have : x &&& bit i = 0#64 := by
      apply BitVec.eq_of_getLsbD_eq
      intro k hk
      rw [BitVec.getLsbD_and, bit_get i k hk]
      by_cases e : k = i.toNat
      · subst e; simp [h]
      · simp [e]
    rw [this]; rfl
  · have hne : x &&& bit i ≠ 0#64 := by
      intro e
      have := congrArg (fun z => z.getLsbD i.toNat) e
      simp only [BitVec.getLsbD_and, bit_get i i.toNat (by omega), h] at this
      simp at this
    have : u (x &&& bit i) ≠ 0 := fun e => hne (u_inj (by rw [e]; rfl))
    simpa using this

theorem add_bit (x : BitVec 64) (i : Int) (h0 : 0 ≤ i) (h1 : i < 64) (h : has x i = false) : x + bit i = x ||| bit i := by
  rw [has_in x i h0 h1] at h
  apply BitVec.add_eq_or_of_and_eq_zero
  apply BitVec.eq_of_getLsbD_eq
  intro k hk
  rw [BitVec.getLsbD_and, bit_get i k hk]
  by_cases e : k = i.toNat
  · subst e; simp [h]
  · simp [e]
theorem or_bit (x : BitVec 64) (i : Int) (h0 : 0 ≤ i) (h1 : i < 64) (h : has x i = true) : x ||| bit i = x := by
  rw [has_in x i h0 h1] at h
  apply BitVec.eq_of_getLsbD_eq
  intro k hk
  rw [BitVec.getLsbD_or, bit_get i k hk]
  by_cases e : k = i.toNat
  · subst e; simp [h]
  · simp [e]
theorem not_bit (x : BitVec 64) (i : Int) (h0 : 0 ≤ i) (h1 : i < 64) (h : has x i = false) : x &&& ~~~bit i = x := by
  rw [has_in x i h0 h1] at h
  apply BitVec.eq_of_getLsbD_eq
  intro k hk
  rw [BitVec.getLsbD_and, BitVec.getLsbD_not, bit_get i k hk]
  by_cases e : k = i.toNat
  · subst e; simp [h]
  · simp [e, hk]
theorem sub_bit (x : BitVec 64) (i : Int) (h0 : 0 ≤ i) (h1 : i < 64) (h : has x i = true) : x - bit i = x &&& ~~~bit i := by
  have h' := h
  rw [has_in x i h0 h1] at h'
  have e : x = (x &&& ~~~bit i) + bit i := by
    rw [add_bit _ i h0 h1]
    · apply BitVec.eq_of_getLsbD_eq
      intro k hk
      rw [BitVec.getLsbD_or, BitVec.getLsbD_and, BitVec.getLsbD_not, bit_get i k hk]
      by_cases e : k = i.toNat
      · subst e; simp [h']
      · simp [e, hk]
    · rw [has_in _ i h0 h1, BitVec.getLsbD_and, BitVec.getLsbD_not, bit_get i _ (by omega)]
      simp
  calc x - bit i = ((x &&& ~~~bit i) + bit i) - bit i := by rw [← e]
    _ = _ := BitVec.add_sub_cancel _ _

theorem has_or_bit (x : BitVec 64) (i k : Int) (h0 : 0 ≤ i) (h1 : i < 64) : has (x ||| bit i) k = (has x k || decide (k = i)) := by
  by_cases hk : 0 ≤ k ∧ k < 64
  · rw [has_in _ k hk.1 hk.2, has_in _ k hk.1 hk.2, BitVec.getLsbD_or, bit_get i _ (by omega)]
    have : (k.toNat = i.toNat) ↔ k = i := by omega
    simp [this]
  · rw [has_out _ k (by omega), has_out _ k (by omega)]
    have : ¬ k = i := by omega
    simp [this]
theorem has_not_bit (x : BitVec 64) (i k : Int) (h0 : 0 ≤ i) (h1 : i < 64) : has (x &&& ~~~bit i) k = (has x k && !decide (k = i)) := by
  by_cases hk : 0 ≤ k ∧ k < 64
  · rw [has_in _ k hk.1 hk.2, has_in _ k hk.1 hk.2, BitVec.getLsbD_and, BitVec.getLsbD_not, bit_get i _ (by omega)]
    have : (k.toNat = i.toNat) ↔ k = i := by omega
    have h3 : k.toNat < 64 := by omega
    simp [this, h3]
  · rw [has_out _ k (by omega), has_out _ k (by omega)]
    rfl
theorem has_and (x y : BitVec 64) (k : Int) : has (x &&& y) k = (has x k && has y k) := by
  unfold has; rw [BitVec.getLsbD_and]; cases decide (0 ≤ k ∧ k < 64) <;> simp
theorem has_or (x y : BitVec 64) (k : Int) : has (x ||| y) k = (has x k || has y k) := by
  unfold has; rw [BitVec.getLsbD_or]; cases decide (0 ≤ k ∧ k < 64) <;> simp
theorem has_less (x y : BitVec 64) (k : Int) : has (x &&& ~~~y) k = (has x k && !has y k) := by
  by_cases hk : 0 ≤ k ∧ k < 64
  · rw [has_in _ k hk.1 hk.2, has_in _ k hk.1 hk.2, has_in _ k hk.1 hk.2, BitVec.getLsbD_and, BitVec.getLsbD_not]
    have h3 : k.toNat < 64 := by omega
    simp [h3]
  · rw [has_out _ k (by omega), has_out _ k (by omega)]; rfl
theorem has_ext {x y : BitVec 64} (h : ∀ k : Nat, k < 64 → has x (k : Int) = has y (k : Int)) : x = y := by
  apply BitVec.eq_of_getLsbD_eq
  intro k hk
  have := h k hk
  rwa [has_nat x k hk, has_nat y k hk] at this
theorem sub_iff {x y : BitVec 64} : sub x y = true ↔ ∀ k : Nat, k < 64 → has x (k : Int) = true → has y (k : Int) = true := by
  unfold sub
  rw [beq_iff_eq]
  constructor
  · intro h k _ hx
    have := has_less x y (k : Int)
    rw [h, hx] at this
    have z : has 0#64 (k : Int) = false := by unfold has; simp
    rw [z] at this
    simpa using this.symm
  · intro h
    refine has_ext fun k hk => ?_
    have z : has 0#64 (k : Int) = false := by unfold has; simp
    rw [has_less, z]
    cases hx : has x (k : Int)
    · rfl
    · rw [h k hk hx]; rfl
theorem u_eq_zero (x : BitVec 64) : (u x == 0) = (x == 0#64) := by
  by_cases h : x = 0#64
  · subst h; rfl
  · have : u x ≠ 0 := fun e => h (u_inj (by rw [e]; rfl))
    rw [beq_eq_false_iff_ne.2 this, beq_eq_false_iff_ne.2 h]
theorem u_beq (x y : BitVec 64) : (u x == u y) = (x == y) := by
  by_cases h : x = y
  · subst h; simp
  · have : u x ≠ u y := fun e => h (u_inj e)
    rw [beq_eq_false_iff_ne.2 this, beq_eq_false_iff_ne.2 h]
end

section

/-- what a label's three cells hold -/
structure Lab where
  lv : Int
  c : BitVec 64
  ig : Int
theorem Lab.ext' {a b : Lab} (h1 : a.lv = b.lv) (h2 : a.c = b.c) (h3 : a.ig = b.ig) : a = b := by
  cases a; cases b; simp_all
/-- is it a label? -/
def okL (a : Lab) : Bool := decide (0 ≤ a.lv ∧ a.lv ≤ 15 ∧ 0 ≤ a.ig ∧ a.ig ≤ 7)
theorem okL_iff {a : Lab} : okL a = true ↔ 0 ≤ a.lv ∧ a.lv ≤ 15 ∧ 0 ≤ a.ig ∧ a.ig ≤ 7 := by unfold okL; simp
theorem okL_no {a : Lab} (h : ¬ (0 ≤ a.lv ∧ a.lv ≤ 15 ∧ 0 ≤ a.ig ∧ a.ig ≤ 7)) : okL a = false := by
  rw [← Bool.not_eq_true, okL_iff]; exact h
/-- the same? -/
def eqL (a b : Lab) : Bool := decide (a.lv = b.lv) && (a.c == b.c) && decide (a.ig = b.ig)
theorem eqL_iff {a b : Lab} : eqL a b = true ↔ a = b := by
  unfold eqL
  constructor
  · intro h
    simp only [Bool.and_eq_true, decide_eq_true_eq, beq_iff_eq] at h
    exact Lab.ext' h.1.1 h.1.2 h.2
  · rintro rfl; simp
theorem eqL_self (a : Lab) : eqL a a = true := eqL_iff.2 rfl
/-- is the one below the other, both being labels? -/
def le3 (a b : Lab) : Bool := decide (a.lv ≤ b.lv) && decide (b.ig ≤ a.ig) && sub a.c b.c
def underL (a b : Lab) : Bool := okL a && okL b && le3 a b
def joinL (a b : Lab) : Lab := ⟨max a.lv b.lv, a.c ||| b.c, min a.ig b.ig⟩
def meetL (a b : Lab) : Lab := ⟨min a.lv b.lv, a.c &&& b.c, max a.ig b.ig⟩
def zeroL : Lab := ⟨0, 0#64, 0⟩
def botL : Lab := ⟨0, 0#64, 7⟩
def topL : Lab := ⟨15, BitVec.allOnes 64, 0⟩
theorem sub_self (x : BitVec 64) : sub x x = true := by rw [sub_iff]; exact fun _ _ h => h
theorem le3_self (a : Lab) : le3 a a = true := by unfold le3; rw [sub_self]; simp
end

section
open Go.RowKit

attribute [local go_sem] u_and u_or u_andNot u_add u_sub u_bit u_eq_zero u_beq

theorem ret_eq {v v' : Value} (h : v = v') : Ending.returned v = Ending.returned v' := by rw [h]
theorem bool_eq {a b : Bool} (h : a = b) : Value.bool a = Value.bool b := by rw [h]
theorem int_eq {k : IntKind} {a b : Int} (h : a = b) : Value.int k a = Value.int k b := by rw [h]

theorem Right_any (a : Lab) (w : World) :
    Calls Tryd.prog 58 #[.agg #[.int .i64 a.lv, .int .u64 (u a.c), .int .i64 a.ig]] w fun e w' => e = .returned (.bool (okL a)) ∧ Below w.heap.size w w' := by
  by_cases h1 : 0 ≤ a.lv
  · by_cases h2 : a.lv ≤ 15
    · by_cases h3 : 0 ≤ a.ig
      · by_cases h4 : a.ig ≤ 7
        · have HK := Lib.hid (okL_iff.2 ⟨h1, h2, h3, h4⟩)
          go_enter Tryd.func58, Tryd.ntmps58
          go_wp2
          go_ret
          rw [HK.out]
          exact ⟨rfl, (Below.refl _ _).alloc (Nat.le_refl _) _⟩
        · have HK := Lib.hid (okL_no (a := a) (by omega))
          go_enter Tryd.func58, Tryd.ntmps58
          go_wp2
          go_ret
          rw [HK.out]
          exact ⟨rfl, (Below.refl _ _).alloc (Nat.le_refl _) _⟩
      · have HK := Lib.hid (okL_no (a := a) (by omega))
        go_enter Tryd.func58, Tryd.ntmps58
        go_wp2
        go_ret
        rw [HK.out]
        exact ⟨rfl, (Below.refl _ _).alloc (Nat.le_refl _) _⟩
    · have HK := Lib.hid (okL_no (a := a) (by omega))
      go_enter Tryd.func58, Tryd.ntmps58
      go_wp2
      go_ret
      rw [HK.out]
      exact ⟨rfl, (Below.refl _ _).alloc (Nat.le_refl _) _⟩
  · have HK := Lib.hid (okL_no (a := a) (by omega))
    go_enter Tryd.func58, Tryd.ntmps58
    go_wp2
    go_ret
    rw [HK.out]
    exact ⟨rfl, (Below.refl _ _).alloc (Nat.le_refl _) _⟩
theorem sub_any (x y : BitVec 64) (w : World) :
    Calls Tryd.prog 59 #[.int .u64 (u x), .int .u64 (u y)] w fun e w' => e = .returned (.bool (sub x y)) ∧ w = w' := by
  go_enter Tryd.func59, Tryd.ntmps59
  go_wp2
  go_ret
  exact ⟨rfl, rfl⟩
theorem less_any (x y : BitVec 64) (w : World) :
    Calls Tryd.prog 49 #[.int .u64 (u x), .int .u64 (u y)] w fun e w' => e = .returned (.int .u64 (u (x &&& ~~~y))) ∧ w = w' := by
  go_enter Tryd.func49, Tryd.ntmps49
  go_wp2
  go_ret
  exact ⟨rfl, rfl⟩
theorem isUnder_any (a b : Lab) (w : World) :
    Calls Tryd.prog 46 #[.agg #[.int .i64 a.lv, .int .u64 (u a.c), .int .i64 a.ig, .int .i64 b.lv, .int .u64 (u b.c), .int .i64 b.ig]] w fun e w' => e = .returned (.bool (le3 a b)) ∧ Below w.heap.size w w' := by
  by_cases h1 : a.lv ≤ b.lv
  · by_cases h2 : b.ig ≤ a.ig
    · have HK : Hid (le3 a b = sub a.c b.c) := by show le3 a b = _; unfold le3; rw [decide_eq_true h1, decide_eq_true h2]; rfl
      go_enter Tryd.func46, Tryd.ntmps46
      go_wp2_with (go_at_call 59; refine (sub_any _ _ _).mono ?_; rintro e w' ⟨rfl, rfl⟩)
      go_ret
      rw [HK.out]
      exact ⟨rfl, (Below.refl _ _).alloc (Nat.le_refl _) _⟩
    · have HK : Hid (le3 a b = false) := by show le3 a b = _; unfold le3; rw [decide_eq_false h2]; simp
      go_enter Tryd.func46, Tryd.ntmps46
      go_wp2
      go_ret
      rw [HK.out]
      exact ⟨rfl, (Below.refl _ _).alloc (Nat.le_refl _) _⟩
  · have HK : Hid (le3 a b = false) := by show le3 a b = _; unfold le3; rw [decide_eq_false h1]; simp
    go_enter Tryd.func46, Tryd.ntmps46
    go_wp2
    go_ret
    rw [HK.out]
    exact ⟨rfl, (Below.refl _ _).alloc (Nat.le_refl _) _⟩

theorem below_lift {w w1 w2 : World} (h : Below w.heap.size w w1) (k : Below w1.heap.size w1 w2) : Below w.heap.size w w2 := h.trans (k.mono h.size)
theorem below_cell {w w1 : World} (hb : Below w.heap.size w w1) : (∀ b o, b < w.heap.size → w1.cell? ⟨b, o, none⟩ = w.cell? ⟨b, o, none⟩) ∧ (∀ b o, b < w.heap.size → w1.frozen? ⟨b, o, none⟩ = w.frozen? ⟨b, o, none⟩) :=
  ⟨fun b o h => hb.cell (p := ⟨b, o, none⟩) h, fun b o h => hb.frozen (p := ⟨b, o, none⟩) h⟩

/-- both are labels -/
theorem checked_ok (a b : Lab) (w : World) (ha : okL a = true) (hb : okL b = true) :
    Calls Tryd.prog 45 #[.agg #[.int .i64 a.lv, .int .u64 (u a.c), .int .i64 a.ig, .int .i64 b.lv, .int .u64 (u b.c), .int .i64 b.ig]] w fun e w' => e = .returned .nilIface ∧ Below w.heap.size w w' := by
  go_enter Tryd.func45, Tryd.ntmps45
  go_wp2_with fail
  refine (Right_any a _).mono ?_
  rintro e w1 ⟨rfl, hB1⟩
  obtain ⟨hc, hf⟩ := below_cell hB1
  have HB1 := Lib.hid hB1
  clear hB1
  go_wp2_with fail
  refine (Right_any b _).mono ?_
  rintro e w2 ⟨rfl, hB2⟩
  have HB2 := Lib.hid hB2
  clear hB2 hc hf
  go_wp2
  go_ret
  exact ⟨rfl, (((Below.refl _ _).alloc (Nat.le_refl _) _).trans (HB1.out.mono (by simp))).trans (HB2.out.mono (by have := HB1.out.size; simp at this; omega))⟩
/-- the first is none -/
theorem checked_bad1 (a b : Lab) (w : World) (ha : okL a = false) :
    Calls Tryd.prog 45 #[.agg #[.int .i64 a.lv, .int .u64 (u a.c), .int .i64 a.ig, .int .i64 b.lv, .int .u64 (u b.c), .int .i64 b.ig]] w fun e w' => e = .returned (.iface 97 (.agg #[.int .i64 a.lv, .int .u64 (u a.c), .int .i64 a.ig])) ∧ Below w.heap.size w w' := by
  go_enter Tryd.func45, Tryd.ntmps45
  go_wp2_with fail
  refine (Right_any a _).mono ?_
  rintro e w1 ⟨rfl, hB1⟩
  obtain ⟨hc, hf⟩ := below_cell hB1
  have HB1 := Lib.hid hB1
  clear hB1
  go_wp2
  go_ret
  exact ⟨rfl, ((Below.refl _ _).alloc (Nat.le_refl _) _).trans (HB1.out.mono (by simp))⟩
/-- the second is none -/
theorem checked_bad2 (a b : Lab) (w : World) (ha : okL a = true) (hb : okL b = false) :
    Calls Tryd.prog 45 #[.agg #[.int .i64 a.lv, .int .u64 (u a.c), .int .i64 a.ig, .int .i64 b.lv, .int .u64 (u b.c), .int .i64 b.ig]] w fun e w' => e = .returned (.iface 97 (.agg #[.int .i64 b.lv, .int .u64 (u b.c), .int .i64 b.ig])) ∧ Below w.heap.size w w' := by
  go_enter Tryd.func45, Tryd.ntmps45
  go_wp2_with fail
  refine (Right_any a _).mono ?_
  rintro e w1 ⟨rfl, hB1⟩
  obtain ⟨hc, hf⟩ := below_cell hB1
  have HB1 := Lib.hid hB1
  clear hB1
  go_wp2_with fail
  refine (Right_any b _).mono ?_
  rintro e w2 ⟨rfl, hB2⟩
  obtain ⟨hc2, hf2⟩ := below_cell hB2
  have HB2 := Lib.hid hB2
  have hs1 : w.heap.size < w1.heap.size := by have := HB1.out.size; simp at this; omega
  clear hB2
  go_wp2
  go_ret
  exact ⟨rfl, (((Below.refl _ _).alloc (Nat.le_refl _) _).trans (HB1.out.mono (by simp))).trans (HB2.out.mono (by omega))⟩
/-- one of them is none -/
theorem checked_bad (a b : Lab) (w : World) (h : ¬ (okL a = true ∧ okL b = true)) :
    Calls Tryd.prog 45 #[.agg #[.int .i64 a.lv, .int .u64 (u a.c), .int .i64 a.ig, .int .i64 b.lv, .int .u64 (u b.c), .int .i64 b.ig]] w fun e w' => ∃ x : Lab, e = .returned (.iface 97 (.agg #[.int .i64 x.lv, .int .u64 (u x.c), .int .i64 x.ig])) ∧ Below w.heap.size w w' := by
  by_cases ha : okL a = true
  · exact (checked_bad2 a b w ha (by cases hb : okL b <;> simp_all)).mono fun e w' hh => ⟨b, hh⟩
  · exact (checked_bad1 a b w (by simpa using ha)).mono fun e w' hh => ⟨a, hh⟩

theorem eql_lab (a b : Lab) (w : World) : (binOp .eql 25 (.agg #[.int .i64 a.lv, .int .u64 (u a.c), .int .i64 a.ig]) (.agg #[.int .i64 b.lv, .int .u64 (u b.c), .int .i64 b.ig])).run Tryd.prog w = .ok (.bool (eqL a b)) w := by
  by_cases h1 : a.lv = b.lv <;> by_cases h2 : a.c = b.c <;> by_cases h3 : a.ig = b.ig <;> go_simp <;> simp [eqL, h1, h2, h3]
set_option maxHeartbeats 1000000 in
theorem Under_ok (a b : Lab) (w : World) (ha : okL a = true) (hb : okL b = true) :
    Calls Tryd.prog 21 #[.agg #[.int .i64 a.lv, .int .u64 (u a.c), .int .i64 a.ig], .agg #[.int .i64 b.lv, .int .u64 (u b.c), .int .i64 b.ig]] w fun e w' => e = .returned (.bool (le3 a b)) ∧ Below w.heap.size w w' := by
  have hE := eql_lab a b
  by_cases hq : eqL a b = true
  · have HQ : Hid (le3 a b = true) := by rw [eqL_iff.1 hq]; exact le3_self b
    go_enter Tryd.func21, Tryd.ntmps21
    go_wp2_with fail
    refine (checked_ok a b _ ha hb).mono ?_
    rintro e w1 ⟨rfl, hB1⟩
    obtain ⟨hc, hf⟩ := below_cell hB1
    have HB1 := Lib.hid hB1
    clear hB1
    go_wp2_with fail
    go_ret
    rw [HQ.out]
    exact ⟨rfl, ((((Below.refl _ _).alloc (Nat.le_refl _) _).alloc (by simp) _).alloc (by simp; omega) _).trans (HB1.out.mono (by simp; omega))⟩
  · have hq' : eqL a b = false := by simpa using hq
    clear hq
    go_enter Tryd.func21, Tryd.ntmps21
    go_wp2_with fail
    refine (checked_ok a b _ ha hb).mono ?_
    rintro e w1 ⟨rfl, hB1⟩
    obtain ⟨hc, hf⟩ := below_cell hB1
    have HB1 := Lib.hid hB1
    clear hB1
    go_wp2_with fail
    refine (isUnder_any a b _).mono ?_
    rintro e w2 ⟨rfl, hB2⟩
    have HB2 := Lib.hid hB2
    clear hB2 hc hf
    go_wp2
    go_ret
    exact ⟨rfl, (((((Below.refl _ _).alloc (Nat.le_refl _) _).alloc (by simp) _).alloc (by simp; omega) _).trans (HB1.out.mono (by simp; omega))).trans (HB2.out.mono (by have := HB1.out.size; simp at this; omega))⟩
set_option maxHeartbeats 1000000 in
theorem Under_bad (a b : Lab) (w : World) (h : ¬ (okL a = true ∧ okL b = true)) :
    Calls Tryd.prog 21 #[.agg #[.int .i64 a.lv, .int .u64 (u a.c), .int .i64 a.ig], .agg #[.int .i64 b.lv, .int .u64 (u b.c), .int .i64 b.ig]] w fun e w' => e = .returned (.bool false) ∧ Below w.heap.size w w' := by
  have HH := Lib.hid h
  clear h
  go_enter Tryd.func21, Tryd.ntmps21
  go_wp2_with fail
  refine (checked_bad a b _ HH.out).mono ?_
  rintro e w1 ⟨x, rfl, hB1⟩
  have HB1 := Lib.hid hB1
  clear hB1
  go_wp2
  go_ret
  exact ⟨rfl, ((((Below.refl _ _).alloc (Nat.le_refl _) _).alloc (by simp) _).alloc (by simp; omega) _).trans (HB1.out.mono (by simp; omega))⟩
theorem Under_any (a b : Lab) (w : World) :
    Calls Tryd.prog 21 #[.agg #[.int .i64 a.lv, .int .u64 (u a.c), .int .i64 a.ig], .agg #[.int .i64 b.lv, .int .u64 (u b.c), .int .i64 b.ig]] w fun e w' => e = .returned (.bool (underL a b)) ∧ Below w.heap.size w w' := by
  by_cases h : okL a = true ∧ okL b = true
  · have e : underL a b = le3 a b := by unfold underL; rw [h.1, h.2]; rfl
    rw [e]; exact Under_ok a b w h.1 h.2
  · have e : underL a b = false := by unfold underL; cases h1 : okL a <;> cases h2 : okL b <;> simp_all
    rw [e]; exact Under_bad a b w h

/-! ### what makes labels -/
theorem greater_any (a b : Int) (w : World) :
    Calls Tryd.prog 77 #[.int .i64 a, .int .i64 b] w fun e w' => e = .returned (.int .i64 (max a b)) ∧ w = w' := by
  obtain ⟨m, hm⟩ : ∃ m, m = max a b := ⟨_, rfl⟩
  rw [← hm]
  have HM := Lib.hid hm
  clear hm
  go_enter Tryd.func77, Tryd.ntmps77
  go_wp2
  all_goals go_ret
  all_goals exact ⟨ret_eq (int_eq (by have := HM.out; omega)), rfl⟩
theorem lesser_any (a b : Int) (w : World) :
    Calls Tryd.prog 78 #[.int .i64 a, .int .i64 b] w fun e w' => e = .returned (.int .i64 (min a b)) ∧ w = w' := by
  obtain ⟨m, hm⟩ : ∃ m, m = min a b := ⟨_, rfl⟩
  rw [← hm]
  have HM := Lib.hid hm
  clear hm
  go_enter Tryd.func78, Tryd.ntmps78
  go_wp2
  all_goals go_ret
  all_goals exact ⟨ret_eq (int_eq (by have := HM.out; omega)), rfl⟩
theorem or_any (x y : BitVec 64) (w : World) :
    Calls Tryd.prog 79 #[.int .u64 (u x), .int .u64 (u y)] w fun e w' => e = .returned (.int .u64 (u (x ||| y))) ∧ w = w' := by
  go_enter Tryd.func79, Tryd.ntmps79
  go_wp2
  go_ret
  exact ⟨rfl, rfl⟩

/-- the three functions of 'joins' -/
theorem joins_any (w : World) :
    Calls Tryd.prog 72 #[] w fun e w' => e = .returned (.agg #[.func (.func 77) #[] #[], .func (.func 78) #[] #[], .func (.func 79) #[] #[]]) ∧ Below w.heap.size w w' := by
  go_enter Tryd.func72, Tryd.ntmps72
  go_wp2
  go_returns
  exact ⟨rfl, (Below.refl _ _).alloc (Nat.le_refl _) _⟩
end

section
open Go.RowKit

attribute [local go_sem] u_and u_or u_andNot u_add u_sub u_bit u_eq_zero u_beq

theorem still_of {P : Program} {f : FuncId} {args : Array Value} {w : World} {v : Value} (h : Calls P f args w fun e w' => e = .returned v ∧ w = w') : Calls P f args w fun e w' => e = .returned v ∧ w' = w :=
  h.mono fun _ _ hh => ⟨hh.1, hh.2.symm⟩
set_option maxRecDepth 100000 in
set_option maxHeartbeats 2000000 in
theorem of_joins (a b : Lab) (w : World) (ha : okL a = true) (hb : okL b = true) :
    Calls Tryd.prog 73 #[.agg #[.func (.func 77) #[] #[], .func (.func 78) #[] #[], .func (.func 79) #[] #[]], .agg #[.int .i64 a.lv, .int .u64 (u a.c), .int .i64 a.ig, .int .i64 b.lv, .int .u64 (u b.c), .int .i64 b.ig]] w
      fun e w' => e = .returned (.tuple #[.agg #[.int .i64 (max a.lv b.lv), .int .u64 (u (a.c ||| b.c)), .int .i64 (min a.ig b.ig)], .nilIface]) ∧ Below w.heap.size w w' := by
  go_enter Tryd.func73, Tryd.ntmps73
  go_wp2_with fail
  refine (checked_ok a b _ ha hb).mono ?_
  rintro e w1 ⟨rfl, hB1⟩
  obtain ⟨hc, hf⟩ := below_cell hB1
  have HB1 := Lib.hid hB1
  clear hB1
  go_wp2_with fail
  go_still_tail 28, (by kernel_rfl)
  still_call (still_of (greater_any _ _ _))
  repeat still_step
  still_call (still_of (or_any _ _ _))
  repeat still_step
  still_call (still_of (lesser_any _ _ _))
  repeat still_step
  refine wpStill_nil ?_
  change wpList _ _ _ _ _ w1.drew
  go_wp2
  have q0 : w1.cell? ⟨w.heap.size + 1 + 1, 0, none⟩ = some (.int .i64 0) := (hc _ _ (by simp)).trans (World.cell?_alloc_at _ _ _ _ (by simp))
  have q1 : w1.cell? ⟨w.heap.size + 1 + 1, 1, none⟩ = some (.int .u64 0) := (hc _ _ (by simp)).trans (World.cell?_alloc_at _ _ _ _ (by simp))
  have q2 : w1.cell? ⟨w.heap.size + 1 + 1, 2, none⟩ = some (.int .i64 0) := (hc _ _ (by simp)).trans (World.cell?_alloc_at _ _ _ _ (by simp))
  refine bodyPost_ret (v := .tuple #[.agg #[.int .i64 (max a.lv b.lv), .int .u64 (u (a.c ||| b.c)), .int .i64 (min a.ig b.ig)], .nilIface]) (by simp [results, Tryd.results73, go_sem, q0, q1, q2]) rfl ?_
  have hBw : Below w.heap.size w w1 := ((((Below.refl _ _).alloc (Nat.le_refl _) _).alloc (by simp) _).alloc (by simp; omega) _).trans (HB1.out.mono (by simp; omega))
  clear hc hf HB1
  exact ⟨rfl, by go_grown⟩

set_option maxRecDepth 100000 in
set_option maxHeartbeats 2000000 in
theorem of_bad (k0 k1 k2 : Nat) (a b : Lab) (w : World) (h : ¬ (okL a = true ∧ okL b = true)) :
    Calls Tryd.prog 73 #[.agg #[.func (.func k0) #[] #[], .func (.func k1) #[] #[], .func (.func k2) #[] #[]], .agg #[.int .i64 a.lv, .int .u64 (u a.c), .int .i64 a.ig, .int .i64 b.lv, .int .u64 (u b.c), .int .i64 b.ig]] w
      fun e w' => ∃ x : Lab, e = .returned (.tuple #[.agg #[.int .i64 0, .int .u64 0, .int .i64 0], .iface 97 (.agg #[.int .i64 x.lv, .int .u64 (u x.c), .int .i64 x.ig])]) ∧ Below w.heap.size w w' := by
  have HH := Lib.hid h
  clear h
  go_enter Tryd.func73, Tryd.ntmps73
  go_wp2_with fail
  refine (checked_bad a b _ HH.out).mono ?_
  rintro e w1 ⟨x, rfl, hB1⟩
  obtain ⟨hc, hf⟩ := below_cell hB1
  have HB1 := Lib.hid hB1
  clear hB1
  go_wp2
  have q0 : w1.cell? ⟨w.heap.size + 1 + 1, 0, none⟩ = some (.int .i64 0) := (hc _ _ (by simp)).trans (World.cell?_alloc_at _ _ _ _ (by simp))
  have q1 : w1.cell? ⟨w.heap.size + 1 + 1, 1, none⟩ = some (.int .u64 0) := (hc _ _ (by simp)).trans (World.cell?_alloc_at _ _ _ _ (by simp))
  have q2 : w1.cell? ⟨w.heap.size + 1 + 1, 2, none⟩ = some (.int .i64 0) := (hc _ _ (by simp)).trans (World.cell?_alloc_at _ _ _ _ (by simp))
  refine bodyPost_ret (v := .tuple #[.agg #[.int .i64 0, .int .u64 0, .int .i64 0], .iface 97 (.agg #[.int .i64 x.lv, .int .u64 (u x.c), .int .i64 x.ig])]) (by simp [results, Tryd.results73, go_sem, q0, q1, q2]) rfl ?_
  have hBw : Below w.heap.size w w1 := ((((Below.refl _ _).alloc (Nat.le_refl _) _).alloc (by simp) _).alloc (by simp; omega) _).trans (HB1.out.mono (by simp; omega))
  clear hc hf HB1
  exact ⟨x, rfl, by go_grown⟩
end

section
open Go.RowKit Go.Extern.Stop Go.Stop Go.Extern

theorem as_nil (t : Value) (w : World) :
    Calls Tryd.prog 51 #[.nilIface, t] w fun e w' => e = .returned (.bool false) ∧ w = w' := by
  go_enter Tryd.func51, Tryd.ntmps51
  go_wp2
  go_ret
  exact ⟨rfl, rfl⟩

/-! ### closed facts -/
theorem valueOfP (t : Addr) (w : World) : (callFunc 61 #[.iface 138 (.pointer (some t))]).run Tryd.prog w
    = .ok (.value (.agg #[.pointer (some ⟨2, 138, none⟩), .pointer (some ⟨w.heap.size, 0, none⟩), .int .u64 150])) (w.alloc (.cells #[.pointer (some t)] 138)) := by kernel_rfl
theorem typeP (a : Addr) (w : World) : (callFunc 62 #[.agg #[.pointer (some ⟨2, 138, none⟩), .pointer (some a), .int .u64 150]]).run Tryd.prog w
    = .ok (.value (.iface 117 (.agg #[.pointer (some ⟨2, 138, none⟩)]))) w := by kernel_rfl
theorem kindP (w : World) : (callFunc 94 #[.pointer (some ⟨2, 138, none⟩)]).run Tryd.prog w = .ok (.value (.int .u8 22)) w := by kernel_rfl
theorem kindW (w : World) : (callFunc 94 #[.pointer (some ⟨2, 97, none⟩)]).run Tryd.prog w = .ok (.value (.int .u8 25)) w := by kernel_rfl
theorem elemP (w : World) : (callFunc 110 #[.agg #[.pointer (some ⟨2, 138, none⟩)]]).run Tryd.prog w
    = .ok (.value (.iface 117 (.agg #[.pointer (some ⟨2, 97, none⟩)]))) w := by kernel_rfl
theorem implW (w : World) : (callFunc 111 #[.agg #[.pointer (some ⟨2, 97, none⟩)], .iface 117 (.agg #[.pointer (some ⟨2, 61, none⟩)])]).run Tryd.prog w = .ok (.value (.bool true)) w := by kernel_rfl
theorem typeOfW (v : Value) (w : World) : (callFunc 69 #[.iface 97 v]).run Tryd.prog w
    = .ok (.value (.iface 117 (.agg #[.pointer (some ⟨2, 97, none⟩)]))) w := by kernel_rfl
theorem assignW (w : World) : (callFunc 108 #[.agg #[.pointer (some ⟨2, 97, none⟩)], .iface 117 (.agg #[.pointer (some ⟨2, 97, none⟩)])]).run Tryd.prog w = .ok (.value (.bool true)) w := by kernel_rfl
theorem valueOfW (c0 c1 c2 : Value) (w : World) : (callFunc 61 #[.iface 97 (.agg #[c0, c1, c2])]).run Tryd.prog w
    = .ok (.value (.agg #[.pointer (some ⟨2, 97, none⟩), .pointer (some ⟨w.heap.size, 0, none⟩), .int .u64 153])) (w.alloc (.cells #[c0, c1, c2] 97)) := by kernel_rfl

/-! ### the entries that read or write memory -/
theorem rlm (z : Sem Value) (f : TypeId → Addr → Nat → Nat → Sem Value) (v : Value) :
    ReflectliteValue.method z f #[v] = (do match ← ReflectliteValue.parts v with | none => z | some (t, a, fl) => f t a fl (fl % 32)) := rfl
theorem partsP (a : Addr) (w : World) : (ReflectliteValue.parts (.agg #[.pointer (some ⟨2, 138, none⟩), .pointer (some a), .int .u64 150])).run Tryd.prog w = .ok (some (138, a, 150)) w := by kernel_rfl
theorem isNilP (a p : Addr) (W : World) (ha : W.cell? a = some (.pointer (some p))) :
    (callFunc 63 #[.agg #[.pointer (some ⟨2, 138, none⟩), .pointer (some a), .int .u64 150]]).run Tryd.prog W = .ok (.value (.bool false)) W := by
  rw [@run_callFunc_extern Tryd.prog 63 _ (ReflectliteValue.method (ReflectliteValue.valueError "reflectlite.Value.IsNil" 0) ReflectliteValue.isNil) Tryd.func63 (by kernel_rfl) (by kernel_rfl) (by kernel_rfl) (by kernel_rfl), rlm]
  simp only [Sem.run_bind, partsP, Result.andThen]
  simp [ReflectliteValue.isNil, loadVar, isAgg, underlying, Tryd.underlying138, ha, Result.andThen]
theorem elemOfP (w : World) : (Rtype.elem? 138).run Tryd.prog w = .ok (some 97) w := by kernel_rfl
theorem mkW (p : Addr) (w : World) : (ReflectliteValue.mk 97 p ReflectliteValue.flagAddr).run Tryd.prog w = .ok (.agg #[.pointer (some ⟨2, 97, none⟩), .pointer (some p), .int .u64 409]) w := by kernel_rfl
theorem elemVP (a p : Addr) (W : World) (ha : W.cell? a = some (.pointer (some p))) :
    (callFunc 70 #[.agg #[.pointer (some ⟨2, 138, none⟩), .pointer (some a), .int .u64 150]]).run Tryd.prog W = .ok (.value (.agg #[.pointer (some ⟨2, 97, none⟩), .pointer (some p), .int .u64 409])) W := by
  rw [@run_callFunc_extern Tryd.prog 70 _ (ReflectliteValue.method (ReflectliteValue.valueError "reflectlite.Value.Elem" 0) ReflectliteValue.elem) Tryd.func70 (by kernel_rfl) (by kernel_rfl) (by kernel_rfl) (by kernel_rfl), rlm]
  simp only [Sem.run_bind, partsP, Result.andThen]
  simp [ReflectliteValue.elem, loadVar, isAgg, underlying, Tryd.underlying138, ha, Result.andThen, elemOfP, mkW]
theorem rls (v x : Value) : ReflectliteValue.set #[v, x] = (do
    let (some (dst, a, fl), some (src, b, _)) := (← ReflectliteValue.parts v, ← ReflectliteValue.parts x)
      | unsupported (.noEntry "extern/(internal/reflectlite.Value).Set.zeroValue")
    if fl / ReflectliteValue.flagAddr % 2 == 0 then unsupported (.noEntry "extern/(internal/reflectlite.Value).Set.unaddressable")
    let val ← loadVar src b
    if ← Rtype.directlyAssignable dst src then storeVar dst a val
    else if ← Rtype.implements dst src then
      if (← Rtype.kind src) == 20 then
        match val with
        | .nilIface => unsupported (.noEntry "extern/reflectlite: a nil value of one interface type handed on as a value of another")
        | _ => storeVar dst a val
      else storeVar dst a (.iface src val)
    else panicString ("reflectlite.Set: value of type " ++ (← Rtype.spelt src) ++ " is not assignable to type " ++ (← Rtype.spelt dst))
    pure (.tuple #[])) := rfl
theorem partsWa (a : Addr) (w : World) : (ReflectliteValue.parts (.agg #[.pointer (some ⟨2, 97, none⟩), .pointer (some a), .int .u64 409])).run Tryd.prog w = .ok (some (97, a, 409)) w := by kernel_rfl
theorem partsW (a : Addr) (w : World) : (ReflectliteValue.parts (.agg #[.pointer (some ⟨2, 97, none⟩), .pointer (some a), .int .u64 153])).run Tryd.prog w = .ok (some (97, a, 153)) w := by kernel_rfl
theorem directW (w : World) : (Rtype.directlyAssignable 97 97).run Tryd.prog w = .ok true w := by kernel_rfl
/-- (Value).Set: the three cells from t on get what the Value's own three hold. -/
theorem setW (tb bb : Nat) (n0 n2 : Int) (x1 : BitVec 64) (o0 o1 o2 : Value) (W : World)
    (h0 : W.cell? ⟨bb, 0, none⟩ = some (.int .i64 n0)) (h1 : W.cell? ⟨bb, 1, none⟩ = some (.int .u64 (u x1))) (h2 : W.cell? ⟨bb, 2, none⟩ = some (.int .i64 n2))
    (t0 : W.cell? ⟨tb, 0, none⟩ = some o0) (t1 : W.cell? ⟨tb, 1, none⟩ = some o1) (t2 : W.cell? ⟨tb, 2, none⟩ = some o2)
    (f0 : W.frozen? ⟨tb, 0, none⟩ = false) (f1 : W.frozen? ⟨tb, 1, none⟩ = false) (f2 : W.frozen? ⟨tb, 2, none⟩ = false) :
    (callFunc 71 #[.agg #[.pointer (some ⟨2, 97, none⟩), .pointer (some ⟨tb, 0, none⟩), .int .u64 409], .agg #[.pointer (some ⟨2, 97, none⟩), .pointer (some ⟨bb, 0, none⟩), .int .u64 153]]).run Tryd.prog W
      = .ok (.value (.tuple #[])) (((W.setCell ⟨tb, 0, none⟩ (.int .i64 n0)).setCell ⟨tb, 1, none⟩ (.int .u64 (u x1))).setCell ⟨tb, 2, none⟩ (.int .i64 n2)) := by
  rw [@run_callFunc_extern Tryd.prog 71 _ ReflectliteValue.set Tryd.func71 (by kernel_rfl) (by kernel_rfl) (by kernel_rfl) (by kernel_rfl), rls]
  simp only [Sem.run_bind, partsWa, partsW, Result.andThen]
  simp [ReflectliteValue.flagAddr, Result.andThen, directW]
  go_simp
end

section
open Go.RowKit Go.Extern.Stop Go.Stop Go.Extern

/-- errors' own handle of the type 'error', as the program's text lays it -/
def Handle (w : World) : Prop := 0 < w.heap.size ∧ w.cell? ⟨0, 0, none⟩ = some (.iface 117 (.agg #[.pointer (some ⟨2, 61, none⟩)]))
theorem Handle.below {w w' : World} {B : Nat} (h : Handle w) (hb : Below B w w') (hB : 0 < B) : Handle w' :=
  ⟨Nat.lt_of_lt_of_le h.1 hb.size, (hb.cell (p := ⟨0, 0, none⟩) hB).trans h.2⟩
theorem Handle.up {w w' : World} (h : Handle w) (hb : Below w.heap.size w w') : Handle w' := h.below hb h.1

set_option maxRecDepth 100000 in
set_option maxHeartbeats 4000000 in
theorem as2_hit (x : Lab) (tb ab : Nat) (w : World) (ha : w.cell? ⟨ab, 0, none⟩ = some (.pointer (some ⟨tb, 0, none⟩))) (hab : ab < w.heap.size) (htb : tb < w.heap.size)
    (t0 : w.cell? ⟨tb, 0, none⟩ = some (.int .i64 0)) (t1 : w.cell? ⟨tb, 1, none⟩ = some (.int .u64 0)) (t2 : w.cell? ⟨tb, 2, none⟩ = some (.int .i64 0))
    (f0 : w.frozen? ⟨tb, 0, none⟩ = false) (f1 : w.frozen? ⟨tb, 1, none⟩ = false) (f2 : w.frozen? ⟨tb, 2, none⟩ = false) :
    Calls Tryd.prog 64 #[.iface 97 (.agg #[.int .i64 x.lv, .int .u64 (u x.c), .int .i64 x.ig]), .iface 138 (.pointer (some ⟨tb, 0, none⟩)), .agg #[.pointer (some ⟨2, 138, none⟩), .pointer (some ⟨ab, 0, none⟩), .int .u64 150], .iface 117 (.agg #[.pointer (some ⟨2, 97, none⟩)])] w
      fun e w' => e = .returned (.bool true) ∧ w.grownBy w' (some tb) := by
  have c1 := typeOfW
  have c2 := assignW
  have c3 := valueOfW
  have hA : ∀ (o : Obj) (p : Addr), p.block < w.heap.size → (w.alloc o).cell? p = w.cell? p := fun o p h => World.cell?_alloc_lt _ _ p h
  have hA2 : ∀ (o o' : Obj) (p : Addr), p.block < w.heap.size → ((w.alloc o).alloc o').cell? p = w.cell? p := fun o o' p h => (World.cell?_alloc_lt _ _ p (by simp; omega)).trans (World.cell?_alloc_lt _ _ p h)
  have hF2 : ∀ (o o' : Obj) (p : Addr), p.block < w.heap.size → ((w.alloc o).alloc o').frozen? p = w.frozen? p := fun o o' p h => (World.frozen?_alloc_old _ _ p (by simp; omega)).trans (World.frozen?_alloc_old _ _ p (by omega))
  have c4 := elemVP ⟨ab, 0, none⟩ ⟨tb, 0, none⟩ (w.alloc (.cells #[.pointer (some ⟨2, 138, none⟩), .pointer (some ⟨ab, 0, none⟩), .int .u64 150] 101)) ((hA _ _ hab).trans ha)
  have c5 := setW tb (w.heap.size + 1) x.lv x.ig x.c (.int .i64 0) (.int .u64 0) (.int .i64 0)
    ((w.alloc (.cells #[.pointer (some ⟨2, 138, none⟩), .pointer (some ⟨ab, 0, none⟩), .int .u64 150] 101)).alloc (.cells #[.int .i64 x.lv, .int .u64 (u x.c), .int .i64 x.ig] 97))
    (World.cell?_alloc_at _ _ _ _ (by simp)) (World.cell?_alloc_at _ _ _ _ (by simp)) (World.cell?_alloc_at _ _ _ _ (by simp))
    ((hA2 _ _ _ htb).trans t0) ((hA2 _ _ _ htb).trans t1) ((hA2 _ _ _ htb).trans t2) ((hF2 _ _ _ htb).trans f0) ((hF2 _ _ _ htb).trans f1) ((hF2 _ _ _ htb).trans f2)
  clear hA hA2 hF2 ha t0 t1 t2 f0 f1 f2 hab htb
  go_enter Tryd.func64, Tryd.ntmps64
  go_wp2_with fail
  refine wp_loop_rounds 1 ?_
  rw [rounds_succ]
  go_wp2
  go_ret
  refine ⟨rfl, ?_⟩
  have hset : ∀ (W : World) (o : Nat) (v : Value), W.grownBy (W.setCell ⟨tb, o, none⟩ v) (some tb) := fun W o v =>
    ⟨rfl, rfl, rfl, by simp [World.setCell], fun k _ hne => Below.heap_setCell _ _ _ _ (fun e => hne (by rw [e]))⟩
  exact ((((World.grownBy_alloc _ _ _).trans (World.grownBy_alloc _ _ _)).trans (hset _ _ _)).trans (hset _ _ _)).trans (hset _ _ _)
set_option maxRecDepth 100000 in
set_option maxHeartbeats 4000000 in
theorem as_hit (x : Lab) (tb : Nat) (w : World) (hh : Handle w) (htb : tb < w.heap.size)
    (t0 : w.cell? ⟨tb, 0, none⟩ = some (.int .i64 0)) (t1 : w.cell? ⟨tb, 1, none⟩ = some (.int .u64 0)) (t2 : w.cell? ⟨tb, 2, none⟩ = some (.int .i64 0))
    (f0 : w.frozen? ⟨tb, 0, none⟩ = false) (f1 : w.frozen? ⟨tb, 1, none⟩ = false) (f2 : w.frozen? ⟨tb, 2, none⟩ = false) :
    Calls Tryd.prog 51 #[.iface 97 (.agg #[.int .i64 x.lv, .int .u64 (u x.c), .int .i64 x.ig]), .iface 138 (.pointer (some ⟨tb, 0, none⟩))] w
      fun e w' => e = .returned (.bool true) ∧ w.grownBy w' (some tb) := by
  have c1 := valueOfP
  have c2 := typeP
  have c3 := kindP
  have c4 := kindW
  have c5 := elemP
  have c6 := implW
  have hg := hh.2
  have hlt := hh.1
  clear hh
  have hA2 : ∀ (o o' : Obj) (p : Addr), p.block < w.heap.size → ((w.alloc o).alloc o').cell? p = w.cell? p := fun o o' p h => (World.cell?_alloc_lt _ _ p (by simp; omega)).trans (World.cell?_alloc_lt _ _ p h)
  have hF2 : ∀ (o o' : Obj) (p : Addr), p.block < w.heap.size → ((w.alloc o).alloc o').frozen? p = w.frozen? p := fun o o' p h => (World.frozen?_alloc_old _ _ p (by simp; omega)).trans (World.frozen?_alloc_old _ _ p (by omega))
  have c7 := isNilP ⟨w.heap.size, 0, none⟩ ⟨tb, 0, none⟩
    ((w.alloc (.cells #[.pointer (some ⟨tb, 0, none⟩)] 138)).alloc (.cells #[.pointer (some ⟨2, 138, none⟩), .pointer (some ⟨w.heap.size, 0, none⟩), .int .u64 150] 101))
    ((World.cell?_alloc_lt _ _ _ (by simp)).trans (World.cell?_alloc_at _ _ _ _ rfl))
  have hgA := (hA2 (.cells #[.pointer (some ⟨tb, 0, none⟩)] 138) (.cells #[.pointer (some ⟨2, 138, none⟩), .pointer (some ⟨w.heap.size, 0, none⟩), .int .u64 150] 101) ⟨0, 0, none⟩ hlt).trans hg
  have HA := Lib.hid (as2_hit x tb w.heap.size
    ((w.alloc (.cells #[.pointer (some ⟨tb, 0, none⟩)] 138)).alloc (.cells #[.pointer (some ⟨2, 138, none⟩), .pointer (some ⟨w.heap.size, 0, none⟩), .int .u64 150] 101))
    ((World.cell?_alloc_lt _ _ _ (by simp)).trans (World.cell?_alloc_at _ _ _ _ rfl)) (by simp; omega) (by simp; omega)
    ((hA2 _ _ _ htb).trans t0) ((hA2 _ _ _ htb).trans t1) ((hA2 _ _ _ htb).trans t2) ((hF2 _ _ _ htb).trans f0) ((hF2 _ _ _ htb).trans f1) ((hF2 _ _ _ htb).trans f2))
  clear hA2 hF2 t0 t1 t2 f0 f1 f2 htb
  go_enter Tryd.func51, Tryd.ntmps51
  go_wp2_with fail
  refine HA.out.mono ?_
  rintro e w' ⟨rfl, hg2⟩
  go_wp2
  go_ret
  exact ⟨rfl, ((World.grownBy_alloc _ _ _).trans (World.grownBy_alloc _ _ _)).trans hg2⟩

theorem told_nil (w : World) :
    Calls Tryd.prog 74 #[.nilIface] w fun e w' => e = .returned (.int .i64 0) ∧ Below w.heap.size w w' := by
  go_enter Tryd.func74, Tryd.ntmps74
  go_wp2_with (go_at_call 51; refine (as_nil _ _).mono ?_; rintro e w' ⟨rfl, rfl⟩)
  go_ret
  exact ⟨rfl, (Below.refl _ _).alloc (Nat.le_refl _) _⟩
theorem told_wrong (x : Lab) (w : World) (hh : Handle w) :
    Calls Tryd.prog 74 #[.iface 97 (.agg #[.int .i64 x.lv, .int .u64 (u x.c), .int .i64 x.ig])] w fun e w' => e = .returned (.int .i64 20) ∧ Below w.heap.size w w' := by
  have hB0 : Below w.heap.size w (w.alloc (.cells #[.int .i64 0, .int .u64 0, .int .i64 0] 97)) := (Below.refl _ _).alloc (Nat.le_refl _) _
  have HA := Lib.hid (as_hit x w.heap.size (w.alloc (.cells #[.int .i64 0, .int .u64 0, .int .i64 0] 97)) (hh.up hB0) (by simp)
    (World.cell?_alloc_at _ _ _ _ rfl) (World.cell?_alloc_at _ _ _ _ rfl) (World.cell?_alloc_at _ _ _ _ rfl) (by simp) (by simp) (by simp))
  clear hh hB0
  go_enter Tryd.func74, Tryd.ntmps74
  go_wp2_with fail
  refine HA.out.mono ?_
  rintro e w' ⟨rfl, hg⟩
  go_wp2
  go_ret
  exact ⟨rfl, ((Below.refl _ _).alloc (Nat.le_refl _) _).grown hg (by simp) (fun k e => by injection e with e; omega)⟩
end

section
open Go.RowKit

attribute [local go_sem] u_and u_or u_andNot u_add u_sub u_bit u_eq_zero u_beq

/-- the result's own block is still to be written -/
structure Pre (w wx : World) : Prop where
  r0 : wx.cell? ⟨w.heap.size + 1 + 1, 0, none⟩ = some (.int .i64 0)
  r1 : wx.cell? ⟨w.heap.size + 1 + 1, 1, none⟩ = some (.int .u64 0)
  r2 : wx.cell? ⟨w.heap.size + 1 + 1, 2, none⟩ = some (.int .i64 0)
  f0 : wx.frozen? ⟨w.heap.size + 1 + 1, 0, none⟩ = false
  f1 : wx.frozen? ⟨w.heap.size + 1 + 1, 1, none⟩ = false
  f2 : wx.frozen? ⟨w.heap.size + 1 + 1, 2, none⟩ = false
  below : Below w.heap.size w wx
  gt : w.heap.size + 1 + 1 < wx.heap.size
theorem Pre.drew {w wx : World} (p : Pre w wx) : Pre w wx.drew := ⟨p.r0, p.r1, p.r2, p.f0, p.f1, p.f2, p.below.drew, p.gt⟩
theorem Pre.lift {w wx wy : World} (p : Pre w wx) (h : Below wx.heap.size wx wy) : Pre w wy where
  r0 := ((below_cell h).1 _ _ p.gt).trans p.r0
  r1 := ((below_cell h).1 _ _ p.gt).trans p.r1
  r2 := ((below_cell h).1 _ _ p.gt).trans p.r2
  f0 := ((below_cell h).2 _ _ p.gt).trans p.f0
  f1 := ((below_cell h).2 _ _ p.gt).trans p.f1
  f2 := ((below_cell h).2 _ _ p.gt).trans p.f2
  below := below_lift p.below h
  gt := Nat.lt_of_lt_of_le p.gt h.size
theorem Pre.alloc {w wx : World} (p : Pre w wx) (o : Obj) : Pre w (wx.alloc o) where
  r0 := (World.cell?_alloc_lt _ _ _ p.gt).trans p.r0
  r1 := (World.cell?_alloc_lt _ _ _ p.gt).trans p.r1
  r2 := (World.cell?_alloc_lt _ _ _ p.gt).trans p.r2
  f0 := (World.frozen?_alloc_old _ _ _ (Nat.ne_of_lt p.gt)).trans p.f0
  f1 := (World.frozen?_alloc_old _ _ _ (Nat.ne_of_lt p.gt)).trans p.f1
  f2 := (World.frozen?_alloc_old _ _ _ (Nat.ne_of_lt p.gt)).trans p.f2
  below := p.below.alloc (by have := p.gt; omega) _
  gt := by have := p.gt; simp; omega
theorem Pre.set {w wx : World} (p : Pre w wx) (g i : Nat) (v : Value) (hg : w.heap.size + 1 + 1 < g) : Pre w (wx.setCell ⟨g, i, none⟩ v) where
  r0 := (World.cell?_setCell_far _ _ _ _ (by dsimp only; omega)).trans p.r0
  r1 := (World.cell?_setCell_far _ _ _ _ (by dsimp only; omega)).trans p.r1
  r2 := (World.cell?_setCell_far _ _ _ _ (by dsimp only; omega)).trans p.r2
  f0 := (World.frozen?_setCell _ _ _ _).trans p.f0
  f1 := (World.frozen?_setCell _ _ _ _).trans p.f1
  f2 := (World.frozen?_setCell _ _ _ _).trans p.f2
  below := p.below.setCell (by dsimp only; omega) _
  gt := by have := p.gt; simp; omega
/-- behind the first region of Join, Meet: the answer lies in block g, the result's own block is still to be written -/
structure Joined (w wx : World) (g : Nat) (lv : Int) (c : Int) (ig : Int) : Prop where
  c0 : wx.cell? ⟨g, 0, none⟩ = some (.int .i64 lv)
  c1 : wx.cell? ⟨g, 1, none⟩ = some (.int .u64 c)
  c2 : wx.cell? ⟨g, 2, none⟩ = some (.int .i64 ig)
  pre : Pre w wx
  ne : w.heap.size + 1 + 1 < g
  lt : g < wx.heap.size
theorem Pre.joined {w wx : World} (p : Pre w wx) (lv : Int) (c : Int) (ig : Int) (t : TypeId) : Joined w (wx.alloc (.cells #[.int .i64 lv, .int .u64 c, .int .i64 ig] t)) wx.heap.size lv c ig where
  c0 := World.cell?_alloc_at _ _ _ _ rfl
  c1 := World.cell?_alloc_at _ _ _ _ rfl
  c2 := World.cell?_alloc_at _ _ _ _ rfl
  pre := p.alloc _
  ne := p.gt
  lt := by simp
theorem Pre.stored {w wx : World} (p : Pre w wx) (g : Nat) (hg : w.heap.size + 1 + 1 < g) (hl : g < wx.heap.size) (h0 : (wx.cell? ⟨g, 0, none⟩).isSome = true) (h1 : (wx.cell? ⟨g, 1, none⟩).isSome = true) (h2 : (wx.cell? ⟨g, 2, none⟩).isSome = true)
    (lv : Int) (c : Int) (ig : Int) : Joined w (((wx.setCell ⟨g, 0, none⟩ (.int .i64 lv)).setCell ⟨g, 1, none⟩ (.int .u64 c)).setCell ⟨g, 2, none⟩ (.int .i64 ig)) g lv c ig where
  c0 := (World.cell?_setCell_other _ _ _ _ (by simp)).trans ((World.cell?_setCell_other _ _ _ _ (by simp)).trans (World.cell?_setCell_same' _ _ _ h0))
  c1 := (World.cell?_setCell_other _ _ _ _ (by simp)).trans (World.cell?_setCell_same' _ _ _ ((congrArg Option.isSome (World.cell?_setCell_other _ _ _ _ (by simp))).trans h1))
  c2 := World.cell?_setCell_same' _ _ _ ((congrArg Option.isSome ((World.cell?_setCell_other _ _ _ _ (by simp)).trans (World.cell?_setCell_other _ _ _ _ (by simp)))).trans h2)
  pre := ((p.set g 0 _ hg).set g 1 _ hg).set g 2 _ hg
  ne := hg
  lt := by simpa using hl
theorem isSome_of {α : Type} {x : Option α} {v : α} (h : x = some v) : x.isSome = true := by rw [h]; rfl
theorem set3_cells {wx : World} {g : Nat} {v0 v1 v2 : Value} (h0 : wx.cell? ⟨g, 0, none⟩ = some v0) (h1 : wx.cell? ⟨g, 1, none⟩ = some v1) (h2 : wx.cell? ⟨g, 2, none⟩ = some v2) (x y z : Value) :
    (((wx.setCell ⟨g, 0, none⟩ x).setCell ⟨g, 1, none⟩ y).setCell ⟨g, 2, none⟩ z).cell? ⟨g, 0, none⟩ = some x ∧
    (((wx.setCell ⟨g, 0, none⟩ x).setCell ⟨g, 1, none⟩ y).setCell ⟨g, 2, none⟩ z).cell? ⟨g, 1, none⟩ = some y ∧
    (((wx.setCell ⟨g, 0, none⟩ x).setCell ⟨g, 1, none⟩ y).setCell ⟨g, 2, none⟩ z).cell? ⟨g, 2, none⟩ = some z :=
  ⟨(World.cell?_setCell_other _ _ _ _ (by simp)).trans ((World.cell?_setCell_other _ _ _ _ (by simp)).trans (World.cell?_setCell_same _ _ _ h0)),
    (World.cell?_setCell_other _ _ _ _ (by simp)).trans (World.cell?_setCell_same _ _ _ ((World.cell?_setCell_other _ _ _ _ (by simp)).trans h1)),
    World.cell?_setCell_same _ _ _ ((World.cell?_setCell_other _ _ _ _ (by simp)).trans ((World.cell?_setCell_other _ _ _ _ (by simp)).trans h2))⟩
theorem set3_below {w wx wy : World} {g : Nat} (h : Below w.heap.size w wx) (h1 : Below wx.drew.heap.size wx.drew wy) (hg : w.heap.size < g) (x y z : Value) :
    Below w.heap.size w (((wy.setCell ⟨g, 0, none⟩ x).setCell ⟨g, 1, none⟩ y).setCell ⟨g, 2, none⟩ z) :=
  (((below_lift (w1 := wx.drew) h.drew h1).setCell (by dsimp only; omega) _).setCell (by dsimp only; omega) _).setCell (by dsimp only; omega) _
/-- the answer's block is made last -/
theorem join_last {w W0 w1 w2 : World} (p : Pre w W0) (h1 : Below W0.drew.heap.size W0.drew w1) (h2 : Below w1.heap.size w1 w2) (lv : Int) (c : Int) (ig : Int) (t : TypeId) :
    Joined w (w2.alloc (.cells #[.int .i64 lv, .int .u64 c, .int .i64 ig] t)) w2.heap.size lv c ig :=
  ((p.drew.lift h1).lift h2).joined _ _ _ _
/-- between the two calls -/
theorem join_mid {w W0 w1 w2 : World} (p : Pre w W0) (h1 : Below W0.drew.heap.size W0.drew w1) (t : TypeId)
    (h2 : Below (w1.alloc (.cells #[.int .i64 0, .int .u64 0, .int .i64 0] t)).heap.size (w1.alloc (.cells #[.int .i64 0, .int .u64 0, .int .i64 0] t)) w2) (lv : Int) (c : Int) (ig : Int) :
    Joined w (((w2.setCell ⟨w1.heap.size, 0, none⟩ (.int .i64 lv)).setCell ⟨w1.heap.size, 1, none⟩ (.int .u64 c)).setCell ⟨w1.heap.size, 2, none⟩ (.int .i64 ig)) w1.heap.size lv c ig :=
  (((p.drew.lift h1).alloc _).lift h2).stored _ (p.drew.lift h1).gt (Nat.lt_of_lt_of_le (by simp) h2.size)
    (isSome_of (((below_cell h2).1 _ _ (by simp)).trans (World.cell?_alloc_at _ _ _ _ rfl))) (isSome_of (((below_cell h2).1 _ _ (by simp)).trans (World.cell?_alloc_at _ _ _ _ rfl))) (isSome_of (((below_cell h2).1 _ _ (by simp)).trans (World.cell?_alloc_at _ _ _ _ rfl))) _ _ _
/-- first -/
theorem join_first {w W0 w1 w2 : World} (p : Pre w W0) (t : TypeId) (h1 : Below (W0.alloc (.cells #[.int .i64 0, .int .u64 0, .int .i64 0] t)).drew.heap.size (W0.alloc (.cells #[.int .i64 0, .int .u64 0, .int .i64 0] t)).drew w1)
    (h2 : Below w1.heap.size w1 w2) (lv : Int) (c : Int) (ig : Int) :
    Joined w (((w2.setCell ⟨W0.heap.size, 0, none⟩ (.int .i64 lv)).setCell ⟨W0.heap.size, 1, none⟩ (.int .u64 c)).setCell ⟨W0.heap.size, 2, none⟩ (.int .i64 ig)) W0.heap.size lv c ig := by
  have hz : W0.heap.size < w1.heap.size := Nat.lt_of_lt_of_le (by simp) h1.size
  have k : ∀ i v, (#[.int .i64 0, .int .u64 0, .int .i64 0] : Array Value)[i]? = some v → (w2.cell? ⟨W0.heap.size, i, none⟩).isSome = true := fun i v hv =>
    isSome_of (((below_cell h2).1 _ _ hz).trans (((below_cell h1).1 _ _ (by simp)).trans ((World.cell?_alloc_at _ _ _ _ rfl).trans hv)))
  exact (((p.alloc _).drew.lift h1).lift h2).stored _ p.gt (Nat.lt_of_lt_of_le hz h2.size) (k 0 _ rfl) (k 1 _ rfl) (k 2 _ rfl) _ _ _
/-- the world of the two arguments' boxes and of the result's block -/
structure Boxes (w W : World) (a b : Lab) : Prop where
  a0 : W.cell? ⟨w.heap.size, 0, none⟩ = some (.int .i64 a.lv)
  a1 : W.cell? ⟨w.heap.size, 1, none⟩ = some (.int .u64 (u a.c))
  a2 : W.cell? ⟨w.heap.size, 2, none⟩ = some (.int .i64 a.ig)
  b0 : W.cell? ⟨w.heap.size + 1, 0, none⟩ = some (.int .i64 b.lv)
  b1 : W.cell? ⟨w.heap.size + 1, 1, none⟩ = some (.int .u64 (u b.c))
  b2 : W.cell? ⟨w.heap.size + 1, 2, none⟩ = some (.int .i64 b.ig)
  pre : Pre w W
  size : W.heap.size = w.heap.size + 1 + 1 + 1
theorem boxes_new (w : World) (a b : Lab) : Boxes w (((w.alloc (.cells #[.int .i64 a.lv, .int .u64 (u a.c), .int .i64 a.ig] 25)).alloc (.cells #[.int .i64 b.lv, .int .u64 (u b.c), .int .i64 b.ig] 25)).alloc (.cells #[.int .i64 0, .int .u64 0, .int .i64 0] 25)) a b where
  a0 := (World.cell?_alloc_lt _ _ _ (by simp; omega)).trans ((World.cell?_alloc_lt _ _ _ (by simp)).trans (World.cell?_alloc_at _ _ _ _ rfl))
  a1 := (World.cell?_alloc_lt _ _ _ (by simp; omega)).trans ((World.cell?_alloc_lt _ _ _ (by simp)).trans (World.cell?_alloc_at _ _ _ _ rfl))
  a2 := (World.cell?_alloc_lt _ _ _ (by simp; omega)).trans ((World.cell?_alloc_lt _ _ _ (by simp)).trans (World.cell?_alloc_at _ _ _ _ rfl))
  b0 := (World.cell?_alloc_lt _ _ _ (by simp)).trans (World.cell?_alloc_at _ _ _ _ (by simp))
  b1 := (World.cell?_alloc_lt _ _ _ (by simp)).trans (World.cell?_alloc_at _ _ _ _ (by simp))
  b2 := (World.cell?_alloc_lt _ _ _ (by simp)).trans (World.cell?_alloc_at _ _ _ _ (by simp))
  pre := {
    r0 := World.cell?_alloc_at _ _ _ _ (by simp)
    r1 := World.cell?_alloc_at _ _ _ _ (by simp)
    r2 := World.cell?_alloc_at _ _ _ _ (by simp)
    f0 := World.frozen?_alloc_at _ _ _ _ (by simp)
    f1 := World.frozen?_alloc_at _ _ _ _ (by simp)
    f2 := World.frozen?_alloc_at _ _ _ _ (by simp)
    below := (((Below.refl _ _).alloc (Nat.le_refl _) _).alloc (by simp) _).alloc (by simp; omega) _
    gt := by simp }
  size := by simp

set_option maxRecDepth 100000 in
set_option maxHeartbeats 4000000 in
theorem Join_ok (a b : Lab) (w : World) (ha : okL a = true) (hb : okL b = true) :
    Calls Tryd.prog 66 #[.agg #[.int .i64 a.lv, .int .u64 (u a.c), .int .i64 a.ig], .agg #[.int .i64 b.lv, .int .u64 (u b.c), .int .i64 b.ig]] w
      fun e w' => e = .returned (.tuple #[.agg #[.int .i64 (max a.lv b.lv), .int .u64 (u (a.c ||| b.c)), .int .i64 (min a.ig b.ig)], .int .i64 0]) ∧ Below w.heap.size w w' := by
  have hbx := boxes_new w a b
  go_enter Tryd.func66, Tryd.ntmps66
  go_upto_region 1 with fail
  generalize (((w.alloc (.cells #[.int .i64 a.lv, .int .u64 (u a.c), .int .i64 a.ig] 25)).alloc (.cells #[.int .i64 b.lv, .int .u64 (u b.c), .int .i64 b.ig] 25)).alloc (.cells #[.int .i64 0, .int .u64 0, .int .i64 0] 25)) = W0 at *
  obtain ⟨a0, a1, a2, b0, b1, b2, hP, hsz⟩ := hbx
  have HP := Lib.hid hP
  clear hP
  go_cut [6, 7] (fun s6 s7 wx => ∃ g : Nat, s6 = .pointer (some ⟨g, 0, none⟩) ∧ s7 = .nilIface ∧ Joined w wx g (max a.lv b.lv) (u (a.c ||| b.c)) (min a.ig b.ig))
  case first =>
    have HSZ := Lib.hid hsz
    have s0 : w.heap.size < W0.heap.size := by omega
    have s1 : w.heap.size + 1 < W0.heap.size := by omega
    have s2 : w.heap.size + 1 + 1 < W0.heap.size := by omega
    clear hsz
    go_region_held3 (fun w' => w'.cell? ⟨w.heap.size, 0, none⟩ = some (.int .i64 a.lv) ∧ w'.cell? ⟨w.heap.size, 1, none⟩ = some (.int .u64 (u a.c)) ∧ w'.cell? ⟨w.heap.size, 2, none⟩ = some (.int .i64 a.ig) ∧
        w'.cell? ⟨w.heap.size + 1, 0, none⟩ = some (.int .i64 b.lv) ∧ w'.cell? ⟨w.heap.size + 1, 1, none⟩ = some (.int .u64 (u b.c)) ∧ w'.cell? ⟨w.heap.size + 1, 2, none⟩ = some (.int .i64 b.ig))
      ((try dsimp only) <;> (repeat' apply And.intro) <;> (repeat (first | rw [World.cell?_drew] | rw [World.cell?_setCell_far _ _ _ _ (by dsimp only; omega)] | rw [World.cell?_alloc_lt _ _ _ (by dsimp only; omega)] | rw [hc2 _ _ (by first | omega | (simp; omega))] | rw [hc1 _ _ (by first | omega | (simp; omega))])) <;> assumption)
      (first
      | (go_at_call 72; refine (joins_any _).mono ?_; rintro e w1 ⟨rfl, hB1⟩; obtain ⟨hc1, hf1⟩ := below_cell hB1; have HB1 := Lib.hid hB1; clear hB1; have z := HB1.out.size; (try simp at z); have z0 : w.heap.size < w1.heap.size := (by omega); have z1 : w.heap.size + 1 < w1.heap.size := (by omega); have z2 : w.heap.size + 1 + 1 < w1.heap.size := (by omega); try (have z3 : W0.heap.size < w1.heap.size := (by omega)))
      | (go_at_call 73; refine (of_joins a b _ ha hb).mono ?_; rintro e w2 ⟨rfl, hB2⟩; obtain ⟨hc2, hf2⟩ := below_cell hB2; have HB2 := Lib.hid hB2; clear hB2; have y := HB2.out.size; (try simp at y); have y0 : w.heap.size < w2.heap.size := (by omega); have y1 : w.heap.size + 1 < w2.heap.size := (by omega); have y2 : w.heap.size + 1 + 1 < w2.heap.size := (by omega)))
    all_goals (go_wp2_with fail; go_meet; refine ⟨_, rfl, rfl, ?_⟩)
    all_goals (first
      | exact join_last HP.out HB1.out HB2.out _ _ _ _
      | exact join_mid HP.out HB1.out _ HB2.out _ _ _
      | exact join_first HP.out _ HB1.out HB2.out _ _ _)
  case rest =>
    obtain ⟨g, rfl, rfl, c0, c1, c2, ⟨r0, r1, r2, f0, f1, f2, hB, hgt⟩, hne, hlt⟩ := hcut
    have HB := Lib.hid hB
    clear hB HP hsz
    have hr : w.heap.size < w.heap.size + 1 + 1 := by omega
    generalize w.heap.size + 1 + 1 = rb at *
    go_wp2_with fail
    go_region_held3 (fun w' => w'.cell? ⟨g, 0, none⟩ = some (.int .i64 (max a.lv b.lv)) ∧ w'.cell? ⟨g, 1, none⟩ = some (.int .u64 (u (a.c ||| b.c))) ∧ w'.cell? ⟨g, 2, none⟩ = some (.int .i64 (min a.ig b.ig)))
      ((try dsimp only) <;> (repeat' apply And.intro) <;> (repeat (first | rw [World.cell?_drew] | rw [World.cell?_setCell_far _ _ _ _ (by dsimp only; omega)] | rw [World.cell?_alloc_lt _ _ _ (by dsimp only; omega)] | rw [hc2 _ _ (by first | omega | (simp; omega))] | rw [hc1 _ _ (by first | omega | (simp; omega))])) <;> assumption)
      (first
      | (go_at_call 74; refine (told_nil _).mono ?_; rintro e w2 ⟨rfl, hB2⟩; obtain ⟨hc2, hf2⟩ := below_cell hB2; have HB2 := Lib.hid hB2; clear hB2; have y := HB2.out.size; (try simp at y); have y0 : g < w2.heap.size := (by omega); have y1 : rb < w2.heap.size := (by omega);
          have q0 := (hc2 rb 0 (by simpa using hgt)).trans r0; have q1 := (hc2 rb 1 (by simpa using hgt)).trans r1; have q2 := (hc2 rb 2 (by simpa using hgt)).trans r2; have p0 := (hf2 rb 0 (by simpa using hgt)).trans f0; have p1 := (hf2 rb 1 (by simpa using hgt)).trans f1; have p2 := (hf2 rb 2 (by simpa using hgt)).trans f2))
    all_goals (go_wp2_with fail)
    obtain ⟨k0, k1, k2⟩ := set3_cells q0 q1 q2 (.int .i64 (max a.lv b.lv)) (.int .u64 (u (a.c ||| b.c))) (.int .i64 (min a.ig b.ig))
    have hB2 := set3_below HB.out HB2.out hr (.int .i64 (max a.lv b.lv)) (.int .u64 (u (a.c ||| b.c))) (.int .i64 (min a.ig b.ig))
    refine bodyPost_ret (v := .tuple #[.agg #[.int .i64 (max a.lv b.lv), .int .u64 (u (a.c ||| b.c)), .int .i64 (min a.ig b.ig)], .int .i64 0]) (by simp [results, Tryd.results66, go_sem, k0, k1, k2]) rfl ⟨rfl, hB2⟩
set_option maxRecDepth 100000 in
set_option maxHeartbeats 4000000 in
theorem Join_bad (a b : Lab) (w : World) (hh : ∀ w', Below w.heap.size w w' → Handle w') (h : ¬ (okL a = true ∧ okL b = true)) :
    Calls Tryd.prog 66 #[.agg #[.int .i64 a.lv, .int .u64 (u a.c), .int .i64 a.ig], .agg #[.int .i64 b.lv, .int .u64 (u b.c), .int .i64 b.ig]] w
      fun e w' => e = .returned (.tuple #[.agg #[.int .i64 0, .int .u64 0, .int .i64 0], .int .i64 20]) ∧ Below w.heap.size w w' := by
  have hbx := boxes_new w a b
  go_enter Tryd.func66, Tryd.ntmps66
  go_upto_region 1 with fail
  generalize (((w.alloc (.cells #[.int .i64 a.lv, .int .u64 (u a.c), .int .i64 a.ig] 25)).alloc (.cells #[.int .i64 b.lv, .int .u64 (u b.c), .int .i64 b.ig] 25)).alloc (.cells #[.int .i64 0, .int .u64 0, .int .i64 0] 25)) = W0 at *
  obtain ⟨a0, a1, a2, b0, b1, b2, hP, hsz⟩ := hbx
  have HP := Lib.hid hP
  clear hP
  go_cut [6, 7] (fun s6 s7 wx => ∃ g : Nat, s6 = .pointer (some ⟨g, 0, none⟩) ∧ (∃ x : Lab, s7 = .iface 97 (.agg #[.int .i64 x.lv, .int .u64 (u x.c), .int .i64 x.ig])) ∧ Joined w wx g 0 0 0)
  case first =>
    have HSZ := Lib.hid hsz
    have s0 : w.heap.size < W0.heap.size := by omega
    have s1 : w.heap.size + 1 < W0.heap.size := by omega
    have s2 : w.heap.size + 1 + 1 < W0.heap.size := by omega
    clear hsz
    go_region_held3 (fun w' => w'.cell? ⟨w.heap.size, 0, none⟩ = some (.int .i64 a.lv) ∧ w'.cell? ⟨w.heap.size, 1, none⟩ = some (.int .u64 (u a.c)) ∧ w'.cell? ⟨w.heap.size, 2, none⟩ = some (.int .i64 a.ig) ∧
        w'.cell? ⟨w.heap.size + 1, 0, none⟩ = some (.int .i64 b.lv) ∧ w'.cell? ⟨w.heap.size + 1, 1, none⟩ = some (.int .u64 (u b.c)) ∧ w'.cell? ⟨w.heap.size + 1, 2, none⟩ = some (.int .i64 b.ig))
      ((try dsimp only) <;> (repeat' apply And.intro) <;> (repeat (first | rw [World.cell?_drew] | rw [World.cell?_setCell_far _ _ _ _ (by dsimp only; omega)] | rw [World.cell?_alloc_lt _ _ _ (by dsimp only; omega)] | rw [hc2 _ _ (by first | omega | (simp; omega))] | rw [hc1 _ _ (by first | omega | (simp; omega))])) <;> assumption)
      (first
      | (go_at_call 72; refine (joins_any _).mono ?_; rintro e w1 ⟨rfl, hB1⟩; obtain ⟨hc1, hf1⟩ := below_cell hB1; have HB1 := Lib.hid hB1; clear hB1; have z := HB1.out.size; (try simp at z); have z0 : w.heap.size < w1.heap.size := (by omega); have z1 : w.heap.size + 1 < w1.heap.size := (by omega); have z2 : w.heap.size + 1 + 1 < w1.heap.size := (by omega); try (have z3 : W0.heap.size < w1.heap.size := (by omega)))
      | (go_at_call 73; refine (of_bad _ _ _ a b _ h).mono ?_; rintro e w2 ⟨x, rfl, hB2⟩; obtain ⟨hc2, hf2⟩ := below_cell hB2; have HB2 := Lib.hid hB2; clear hB2; have y := HB2.out.size; (try simp at y); have y0 : w.heap.size < w2.heap.size := (by omega); have y1 : w.heap.size + 1 < w2.heap.size := (by omega); have y2 : w.heap.size + 1 + 1 < w2.heap.size := (by omega)))
    all_goals (go_wp2_with fail; go_meet; refine ⟨_, rfl, ⟨_, rfl⟩, ?_⟩)
    all_goals (first
      | exact join_last HP.out HB1.out HB2.out _ _ _ _
      | exact join_mid HP.out HB1.out _ HB2.out _ _ _
      | exact join_first HP.out _ HB1.out HB2.out _ _ _)
  case rest =>
    obtain ⟨g, rfl, ⟨x, rfl⟩, c0, c1, c2, ⟨r0, r1, r2, f0, f1, f2, hB, hgt⟩, hne, hlt⟩ := hcut
    have HH := Lib.hid (hh _ (hB.drew))
    have HB := Lib.hid hB
    clear hB HP hsz hh
    have hr : w.heap.size < w.heap.size + 1 + 1 := by omega
    generalize w.heap.size + 1 + 1 = rb at *
    go_wp2_with fail
    go_region_held3 (fun w' => w'.cell? ⟨g, 0, none⟩ = some (.int .i64 0) ∧ w'.cell? ⟨g, 1, none⟩ = some (.int .u64 0) ∧ w'.cell? ⟨g, 2, none⟩ = some (.int .i64 0))
      ((try dsimp only) <;> (repeat' apply And.intro) <;> (repeat (first | rw [World.cell?_drew] | rw [World.cell?_setCell_far _ _ _ _ (by dsimp only; omega)] | rw [World.cell?_alloc_lt _ _ _ (by dsimp only; omega)] | rw [hc2 _ _ (by first | omega | (simp; omega))] | rw [hc1 _ _ (by first | omega | (simp; omega))])) <;> assumption)
      (first
      | (go_at_call 74; refine (told_wrong x _ HH.out).mono ?_; rintro e w2 ⟨rfl, hB2⟩; obtain ⟨hc2, hf2⟩ := below_cell hB2; have HB2 := Lib.hid hB2; clear hB2; have y := HB2.out.size; (try simp at y); have y0 : g < w2.heap.size := (by omega); have y1 : rb < w2.heap.size := (by omega);
          have q0 := (hc2 rb 0 (by simpa using hgt)).trans r0; have q1 := (hc2 rb 1 (by simpa using hgt)).trans r1; have q2 := (hc2 rb 2 (by simpa using hgt)).trans r2; have p0 := (hf2 rb 0 (by simpa using hgt)).trans f0; have p1 := (hf2 rb 1 (by simpa using hgt)).trans f1; have p2 := (hf2 rb 2 (by simpa using hgt)).trans f2))
    all_goals (go_wp2_with fail)
    obtain ⟨k0, k1, k2⟩ := set3_cells q0 q1 q2 (.int .i64 0) (.int .u64 0) (.int .i64 0)
    have hB2 := set3_below HB.out HB2.out hr (.int .i64 0) (.int .u64 0) (.int .i64 0)
    refine bodyPost_ret (v := .tuple #[.agg #[.int .i64 0, .int .u64 0, .int .i64 0], .int .i64 20]) (by simp [results, Tryd.results66, go_sem, k0, k1, k2]) rfl ⟨rfl, hB2⟩
end

section
open Go.RowKit

/-- block g is just the cells cs, none frozen -/
def Blk (w : World) (g : Nat) (t : TypeId) (cs : Array Value) : Prop := w.heap[g]? = some (.cells cs t (0, 0))
theorem Blk.lt {w : World} {g : Nat} {t : TypeId} {cs : Array Value} (h : Blk w g t cs) : g < w.heap.size := by
  rcases Nat.lt_or_ge g w.heap.size with hlt | hge
  · exact hlt
  · unfold Blk at h; rw [Array.getElem?_eq_none hge] at h; cases h
theorem Blk.cell {w : World} {g : Nat} {t : TypeId} {cs : Array Value} (h : Blk w g t cs) (i : Nat) : w.cell? ⟨g, i, none⟩ = cs[i]? := cell_of_row w g i cs t (0, 0) h
theorem Blk.at_ {w : World} {g : Nat} {t : TypeId} {cs : Array Value} (h : Blk w g t cs) {i : Nat} {v : Value} (hv : cs[i]? = some v) : w.cell? ⟨g, i, none⟩ = some v := (h.cell i).trans hv
theorem Blk.frozen {w : World} {g : Nat} {t : TypeId} {cs : Array Value} (h : Blk w g t cs) (i : Nat) : w.frozen? ⟨g, i, none⟩ = false := by
  unfold Blk at h
  simp [World.frozen?, h]
theorem Blk.new' {w : World} {g : Nat} {t : TypeId} {cs : Array Value} (hg : g = w.heap.size) : Blk (w.alloc (.cells cs t)) g t cs := by
  subst hg
  show (w.heap.push _)[w.heap.size]? = _
  simp
theorem Blk.drew {w : World} {g : Nat} {t : TypeId} {cs : Array Value} (h : Blk w g t cs) : Blk w.drew g t cs := h
theorem Blk.alloc {w : World} {g : Nat} {t : TypeId} {cs : Array Value} (h : Blk w g t cs) (o : Obj) : Blk (w.alloc o) g t cs := (Below.heap_alloc w o g h.lt).trans h
theorem Blk.set' {w : World} {g i : Nat} {t : TypeId} {cs cs' : Array Value} {u : Value} (h : Blk w g t cs) (hc : cs.setIfInBounds i u = cs') : Blk (w.setCell ⟨g, i, none⟩ u) g t cs' := by
  subst hc
  unfold Blk at h ⊢
  simp [World.setCell, Array.getElem?_modify, h]
theorem Blk.far {w : World} {g b i : Nat} {t : TypeId} {cs : Array Value} (h : Blk w g t cs) (hp : g ≠ b) (u : Value) : Blk (w.setCell ⟨b, i, none⟩ u) g t cs := (Below.heap_setCell w ⟨b, i, none⟩ u g hp).trans h
theorem Blk.below {B : Nat} {w w' : World} {g : Nat} {t : TypeId} {cs : Array Value} (h : Blk w g t cs) (hb : Below B w w') (hg : g < B) : Blk w' g t cs := (hb.block g hg).trans h
theorem Blk.after {w w' : World} {g : Nat} {t : TypeId} {cs : Array Value} (h : Blk w g t cs) (hb : Below w.heap.size w w') : Blk w' g t cs := h.below hb h.lt
theorem Blk.grown {w w' : World} {row : Option Nat} {g : Nat} {t : TypeId} {cs : Array Value} (h : Blk w g t cs) (hb : w.grownBy w' row) (hg : some g ≠ row) : Blk w' g t cs := (hb.block g h.lt hg).trans h
theorem Blk.isCells {w : World} {g : Nat} {t : TypeId} {cs : Array Value} (h : Blk w g t cs) : w.heap[g]? = some (.cells cs t (0, 0)) := h

/-- what lay when the call began lies as it lay -/
theorem below_alloc {w W : World} (h : Below w.heap.size w W) (o : Obj) : Below w.heap.size w (W.alloc o) := h.alloc h.size o
theorem below_set {w W : World} {b i : Nat} (h : Below w.heap.size w W) (hb : w.heap.size ≤ b) (u : Value) : Below w.heap.size w (W.setCell ⟨b, i, none⟩ u) := h.setCell hb u
theorem below_call {w W W' : World} (h : Below w.heap.size w W) (k : Below W.heap.size W W') : Below w.heap.size w W' := h.trans (k.mono h.size)

/-- a store into the block made last: the block made anew -/
theorem Blk.realloc {w : World} {g : Nat} {t : TypeId} {cs : Array Value} {o o' : Obj} (h : Blk (w.alloc o) g t cs) (hg : g ≠ w.heap.size) : Blk (w.alloc o') g t cs := by
  have hlt : g < w.heap.size := by have := h.lt; simp at this; omega
  have h0 : Blk w g t cs := (Below.heap_alloc w o g hlt).symm.trans h
  exact h0.alloc o'
theorem below_realloc {w W : World} {o o' : Obj} (h : Below w.heap.size w (W.alloc o)) (hs : w.heap.size ≤ W.heap.size) : Below w.heap.size w (W.alloc o') :=
  ⟨h.os, h.tape, h.output, by simpa using h.size, fun k hk => (Below.heap_alloc W o' k (by omega)).trans ((Below.heap_alloc W o k (by omega)).symm.trans (h.block k hk))⟩
/-- an operation of a region, written out (not left as an element of the row) -/
theorem op_at {α : Type} {xs : Array α} {i : Nat} {x : α} {rest : List α} (h : xs.toList.drop i = x :: rest) : xs[i]? = some x := by
  rw [← Array.getElem?_toList, ← List.head?_drop, h]; rfl
/-- a region that draws its order, walked in one order, from a world of which S alone is known -/
theorem wp_region_gen {P : Program} {ops : Array Oper} {Q : Exit → Act → World → Prop} {S : World → Prop} {id : Nat} {a : Act} {w : World} (hm : P.follows .mixedOrders = true) (hS : S w.drew)
    (h : ∀ W, S W → wpAnyH P .any ops Q S ops.size (Array.replicate ops.size false) a W) : (Code.region id ops true).wp P Q a w :=
  wp_region_held_drew hm hS (fun hs => h _ hs)
theorem wp_region_gen2 {P : Program} {ops : Array Oper} {Q : Exit → Act → World → Prop} {S N : World → Prop} {id : Nat} {a : Act} {w : World} (hm : P.follows .mixedOrders = true) (hS : S w.drew) (hN : N w.drew)
    (h : ∀ W, S W → N W → wpAnyH P .any ops Q S ops.size (Array.replicate ops.size false) a W) : (Code.region id ops true).wp P Q a w :=
  wp_region_held_drew hm hS (fun hs => h _ hs hN)
end

section
open Go.RowKit

/-- A slice value that reads as a list of labels (nil too), in blocks below B. -/
def LabsAt (B : Nat) (w : World) (v : Value) (l : List Lab) : Prop :=
  (v = .slice none 0 0 ∧ l = []) ∨ ∃ b off cap, v = .slice (some ⟨b, off, none⟩) l.length cap ∧ b < B ∧ l.length ≤ cap ∧ l.length ≤ 9223372036854775807 ∧
    ∀ k x, l[k]? = some x → w.cell? ⟨b, off + k * 3, none⟩ = some (.int .i64 x.lv) ∧ w.cell? ⟨b, off + k * 3 + 1, none⟩ = some (.int .u64 (u x.c)) ∧ w.cell? ⟨b, off + k * 3 + 2, none⟩ = some (.int .i64 x.ig)
theorem LabsAt.nil (B : Nat) (w : World) : LabsAt B w (.slice none 0 0) [] := .inl ⟨rfl, rfl⟩
theorem LabsAt.keep {B : Nat} {w w' : World} {v : Value} {l : List Lab} (h : LabsAt B w v l) (hk : ∀ b o u, b < B → w.cell? ⟨b, o, none⟩ = some u → w'.cell? ⟨b, o, none⟩ = some u) : LabsAt B w' v l := by
  rcases h with h | ⟨b, off, cap, hv, hlt, hcap, hn, hc⟩
  · exact .inl h
  · exact .inr ⟨b, off, cap, hv, hlt, hcap, hn, fun k x hx => ⟨hk _ _ _ hlt (hc k x hx).1, hk _ _ _ hlt (hc k x hx).2.1, hk _ _ _ hlt (hc k x hx).2.2⟩⟩
theorem LabsAt.below {B : Nat} {w w' : World} {v : Value} {l : List Lab} (h : LabsAt B w v l) (hb : Below B w w') : LabsAt B w' v l :=
  h.keep fun b o _ hlt hu => (hb.cell (p := ⟨b, o, none⟩) hlt).trans hu
theorem LabsAt.mono {B B' : Nat} {w : World} {v : Value} {l : List Lab} (h : LabsAt B w v l) (hb : B ≤ B') : LabsAt B' w v l := by
  rcases h with h | ⟨b, off, cap, hv, hlt, r⟩
  · exact .inl h
  · exact .inr ⟨b, off, cap, hv, by omega, r⟩
theorem LabsAt.slice {B : Nat} {w : World} {v : Value} {l : List Lab} (h : LabsAt B w v l) : ∃ A m c, v = .slice A m c := by
  rcases h with ⟨rfl, _⟩ | ⟨b, off, cap, rfl, _⟩
  · exact ⟨_, _, _, rfl⟩
  · exact ⟨_, _, _, rfl⟩
theorem LabsAt.of1 {w : World} {g : Nat} {t : TypeId} {x : Lab} (h : Blk w g t #[.int .i64 x.lv, .int .u64 (u x.c), .int .i64 x.ig]) : LabsAt w.heap.size w (.slice (some ⟨g, 0, none⟩) 1 1) [x] := by
  refine .inr ⟨g, 0, 1, rfl, h.lt, by simp, by simp, fun k y hy => ?_⟩
  match k with
  | 0 => cases hy; exact ⟨h.at_ rfl, h.at_ rfl, h.at_ rfl⟩
  | k + 1 => simp at hy
theorem LabsAt.of2 {w : World} {g : Nat} {t : TypeId} {x z : Lab} (h : Blk w g t #[.int .i64 x.lv, .int .u64 (u x.c), .int .i64 x.ig, .int .i64 z.lv, .int .u64 (u z.c), .int .i64 z.ig]) : LabsAt w.heap.size w (.slice (some ⟨g, 0, none⟩) 2 2) [x, z] := by
  refine .inr ⟨g, 0, 2, rfl, h.lt, by simp, by simp, fun k y hy => ?_⟩
  match k with
  | 0 => cases hy; exact ⟨h.at_ rfl, h.at_ rfl, h.at_ rfl⟩
  | 1 => cases hy; exact ⟨h.at_ rfl, h.at_ rfl, h.at_ rfl⟩
  | k + 2 => simp at hy
theorem LabsAt.of3 {w : World} {g : Nat} {t : TypeId} {x z v : Lab} (h : Blk w g t #[.int .i64 x.lv, .int .u64 (u x.c), .int .i64 x.ig, .int .i64 z.lv, .int .u64 (u z.c), .int .i64 z.ig, .int .i64 v.lv, .int .u64 (u v.c), .int .i64 v.ig]) : LabsAt w.heap.size w (.slice (some ⟨g, 0, none⟩) 3 3) [x, z, v] := by
  refine .inr ⟨g, 0, 3, rfl, h.lt, by simp, by simp, fun k y hy => ?_⟩
  match k with
  | 0 => cases hy; exact ⟨h.at_ rfl, h.at_ rfl, h.at_ rfl⟩
  | 1 => cases hy; exact ⟨h.at_ rfl, h.at_ rfl, h.at_ rfl⟩
  | 2 => cases hy; exact ⟨h.at_ rfl, h.at_ rfl, h.at_ rfl⟩
  | k + 3 => simp at hy
end

section
open Go.RowKit

attribute [local go_sem] u_and u_or u_andNot u_add u_sub u_bit u_eq_zero u_beq

def RightIs (a : Lab) (r : Bool) : Prop := ∀ W, Calls Tryd.prog 58 #[.agg #[.int .i64 a.lv, .int .u64 (u a.c), .int .i64 a.ig]] W fun e w' => e = .returned (.bool r) ∧ Below W.heap.size W w'
theorem rightIs {a : Lab} {r : Bool} (h : okL a = r) : RightIs a r := fun W => by rw [← h]; exact Right_any a W
/-- what areRight answers -/
def rightsV (l : List Lab) : Value := match l.find? (fun x => !okL x) with
  | none => .nilIface
  | some x => .iface 113 (.agg #[.nilIface, .int .i64 x.lv, .int .u64 (u x.c), .int .i64 x.ig])
theorem rightsV_cons (x : Lab) (l : List Lab) : rightsV (x :: l) = if okL x = true then rightsV l else .iface 113 (.agg #[.nilIface, .int .i64 x.lv, .int .u64 (u x.c), .int .i64 x.ig]) := by
  unfold rightsV
  cases h : okL x <;> simp [h]
theorem drop_step {α : Type} {l : List α} {k : Nat} {x : α} (h : l[k]? = some x) : l.drop k = x :: l.drop (k + 1) := by
  obtain ⟨hlt, rfl⟩ := List.getElem?_eq_some_iff.1 h
  exact List.drop_eq_getElem_cons hlt
/-- the rest is as the whole -/
def RightsLeft (l : List Lab) (k : Nat) : Prop := rightsV l = rightsV (l.drop k)
theorem RightsLeft.next {l : List Lab} {k : Nat} {x : Lab} (h : RightsLeft l k) (hx : l[k]? = some x) (ho : okL x = true) : RightsLeft l (k + 1) := by
  unfold RightsLeft at *
  rw [h, drop_step hx, rightsV_cons, if_pos ho]
theorem RightsLeft.bad {l : List Lab} {k : Nat} {x : Lab} (h : RightsLeft l k) (hx : l[k]? = some x) (ho : okL x = false) : rightsV l = .iface 113 (.agg #[.nilIface, .int .i64 x.lv, .int .u64 (u x.c), .int .i64 x.ig]) := by
  unfold RightsLeft at *
  rw [h, drop_step hx, rightsV_cons, ho]; rfl
theorem RightsLeft.end_ {l : List Lab} {k : Nat} (h : RightsLeft l k) (hk : l.length ≤ k) : rightsV l = .nilIface := by
  unfold RightsLeft at *
  rw [h, List.drop_eq_nil_of_le hk]; rfl
set_option maxHeartbeats 2000000 in
theorem areRight_any (v : Value) (l : List Lab) (w : World) (hl : LabsAt w.heap.size w v l) :
    Calls Tryd.prog 54 #[v] w fun e w' => e = .returned (rightsV l) ∧ Below w.heap.size w w' := by
  rcases hl with ⟨rfl, rfl⟩ | ⟨b, off, cap, rfl, hlt, hcap, hn, hc⟩
  · go_enter Tryd.func54, Tryd.ntmps54
    go_wp2
    refine wp_loop_rounds 1 ?_
    rw [rounds_succ]
    go_wp2
    go_ret
    exact ⟨rfl, Below.refl _ _⟩
  · have HC := Lib.hid hc
    clear hc
    go_enter Tryd.func54, Tryd.ntmps54
    go_wp2
    go_loopw [7] (fun i wr => ∃ k : Nat, i = .int .i64 k ∧ k ≤ l.length ∧ RightsLeft l k ∧ Below w.heap.size w wr) (fun i _ => l.length - (intOf i).toNat)
    case atStart => exact ⟨0, rfl, Nat.zero_le _, rfl, Below.refl _ _⟩
    case round =>
      obtain ⟨k, rfl, hk, hR, hB⟩ := hrel
      have HB := Lib.hid hB
      clear hB
      by_cases hkl : k < l.length
      · obtain ⟨x, hx⟩ : ∃ x, l[k]? = some x := ⟨_, List.getElem?_eq_getElem hkl⟩
        obtain ⟨c0, c1, c2⟩ := HC.out k x hx
        rw [← HB.out.cell hlt] at c0 c1 c2
        have HX := Lib.hid hx
        have HR := Lib.hid hR
        clear hx hR
        cases ho : okL x
        · have HO := Lib.hid (HR.out.bad HX.out ho)
          have HN := Lib.hid (rightIs ho)
          clear ho
          go_wp2_with fail
          refine (HN.out _).mono ?_
          rintro e w1 ⟨rfl, hB⟩
          obtain ⟨hc1, hf1⟩ := below_cell hB
          have HB1 := Lib.hid hB
          clear hB
          go_wp2_with fail
          go_ret
          rw [HO.out]
          exact ⟨rfl, below_call (below_alloc HB.out _) HB1.out⟩
        · have HO := Lib.hid (HR.out.next HX.out ho)
          have HN := Lib.hid (rightIs ho)
          clear ho
          go_wp2_with fail
          refine (HN.out _).mono ?_
          rintro e w1 ⟨rfl, hB⟩
          have HB1 := Lib.hid hB
          clear hB
          go_wp2_with fail
          go_roundw
          case rel => exact ⟨k + 1, by go_num, by omega, HO.out, below_call (below_alloc HB.out _) HB1.out⟩
          case measure => simp [intOf]; omega
      · have HE := Lib.hid (hR.end_ (by omega))
        go_wp2_with fail
        go_ret
        rw [HE.out]
        exact ⟨rfl, HB.out⟩
theorem areRight_is {l : List Lab} {r : Value} (hr : rightsV l = r) {v : Value} (w : World) (hl : LabsAt w.heap.size w v l) :
    Calls Tryd.prog 54 #[v] w fun e w' => e = .returned r ∧ Below w.heap.size w w' := by
  subst hr; exact areRight_any v l w hl
theorem rightsV_ok {l : List Lab} (h : ∀ x ∈ l, okL x = true) : rightsV l = .nilIface := by
  unfold rightsV
  rw [List.find?_eq_none.2 (fun x hx => by simp [h x hx])]
theorem rightsV_no {l : List Lab} (h : ¬ ∀ x ∈ l, okL x = true) : ∃ x : Lab, rightsV l = .iface 113 (.agg #[.nilIface, .int .i64 x.lv, .int .u64 (u x.c), .int .i64 x.ig]) := by
  unfold rightsV
  cases hf : l.find? (fun x => !okL x) with
  | none => exact absurd (fun x hx => by simpa using List.find?_eq_none.1 hf x hx) h
  | some x => exact ⟨x, rfl⟩
end

section
open Go.RowKit Go.Extern.Stop Go.Stop Go.Extern

/-! ### errors.As: closed facts -/
theorem valueOfPS (t : Addr) (w : World) : (callFunc 61 #[.iface 115 (.pointer (some t))]).run Tryd.prog w
    = .ok (.value (.agg #[.pointer (some ⟨2, 115, none⟩), .pointer (some ⟨w.heap.size, 0, none⟩), .int .u64 150])) (w.alloc (.cells #[.pointer (some t)] 115)) := by kernel_rfl
theorem typePS (a : Addr) (w : World) : (callFunc 62 #[.agg #[.pointer (some ⟨2, 115, none⟩), .pointer (some a), .int .u64 150]]).run Tryd.prog w
    = .ok (.value (.iface 117 (.agg #[.pointer (some ⟨2, 115, none⟩)]))) w := by kernel_rfl
theorem kindPS (w : World) : (callFunc 94 #[.pointer (some ⟨2, 115, none⟩)]).run Tryd.prog w = .ok (.value (.int .u8 22)) w := by kernel_rfl
theorem kindWS (w : World) : (callFunc 94 #[.pointer (some ⟨2, 113, none⟩)]).run Tryd.prog w = .ok (.value (.int .u8 25)) w := by kernel_rfl
theorem elemPS (w : World) : (callFunc 110 #[.agg #[.pointer (some ⟨2, 115, none⟩)]]).run Tryd.prog w
    = .ok (.value (.iface 117 (.agg #[.pointer (some ⟨2, 113, none⟩)]))) w := by kernel_rfl
theorem implWS (w : World) : (callFunc 111 #[.agg #[.pointer (some ⟨2, 113, none⟩)], .iface 117 (.agg #[.pointer (some ⟨2, 61, none⟩)])]).run Tryd.prog w = .ok (.value (.bool true)) w := by kernel_rfl
theorem typeOfWS (v : Value) (w : World) : (callFunc 69 #[.iface 113 v]).run Tryd.prog w
    = .ok (.value (.iface 117 (.agg #[.pointer (some ⟨2, 113, none⟩)]))) w := by kernel_rfl
theorem assignWS (w : World) : (callFunc 108 #[.agg #[.pointer (some ⟨2, 113, none⟩)], .iface 117 (.agg #[.pointer (some ⟨2, 113, none⟩)])]).run Tryd.prog w = .ok (.value (.bool true)) w := by kernel_rfl
theorem valueOfWS (c0 c1 c2 c3 : Value) (w : World) : (callFunc 61 #[.iface 113 (.agg #[c0, c1, c2, c3])]).run Tryd.prog w
    = .ok (.value (.agg #[.pointer (some ⟨2, 113, none⟩), .pointer (some ⟨w.heap.size, 0, none⟩), .int .u64 153])) (w.alloc (.cells #[c0, c1, c2, c3] 113)) := by kernel_rfl
theorem partsPS (a : Addr) (w : World) : (ReflectliteValue.parts (.agg #[.pointer (some ⟨2, 115, none⟩), .pointer (some a), .int .u64 150])).run Tryd.prog w = .ok (some (115, a, 150)) w := by kernel_rfl
theorem isNilPS (a p : Addr) (W : World) (ha : W.cell? a = some (.pointer (some p))) :
    (callFunc 63 #[.agg #[.pointer (some ⟨2, 115, none⟩), .pointer (some a), .int .u64 150]]).run Tryd.prog W = .ok (.value (.bool false)) W := by
  rw [@run_callFunc_extern Tryd.prog 63 _ (ReflectliteValue.method (ReflectliteValue.valueError "reflectlite.Value.IsNil" 0) ReflectliteValue.isNil) Tryd.func63 (by kernel_rfl) (by kernel_rfl) (by kernel_rfl) (by kernel_rfl), rlm]
  simp only [Sem.run_bind, partsPS, Result.andThen]
  simp [ReflectliteValue.isNil, loadVar, isAgg, underlying, Tryd.underlying115, ha, Result.andThen]
theorem elemOfPS (w : World) : (Rtype.elem? 115).run Tryd.prog w = .ok (some 113) w := by kernel_rfl
theorem mkWS (p : Addr) (w : World) : (ReflectliteValue.mk 113 p ReflectliteValue.flagAddr).run Tryd.prog w = .ok (.agg #[.pointer (some ⟨2, 113, none⟩), .pointer (some p), .int .u64 409]) w := by kernel_rfl
theorem elemVPS (a p : Addr) (W : World) (ha : W.cell? a = some (.pointer (some p))) :
    (callFunc 70 #[.agg #[.pointer (some ⟨2, 115, none⟩), .pointer (some a), .int .u64 150]]).run Tryd.prog W = .ok (.value (.agg #[.pointer (some ⟨2, 113, none⟩), .pointer (some p), .int .u64 409])) W := by
  rw [@run_callFunc_extern Tryd.prog 70 _ (ReflectliteValue.method (ReflectliteValue.valueError "reflectlite.Value.Elem" 0) ReflectliteValue.elem) Tryd.func70 (by kernel_rfl) (by kernel_rfl) (by kernel_rfl) (by kernel_rfl), rlm]
  simp only [Sem.run_bind, partsPS, Result.andThen]
  simp [ReflectliteValue.elem, loadVar, isAgg, underlying, Tryd.underlying115, ha, Result.andThen, elemOfPS, mkWS]
theorem partsWaS (a : Addr) (w : World) : (ReflectliteValue.parts (.agg #[.pointer (some ⟨2, 113, none⟩), .pointer (some a), .int .u64 409])).run Tryd.prog w = .ok (some (113, a, 409)) w := by kernel_rfl
theorem partsWS (a : Addr) (w : World) : (ReflectliteValue.parts (.agg #[.pointer (some ⟨2, 113, none⟩), .pointer (some a), .int .u64 153])).run Tryd.prog w = .ok (some (113, a, 153)) w := by kernel_rfl
theorem directWS (w : World) : (Rtype.directlyAssignable 113 113).run Tryd.prog w = .ok true w := by kernel_rfl
theorem setWS (tb bb : Nat) (x : Lab) (W : World)
    (h0 : W.cell? ⟨bb, 0, none⟩ = some (.nilIface)) (h1 : W.cell? ⟨bb, 1, none⟩ = some (.int .i64 x.lv)) (h2 : W.cell? ⟨bb, 2, none⟩ = some (.int .u64 (u x.c))) (h3 : W.cell? ⟨bb, 3, none⟩ = some (.int .i64 x.ig))
    (t0 : W.cell? ⟨tb, 0, none⟩ = some (.nilIface)) (t1 : W.cell? ⟨tb, 1, none⟩ = some (.int .i64 0)) (t2 : W.cell? ⟨tb, 2, none⟩ = some (.int .u64 0)) (t3 : W.cell? ⟨tb, 3, none⟩ = some (.int .i64 0))
    (f0 : W.frozen? ⟨tb, 0, none⟩ = false) (f1 : W.frozen? ⟨tb, 1, none⟩ = false) (f2 : W.frozen? ⟨tb, 2, none⟩ = false) (f3 : W.frozen? ⟨tb, 3, none⟩ = false) :
    (callFunc 71 #[.agg #[.pointer (some ⟨2, 113, none⟩), .pointer (some ⟨tb, 0, none⟩), .int .u64 409], .agg #[.pointer (some ⟨2, 113, none⟩), .pointer (some ⟨bb, 0, none⟩), .int .u64 153]]).run Tryd.prog W
      = .ok (.value (.tuple #[])) ((((W.setCell ⟨tb, 0, none⟩ (.nilIface)).setCell ⟨tb, 1, none⟩ (.int .i64 x.lv)).setCell ⟨tb, 2, none⟩ (.int .u64 (u x.c))).setCell ⟨tb, 3, none⟩ (.int .i64 x.ig)) := by
  rw [@run_callFunc_extern Tryd.prog 71 _ ReflectliteValue.set Tryd.func71 (by kernel_rfl) (by kernel_rfl) (by kernel_rfl) (by kernel_rfl), rls]
  simp only [Sem.run_bind, partsWaS, partsWS, Result.andThen]
  simp [ReflectliteValue.flagAddr, Result.andThen, directWS]
  go_simp
set_option maxRecDepth 100000 in
set_option maxHeartbeats 4000000 in
theorem as2_hitS (x : Lab) (tb ab : Nat) (w : World) (ha : w.cell? ⟨ab, 0, none⟩ = some (.pointer (some ⟨tb, 0, none⟩))) (hab : ab < w.heap.size) (htb : tb < w.heap.size)
    (t0 : w.cell? ⟨tb, 0, none⟩ = some (.nilIface)) (t1 : w.cell? ⟨tb, 1, none⟩ = some (.int .i64 0)) (t2 : w.cell? ⟨tb, 2, none⟩ = some (.int .u64 0)) (t3 : w.cell? ⟨tb, 3, none⟩ = some (.int .i64 0))
    (f0 : w.frozen? ⟨tb, 0, none⟩ = false) (f1 : w.frozen? ⟨tb, 1, none⟩ = false) (f2 : w.frozen? ⟨tb, 2, none⟩ = false) (f3 : w.frozen? ⟨tb, 3, none⟩ = false) :
    Calls Tryd.prog 64 #[.iface 113 (.agg #[.nilIface, .int .i64 x.lv, .int .u64 (u x.c), .int .i64 x.ig]), .iface 115 (.pointer (some ⟨tb, 0, none⟩)), .agg #[.pointer (some ⟨2, 115, none⟩), .pointer (some ⟨ab, 0, none⟩), .int .u64 150], .iface 117 (.agg #[.pointer (some ⟨2, 113, none⟩)])] w
      fun e w' => e = .returned (.bool true) ∧ w.grownBy w' (some tb) := by
  have c1 := typeOfWS
  have c2 := assignWS
  have c3 := valueOfWS
  have hA : ∀ (o : Obj) (p : Addr), p.block < w.heap.size → (w.alloc o).cell? p = w.cell? p := fun o p h => World.cell?_alloc_lt _ _ p h
  have hA2 : ∀ (o o' : Obj) (p : Addr), p.block < w.heap.size → ((w.alloc o).alloc o').cell? p = w.cell? p := fun o o' p h => (World.cell?_alloc_lt _ _ p (by simp; omega)).trans (World.cell?_alloc_lt _ _ p h)
  have hF2 : ∀ (o o' : Obj) (p : Addr), p.block < w.heap.size → ((w.alloc o).alloc o').frozen? p = w.frozen? p := fun o o' p h => (World.frozen?_alloc_old _ _ p (by simp; omega)).trans (World.frozen?_alloc_old _ _ p (by omega))
  have c4 := elemVPS ⟨ab, 0, none⟩ ⟨tb, 0, none⟩ (w.alloc (.cells #[.pointer (some ⟨2, 115, none⟩), .pointer (some ⟨ab, 0, none⟩), .int .u64 150] 101)) ((hA _ _ hab).trans ha)
  have c5 := setWS tb (w.heap.size + 1) x
    ((w.alloc (.cells #[.pointer (some ⟨2, 115, none⟩), .pointer (some ⟨ab, 0, none⟩), .int .u64 150] 101)).alloc (.cells #[.nilIface, .int .i64 x.lv, .int .u64 (u x.c), .int .i64 x.ig] 113))
    (World.cell?_alloc_at _ _ _ _ (by simp)) (World.cell?_alloc_at _ _ _ _ (by simp)) (World.cell?_alloc_at _ _ _ _ (by simp)) (World.cell?_alloc_at _ _ _ _ (by simp))
    ((hA2 _ _ _ htb).trans t0) ((hA2 _ _ _ htb).trans t1) ((hA2 _ _ _ htb).trans t2) ((hA2 _ _ _ htb).trans t3) ((hF2 _ _ _ htb).trans f0) ((hF2 _ _ _ htb).trans f1) ((hF2 _ _ _ htb).trans f2) ((hF2 _ _ _ htb).trans f3)
  clear hA hA2 hF2 ha t0 t1 t2 t3 f0 f1 f2 f3 hab htb
  go_enter Tryd.func64, Tryd.ntmps64
  go_wp2_with fail
  refine wp_loop_rounds 1 ?_
  rw [rounds_succ]
  go_wp2
  go_ret
  refine ⟨rfl, ?_⟩
  have hset : ∀ (W : World) (o : Nat) (v : Value), W.grownBy (W.setCell ⟨tb, o, none⟩ v) (some tb) := fun W o v =>
    ⟨rfl, rfl, rfl, by simp [World.setCell], fun k _ hne => Below.heap_setCell _ _ _ _ (fun e => hne (by rw [e]))⟩
  exact ((((((World.grownBy_alloc _ _ _).trans (World.grownBy_alloc _ _ _)).trans (hset _ _ _)).trans (hset _ _ _)).trans (hset _ _ _)).trans (hset _ _ _))
set_option maxRecDepth 100000 in
set_option maxHeartbeats 4000000 in
theorem as_hitS (x : Lab) (tb : Nat) (w : World) (hh : Handle w) (htb : tb < w.heap.size)
    (t0 : w.cell? ⟨tb, 0, none⟩ = some (.nilIface)) (t1 : w.cell? ⟨tb, 1, none⟩ = some (.int .i64 0)) (t2 : w.cell? ⟨tb, 2, none⟩ = some (.int .u64 0)) (t3 : w.cell? ⟨tb, 3, none⟩ = some (.int .i64 0))
    (f0 : w.frozen? ⟨tb, 0, none⟩ = false) (f1 : w.frozen? ⟨tb, 1, none⟩ = false) (f2 : w.frozen? ⟨tb, 2, none⟩ = false) (f3 : w.frozen? ⟨tb, 3, none⟩ = false) :
    Calls Tryd.prog 51 #[.iface 113 (.agg #[.nilIface, .int .i64 x.lv, .int .u64 (u x.c), .int .i64 x.ig]), .iface 115 (.pointer (some ⟨tb, 0, none⟩))] w
      fun e w' => e = .returned (.bool true) ∧ w.grownBy w' (some tb) := by
  have c1 := valueOfPS
  have c2 := typePS
  have c3 := kindPS
  have c4 := kindWS
  have c5 := elemPS
  have c6 := implWS
  have hg := hh.2
  have hlt := hh.1
  clear hh
  have hA2 : ∀ (o o' : Obj) (p : Addr), p.block < w.heap.size → ((w.alloc o).alloc o').cell? p = w.cell? p := fun o o' p h => (World.cell?_alloc_lt _ _ p (by simp; omega)).trans (World.cell?_alloc_lt _ _ p h)
  have hF2 : ∀ (o o' : Obj) (p : Addr), p.block < w.heap.size → ((w.alloc o).alloc o').frozen? p = w.frozen? p := fun o o' p h => (World.frozen?_alloc_old _ _ p (by simp; omega)).trans (World.frozen?_alloc_old _ _ p (by omega))
  have c7 := isNilPS ⟨w.heap.size, 0, none⟩ ⟨tb, 0, none⟩
    ((w.alloc (.cells #[.pointer (some ⟨tb, 0, none⟩)] 115)).alloc (.cells #[.pointer (some ⟨2, 115, none⟩), .pointer (some ⟨w.heap.size, 0, none⟩), .int .u64 150] 101))
    ((World.cell?_alloc_lt _ _ _ (by simp)).trans (World.cell?_alloc_at _ _ _ _ rfl))
  have hgA := (hA2 (.cells #[.pointer (some ⟨tb, 0, none⟩)] 115) (.cells #[.pointer (some ⟨2, 115, none⟩), .pointer (some ⟨w.heap.size, 0, none⟩), .int .u64 150] 101) ⟨0, 0, none⟩ hlt).trans hg
  have HA := Lib.hid (as2_hitS x tb w.heap.size
    ((w.alloc (.cells #[.pointer (some ⟨tb, 0, none⟩)] 115)).alloc (.cells #[.pointer (some ⟨2, 115, none⟩), .pointer (some ⟨w.heap.size, 0, none⟩), .int .u64 150] 101))
    ((World.cell?_alloc_lt _ _ _ (by simp)).trans (World.cell?_alloc_at _ _ _ _ rfl)) (by simp; omega) (by simp; omega)
    ((hA2 _ _ _ htb).trans t0) ((hA2 _ _ _ htb).trans t1) ((hA2 _ _ _ htb).trans t2) ((hA2 _ _ _ htb).trans t3) ((hF2 _ _ _ htb).trans f0) ((hF2 _ _ _ htb).trans f1) ((hF2 _ _ _ htb).trans f2) ((hF2 _ _ _ htb).trans f3))
  clear hA2 hF2 t0 t1 t2 t3 f0 f1 f2 f3 htb
  go_enter Tryd.func51, Tryd.ntmps51
  go_wp2_with fail
  refine HA.out.mono ?_
  rintro e w' ⟨rfl, hg2⟩
  go_wp2
  go_ret
  exact ⟨rfl, ((World.grownBy_alloc _ _ _).trans (World.grownBy_alloc _ _ _)).trans hg2⟩
end

section
open Go.RowKit Go.Extern.Stop Go.Stop Go.Extern

/-- THE SENTINEL: the variable holds the pointer. -/
def SentC (w : World) (a : Addr) : Prop := w.cell? ⟨1, 0, none⟩ = some (.iface 142 (.pointer (some a)))
theorem SentC.lt {w : World} {a : Addr} (h : SentC w a) : 1 < w.heap.size := World.block_lt_of_cell? _ _ h
theorem SentC.up {w w' : World} {a : Addr} (h : SentC w a) (hb : Below w.heap.size w w') : SentC w' a := (hb.cell (p := ⟨1, 0, none⟩) h.lt).trans h

theorem isTypeOf (v : Value) (w : World) : (callFunc 69 #[.iface 142 v]).run Tryd.prog w = .ok (.value (.iface 117 (.agg #[.pointer (some ⟨2, 142, none⟩)]))) w := by kernel_rfl
theorem isComparable (w : World) : (callFunc 109 #[.agg #[.pointer (some ⟨2, 142, none⟩)]]).run Tryd.prog w = .ok (.value (.bool true)) w := by kernel_rfl
theorem isComp : (Tryd.prog.info? 142).map (·.comparable) = some true := by kernel_rfl
theorem isSize : (Tryd.prog.info? 165).map (·.size) = some 1 := by kernel_rfl
theorem noIsS (v : Value) (xT : TypeId) (w : World) : (Instr.typeAssert (.iface 113 v) xT 139 true).run Tryd.prog w = .ok (.tuple #[.nilIface, .bool false]) w := run_typeAssert_lacksB Tryd.underlying139 (by kernel_rfl) (by kernel_rfl) v xT w
theorem hasUnwrapS (v : Value) (xT : TypeId) (w : World) : (Instr.typeAssert (.iface 113 v) xT 125 true).run Tryd.prog w = .ok (.tuple #[.iface 113 v, .bool true]) w := run_typeAssert_hasB Tryd.underlying125 (by kernel_rfl) v xT w

/-- what stops one: the error beneath, the label -/
def stopV (e : Value) (x : Lab) : Value := .iface 113 (.agg #[e, .int .i64 x.lv, .int .u64 (u x.c), .int .i64 x.ig])

theorem unwrap_any (e : Value) (x : Lab) (w : World) :
    Calls Tryd.prog 106 #[.agg #[e, .int .i64 x.lv, .int .u64 (u x.c), .int .i64 x.ig]] w fun r w' => r = .returned e ∧ Below w.heap.size w w' := by
  go_enter Tryd.func106, Tryd.ntmps106
  go_wp2
  go_ret
  exact ⟨rfl, (Below.refl _ _).alloc (Nat.le_refl _) _⟩
set_option maxRecDepth 100000 in
set_option maxHeartbeats 2000000 in
/-- errors.is at a stop around nothing -/
theorem is_nil (x : Lab) (a : Addr) (w : World) :
    Calls Tryd.prog 75 #[.iface 113 (.agg #[.nilIface, .int .i64 x.lv, .int .u64 (u x.c), .int .i64 x.ig]), .iface 142 (.pointer (some a)), .bool true] w fun e w' => e = .returned (.bool false) ∧ Below w.heap.size w w' := by
  have h1 := noIsS
  have h2 := hasUnwrapS
  have hty := fun W => run_eql_iface_types (P := Tryd.prog) 113 142 (.agg #[.nilIface, .int .i64 x.lv, .int .u64 (u x.c), .int .i64 x.ig]) (.pointer (some a)) Tryd.underlying61 (by decide) W
  go_enter Tryd.func75, Tryd.ntmps75
  go_wp2
  refine wp_loop_rounds 1 ?_
  rw [rounds_succ]
  go_wp2_with fail
  refine (unwrap_any .nilIface x _).mono ?_
  rintro e w1 ⟨rfl, hB⟩
  have HB := Lib.hid hB
  clear hB
  go_wp2_with fail
  go_ret
  exact ⟨rfl, HB.out⟩
set_option maxRecDepth 100000 in
set_option maxHeartbeats 2000000 in
/-- errors.is at a stop around the sentinel -/
theorem is_sent (x : Lab) (a : Addr) (w : World) :
    Calls Tryd.prog 75 #[.iface 113 (.agg #[.iface 142 (.pointer (some a)), .int .i64 x.lv, .int .u64 (u x.c), .int .i64 x.ig]), .iface 142 (.pointer (some a)), .bool true] w fun e w' => e = .returned (.bool true) ∧ Below w.heap.size w w' := by
  obtain ⟨i, hi, hcmp⟩ := Option.map_eq_some_iff.1 isComp
  obtain ⟨j, hj, hjs⟩ := Option.map_eq_some_iff.1 isSize
  have h1 := noIsS
  have h2 := hasUnwrapS
  have hty := fun W => run_eql_iface_types (P := Tryd.prog) 113 142 (.agg #[.iface 142 (.pointer (some a)), .int .i64 x.lv, .int .u64 (u x.c), .int .i64 x.ig]) (.pointer (some a)) Tryd.underlying61 (by decide) W
  have heq := fun W => run_eql_iface_ptr_same (P := Tryd.prog) W a Tryd.underlying61 Tryd.underlying142 hi hcmp hj
  go_enter Tryd.func75, Tryd.ntmps75
  go_wp2
  refine wp_loop_rounds 2 ?_
  rw [rounds_succ]
  go_wp2_with fail
  refine (unwrap_any (.iface 142 (.pointer (some a))) x _).mono ?_
  rintro e w1 ⟨rfl, hB⟩
  have HB := Lib.hid hB
  clear hB
  go_wp2_with fail
  rw [rounds_succ]
  go_wp2_with fail
  go_ret
  exact ⟨rfl, HB.out⟩
theorem Is_nil (x : Lab) (a : Addr) (w : World) :
    Calls Tryd.prog 67 #[stopV .nilIface x, .iface 142 (.pointer (some a))] w fun e w' => e = .returned (.bool false) ∧ Below w.heap.size w w' := by
  have tT := isTypeOf
  have cT := isComparable
  unfold stopV
  go_enter Tryd.func67, Tryd.ntmps67
  go_wp2_with fail
  refine (is_nil x a _).mono ?_
  rintro e w1 ⟨rfl, hB⟩
  have HB := Lib.hid hB
  clear hB
  go_wp2_with fail
  go_ret
  exact ⟨rfl, HB.out⟩
theorem Is_sent (x : Lab) (a : Addr) (w : World) :
    Calls Tryd.prog 67 #[stopV (.iface 142 (.pointer (some a))) x, .iface 142 (.pointer (some a))] w fun e w' => e = .returned (.bool true) ∧ Below w.heap.size w w' := by
  have tT := isTypeOf
  have cT := isComparable
  unfold stopV
  go_enter Tryd.func67, Tryd.ntmps67
  go_wp2_with fail
  refine (is_sent x a _).mono ?_
  rintro e w1 ⟨rfl, hB⟩
  have HB := Lib.hid hB
  clear hB
  go_wp2_with fail
  go_ret
  exact ⟨rfl, HB.out⟩

/-! ### told -/
structure Env (a : Addr) (w : World) : Prop where
  h : Handle w
  s : SentC w a
theorem Env.up {a : Addr} {w w' : World} (h : Env a w) (hb : Below w.heap.size w w') : Env a w' := ⟨h.h.up hb, h.s.up hb⟩
theorem told_sent (x : Lab) (a : Addr) (w : World) (hh : Env a w) :
    Calls Tryd.prog 56 #[stopV (.iface 142 (.pointer (some a))) x] w fun e w' => e = .returned (.int .i64 120) ∧ Below w.heap.size w w' := by
  have hc : w.cell? ⟨1, 0, none⟩ = _ := hh.s
  have hlt := hh.s.lt
  clear hh
  go_enter Tryd.func56, Tryd.ntmps56
  go_wp2_with fail
  refine (Is_sent x a _).mono ?_
  rintro e w1 ⟨rfl, hB⟩
  have HB := Lib.hid hB
  clear hB
  go_wp2_with fail
  go_ret
  exact ⟨rfl, below_call (below_alloc (Below.refl _ _) _) HB.out⟩
theorem told_stop (x : Lab) (a : Addr) (w : World) (hh : Env a w) :
    Calls Tryd.prog 56 #[stopV .nilIface x] w fun e w' => e = .returned (.int .i64 20) ∧ Below w.heap.size w w' := by
  have hc : w.cell? ⟨1, 0, none⟩ = _ := hh.s
  have hlt := hh.s.lt
  have HH := Lib.hid hh
  clear hh
  go_enter Tryd.func56, Tryd.ntmps56
  go_wp2_with fail
  refine (Is_nil x a _).mono ?_
  rintro e w1 ⟨rfl, hB⟩
  have HB := Lib.hid (below_call (below_alloc (Below.refl w.heap.size w) _) hB)
  have B0 : Hid (Blk w1 w.heap.size 113 #[.nilIface, .int .i64 0, .int .u64 0, .int .i64 0]) := Lib.hid (Blk.after (Blk.new' rfl) hB)
  have HA := Lib.hid (as_hitS x w.heap.size w1 (HH.out.up HB.out).h B0.out.lt (B0.out.at_ rfl) (B0.out.at_ rfl) (B0.out.at_ rfl) (B0.out.at_ rfl) (B0.out.frozen 0) (B0.out.frozen 1) (B0.out.frozen 2) (B0.out.frozen 3))
  clear hB
  go_wp2_with fail
  refine HA.out.mono ?_
  rintro e w2 ⟨rfl, hg⟩
  go_wp2_with fail
  go_ret
  exact ⟨rfl, HB.out.grown hg HB.out.size (fun k e => by injection e with e; omega)⟩
end

section
open Go.ChangeShapes Go.WideShapes Go.ChangeAt Go.RowKit

/-- what each law's walk ends in -/
def Yes (w : World) (e : Ending) (w' : World) : Prop := e = .returned (.bool true) ∧ Below w.heap.size w w'

section
variable {H : Type} {enc : TypeId × Value → H} {P : Program}
/-- the row's last step where of the call's world 'Below' alone is known -/
theorem post_of_below {f : Func} {s : ChangeSpec} {apart fresh handsOn again : Bool} {W W' : World} {args : Array Value} {v : Value} {ds gs : List (DataW H)} {before pa pv : List MemPlace}
    (hW : DataW.Whole enc P f.params.toList s.vars apart W args.toList ds gs before)
    (hres : ∀ (b : Nat) (sp : Nat → Bool) (hd : Bool), DataW.TrodAll enc P W' b sp hd f.resultTypes.toList (v.resultList f.resultTypes.size) (s.fn H (ds ++ gs)).results [])
    (hargs : ∀ sp : Nat → Bool, (∀ p ∈ before, sp p.block = true) → DataW.TrodAll enc P W' 0 sp true f.params.toList args.toList (s.fn H (ds ++ gs)).args pa)
    (hvars : ∀ sp : Nat → Bool, (∀ p ∈ before, sp p.block = true) → DataW.TrodVars enc P W' sp s.vars (s.fn H (ds ++ gs)).vars pv)
    (hps : before = pa ++ pv) (hb : Below W.heap.size W W')
    (hok : ∀ (j : Nat) (t : TypeId) (r : Value), f.resultTypes[j]? = some t → (v.resultList f.resultTypes.size)[j]? = some r → Value.okWide P W' .any 0 t r) :
    s.post enc P f apart fresh handsOn again W args v W' := by
  have hlt : ∀ p ∈ before, p.block < W.heap.size := fun p hp => hW.lt p hp
  have hold : ∀ p ∈ before, (fun b => decide (b < W.heap.size)) p.block = true := fun p hp => by simpa using hlt p hp
  refine ⟨ds, gs, before, [], pa, pv, hW, hres _ _ _, hargs _ hold, hvars _ hold, World.keptBut_mono (fun p hp => ⟨hp, ?_⟩) (hb.frame (· ∈ before)), fun _ => ?_⟩
  · rw [hps, List.mem_append] at hp
    exact Or.inr hp
  · obtain ⟨_, _, _, _, _, hz, hn⟩ := hW
    refine ⟨hok, _, _, ([] ++ pa) ++ pv, ⟨[] ++ pa, pv, trodAll_append (hargs _ (fun _ _ => rfl)) (hres _ _ _), hvars _ (fun _ _ => rfl), rfl, ?_, ?_⟩, ?_⟩
    · intro b off hp
      have hin : MemPlace.cell b off ∈ before := by rw [hps]; simpa using hp
      rw [hb.frozen (hlt _ hin)]
      exact hz b off hin
    · intro ha
      have := hn ha
      rw [hps] at this
      simpa using this
    · intro p hp _
      rw [hps]
      simpa using hp
/-- all arguments read again where what lay lies as it lay -/
theorem trodAll_stays (hl : laidOutB P = true) {W W' : World} {sp : Nat → Bool} : ∀ {ts : List TypeId} {vs : List Value} {ds : List (DataW H)} {ps : List MemPlace},
    (∀ t ∈ ts, P.readableRec t = true ∧ t < P.types.size) → DataW.TrodAll enc P W 0 (fun _ => true) true ts vs ds ps → (∀ p ∈ ps, W.sameAt W' p) → (∀ p ∈ ps, sp p.block = true) →
    DataW.TrodAll enc P W' 0 sp true ts vs ds ps
  | [], [], [], _, _, h, _, _ => h
  | t :: ts, v :: vs, d :: ds, _, hr, ⟨p, q, h1, h2, rfl⟩, hs, hsp =>
    ⟨p, q, WideElems.Trod_stays hl (hr t (by simp)).1 (hr t (by simp)).2 h1 (fun x hx => hs x (by simp [hx])) (fun x hx => hsp x (by simp [hx])),
      trodAll_stays hl (fun t ht => hr t (by simp [ht])) h2 (fun x hx => hs x (by simp [hx])) (fun x hx => hsp x (by simp [hx])), rfl⟩
  | [], [], _ :: _, _, _, h, _, _ => h.elim
  | [], _ :: _, _, _, _, h, _, _ => by cases h
  | _ :: _, [], _, _, _, h, _, _ => by cases h
  | _ :: _, _ :: _, [], _, _, h, _, _ => by cases h
/-- THE CLOSING: 'true', every argument as it was. -/
theorem closes {f : Func} {s : ChangeSpec} {W W' : World} {args : Array Value} {ds gs : List (DataW H)} {before : List MemPlace} {tb : TypeId} {e : Ending}
    (hl : laidOutB P = true) (hr : ∀ t ∈ f.params.toList, P.readableRec t = true ∧ t < P.types.size) (hv : s.vars = []) (hres : f.resultTypes = #[tb]) (hb : P.underlying tb = some .bool)
    (hspec : s.fn H (ds ++ []) = { results := [.lit (.bool true)], args := ds }) (hW : DataW.Whole enc P f.params.toList s.vars false W args.toList ds gs before) (hY : Yes W e W') :
    ∃ v, e = .returned v ∧ s.post enc P f false true false false W args v W' := by
  obtain ⟨rfl, hB⟩ := hY
  have hlt : ∀ p ∈ before, p.block < W.heap.size := fun p hp => hW.lt p hp
  have hW2 := hW
  obtain ⟨p, q, hA, hV, rfl, hfz, hnd⟩ := hW2
  rw [hv] at hV
  obtain ⟨rfl, rfl⟩ := trodVars_none hV
  refine ⟨_, rfl, post_of_below (pa := p) (pv := []) hW (fun b sp hd => ?_) (fun sp hsp => ?_) (fun sp hsp => ?_) rfl hB (ok_one hres rfl (okWide_bool_mk hb true))⟩
  · rw [hspec, hres]
    exact trodAll_mk1 (shut_bool hb true)
  · rw [hspec]
    exact trodAll_stays hl hr hA (fun x hx => hB.same (hlt x (by simp [hx]))) (fun x hx => hsp x (by simp [hx]))
  · rw [hv, hspec]; rfl
end
end

section
open Go.ChangeShapes Go.WideShapes Go.ChangeAt Go.RowKit

theorem own : ownKnob Tryd.prog.godebug = none := by kernel_rfl
theorem gErrT : Tryd.prog.globalNamed "errors.errorType" = some 0 := by kernel_rfl
theorem rtypeT : (Tryd.prog.cutTypes.find? (·.1 == "internal/reflectlite.rtype")).map (·.2) = some 117 := by kernel_rfl
theorem oneErr : ((List.range Tryd.prog.types.size).filter fun t => Tryd.prog.rowNamed t [101, 114, 114, 111, 114]) = [61] := by kernel_rfl
theorem errHandle : typeHandle Tryd.prog 61 = .pointer (some ⟨2, 61, none⟩) := by kernel_rfl
theorem handle_of {W : World} (h : handlesMet Tryd.prog [("errors.errorType", Rows.laid_errors_errorType)] W) : Handle W := by
  obtain ⟨name, u, ty, e1, e2, e3, e4, e5⟩ := h _ (List.mem_singleton.2 rfl)
  have en : name = [101, 114, 114, 111, 114] := (Option.some.inj e1).symm
  subst en
  obtain rfl := Option.some.inj (rtypeT.symm.trans e2)
  have hm : ty ∈ (List.range Tryd.prog.types.size).filter fun t => Tryd.prog.rowNamed t [101, 114, 114, 111, 114] := List.mem_filter.2 ⟨List.mem_range.2 e3, e4⟩
  rw [oneErr] at hm
  obtain rfl := List.mem_singleton.1 hm
  rw [errHandle] at e5
  have hc : W.cell? ⟨0, 0, none⟩ = some (.iface 117 (.agg #[.pointer (some ⟨2, 61, none⟩)])) := by simpa using World.var?_cell gErrT e5 0
  exact ⟨World.block_lt_of_cell? _ _ hc, hc⟩
theorem cellsLab : Tryd.prog.cellsOf 25 = 3 := by kernel_rfl
set_option maxRecDepth 100000 in
theorem lab_of {H : Type} {enc : TypeId × Value → H} {W : World} {base b : Nat} {v : Value} {d : DataW H} {p : List MemPlace} (hval : Value.okWide Tryd.prog W .any base 25 v)
    (h : DataW.Trod enc Tryd.prog W b (fun _ => true) true 25 v d p) : ∃ a : Lab, v = .agg #[.int .i64 a.lv, .int .u64 (u a.c), .int .i64 a.ig] := by
  obtain ⟨c0, c1, c2, y0, y1, y2, m, rfl, _, _, hy0, hy1, hy2⟩ := Joins.open_agg3 Tryd.underlying25 (by kernel_rfl) cellsLab hval h
  obtain ⟨x, e0, _, wx⟩ := DataW.trod_int Tryd.underlying3 hy0
  obtain ⟨y, e1, _, wy⟩ := DataW.trod_int Tryd.underlying23 hy1
  obtain ⟨z, e2, _, wz⟩ := DataW.trod_int Tryd.underlying3 hy2
  simp at e0 e1 e2
  subst e0 e1 e2
  obtain ⟨c, rfl⟩ := u_of_wf wy
  exact ⟨⟨x, c, z⟩, rfl⟩
theorem gErr : Tryd.prog.globalNamed "plimsoll/ceiling.errCeiling" = some 1 := by kernel_rfl
theorem gErrType : (Tryd.prog.globals[1]?).map (·.type) = some 61 := by kernel_rfl
theorem cellsES : Tryd.prog.cellsOf 165 = 1 := by kernel_rfl
theorem cellsStr : Tryd.prog.cellsOf 9 = 1 := by kernel_rfl
theorem star : "*" ++ "errors.errorString" = "*errors.errorString" := by decide
theorem rowES (t : TypeId) (h : Tryd.prog.typeName? 3 t = some "*errors.errorString") : t = 142 :=
  typeName_ptr_named (nm := "errors.errorString") (by rw [star]; kernel_rfl) (by kernel_rfl) (by decide) t (by rw [star]; exact h)

theorem sentC_of {W : World} {rest : List (String × DataW Unit)} (h : laidMet Tryd.prog (("plimsoll/ceiling.errCeiling", Rows.laid_plimsoll_ceiling_errCeiling) :: rest) W) : ∃ a, SentC W a := by
  obtain ⟨a, s, hv, _⟩ := laid_sentinel h gErr gErrType Tryd.underlying61 rowES Tryd.underlying142 Tryd.underlying165 rfl rfl Tryd.underlying9 cellsES cellsStr
  exact ⟨a, by unfold SentC; simpa using World.var?_cell gErr hv 0⟩
end

section
open Go.ChangeShapes Go.WideShapes Go.ChangeAt Go.RowKit Go.Deep

theorem slice_addr {P : Program} {W : World} {base : Nat} {t e : TypeId} {a : Addr} {len cap : Nat} (ht : P.underlying t = some (.slice e)) (h : Value.okWide P W .any base t (.slice (some a) len cap)) :
    a.spot = none ∧ a.block < W.heap.size ∧ len ≤ cap ∧ (cap : Int) ≤ IntKind.i64.max := by
  simp only [Value.okWide, ht, Cell.okWide, Cell.ok, World.has] at h
  obtain ⟨h1, h2, _, h3, row, cells, h4, _⟩ := h
  refine ⟨h3, ?_, h1, h2⟩
  rcases Nat.lt_or_ge a.block W.heap.size with h' | h'
  · exact h'
  · simp [World.shape?, Array.getElem?_eq_none h'] at h4
theorem cellsOfInt : Tryd.prog.cellsOf 3 = 1 := by kernel_rfl
theorem cellsOfU64 : Tryd.prog.cellsOf 23 = 1 := by kernel_rfl
theorem cellsOfLab : Tryd.prog.cellsOf 25 = 3 := by kernel_rfl
section
variable {H : Type} {enc : TypeId × Value → H} {w : World} {base : Nat} {spare : Nat → Bool} {held : Bool}
theorem some_of_len {α : Type} {xs : List α} {n i : Nat} (h : xs.length = n) (hi : i < n) : ∃ y, xs[i]? = some y := ⟨_, List.getElem?_eq_getElem (by omega)⟩
set_option maxRecDepth 100000 in
theorem int_cell {fuel : Nat} {v : Value} {y : Option (DataW H × List MemPlace)} (h : DataW.trod enc Tryd.prog w base spare held fuel 3 [v] = y) (hy : ∃ z, y = some z) : ∃ n : Int, v = .int .i64 n := by
  obtain ⟨z, rfl⟩ := hy
  obtain ⟨x, e0, _, _⟩ := DataW.trod_int Tryd.underlying3 h
  exact ⟨x, by simpa using e0⟩
set_option maxRecDepth 100000 in
theorem u64_cell {fuel : Nat} {v : Value} {y : Option (DataW H × List MemPlace)} (h : DataW.trod enc Tryd.prog w base spare held fuel 23 [v] = y) (hy : ∃ z, y = some z) : ∃ x : BitVec 64, v = .int .u64 (u x) := by
  obtain ⟨z, rfl⟩ := hy
  obtain ⟨x, e0, _, wx⟩ := DataW.trod_int Tryd.underlying23 h
  obtain ⟨c, rfl⟩ := u_of_wf wx
  exact ⟨c, by simpa using e0⟩
set_option maxRecDepth 100000 in
theorem lab_cells {fuel : Nat} {cs : List Value} {x : DataW H × List MemPlace} (h : DataW.trod enc Tryd.prog w base spare held fuel 25 cs = some x) : ∃ a : Lab, cs = [.int .i64 a.lv, .int .u64 (u a.c), .int .i64 a.ig] := by
  obtain ⟨xs, n, _, _, hl, hlen, hf⟩ := DataW.trod_struct Tryd.underlying25 h
  rw [cellsOfLab] at hl
  match cs, hl with
  | [c0, c1, c2], _ =>
    have h0 : DataW.trod enc Tryd.prog w base spare held n 3 (List.take (Tryd.prog.cellsOf 3) [c0, c1, c2]) = xs[0]? := hf 0 _ rfl
    have h1 : DataW.trod enc Tryd.prog w base spare held n 23 (List.take (Tryd.prog.cellsOf 23) [c1, c2]) = xs[1]? := hf 1 _ rfl
    have h2 : DataW.trod enc Tryd.prog w base spare held n 3 (List.take (Tryd.prog.cellsOf 3) [c2]) = xs[2]? := hf 2 _ rfl
    rw [cellsOfInt] at h0 h2
    rw [cellsOfU64] at h1
    obtain ⟨z0, rfl⟩ := int_cell h0 (some_of_len hlen (by decide))
    obtain ⟨z1, rfl⟩ := u64_cell h1 (some_of_len hlen (by decide))
    obtain ⟨z2, rfl⟩ := int_cell h2 (some_of_len hlen (by decide))
    exact ⟨⟨z0, z1, z2⟩, rfl⟩
theorem add_off (b o k : Nat) : (⟨b, o, none⟩ : Addr).add k = ⟨b, o + k, none⟩ := Go.WideShapes.add_plain ..
set_option maxRecDepth 100000 in
/-- a slice of labels reads as a list of labels -/
theorem labs_of {v : Value} {d : DataW H} {p : List MemPlace} (hval : Value.okWide Tryd.prog w .any base 111 v)
    (h : DataW.Trod enc Tryd.prog w 0 (fun _ => true) true 111 v d p) : ∃ l, LabsAt w.heap.size w v l := by
  obtain ⟨a0, len, cap, rfl⟩ := okWide_slice Tryd.underlying111 hval
  obtain ⟨fuel, hf⟩ := h
  rcases open_slice Tryd.underlying111 hf with ⟨hcs, _⟩ | ⟨a, len', cap', m, n, D, Pl, hcs, _, hl, hm, hmm, _, hi⟩
  · simp only [Value.cells, List.cons.injEq, Value.slice.injEq, and_true] at hcs
    obtain ⟨rfl, rfl, rfl⟩ := hcs
    exact ⟨[], .inl ⟨rfl, rfl⟩⟩
  · simp only [Value.cells, List.cons.injEq, Value.slice.injEq, and_true] at hcs
    obtain ⟨rfl, rfl, rfl⟩ := hcs
    obtain ⟨hs, hb, _, hcap⟩ := slice_addr Tryd.underlying111 hval
    obtain ⟨b, off, spot⟩ := a
    obtain rfl : spot = none := hs
    rw [if_pos rfl] at hmm
    have hmax : (IntKind.i64.max : Int) = 9223372036854775807 := by decide
    have hx : ∀ i, i < len → ∃ x : Lab, w.cell? ⟨b, off + i * 3, none⟩ = some (.int .i64 x.lv) ∧ w.cell? ⟨b, off + i * 3 + 1, none⟩ = some (.int .u64 (u x.c)) ∧ w.cell? ⟨b, off + i * 3 + 2, none⟩ = some (.int .i64 x.ig) := by
      intro i hlt
      obtain ⟨cs', hc, ht⟩ := hi i (by omega)
      obtain ⟨x, rfl⟩ := lab_cells ht
      rw [cellsOfLab] at hc
      obtain ⟨_, _, hat⟩ := World.cells?_some hc
      have g0 := hat 0 (by omega)
      have g1 := hat 1 (by omega)
      have g2 := hat 2 (by omega)
      rw [add_off, add_off] at g0 g1 g2
      exact ⟨x, g0, g1, g2⟩
    refine ⟨List.ofFn (fun i : Fin len => Classical.choose (hx i.1 i.2)), .inr ⟨b, off, cap, by rw [List.length_ofFn], hb, by rw [List.length_ofFn]; exact hl, by rw [List.length_ofFn]; omega, fun k x hk => ?_⟩⟩
    rw [List.getElem?_ofFn] at hk
    split at hk
    · cases hk
      exact Classical.choose_spec (hx k (by assumption))
    · cases hk
end
end

section

/-- what Join tells -/
inductive JoinS (a b : Lab) : Lab → Int → Prop
  | ok (ha : okL a = true) (hb : okL b = true) : JoinS a b (joinL a b) 0
  | bad (h : ¬ (okL a = true ∧ okL b = true)) : JoinS a b zeroL 20
/-- what Meet tells -/
inductive MeetS (a b : Lab) : Lab → Int → Prop
  | ok (ha : okL a = true) (hb : okL b = true) : MeetS a b (meetL a b) 0
  | bad (h : ¬ (okL a = true ∧ okL b = true)) : MeetS a b zeroL 20

theorem sub_lsb {x y : BitVec 64} : sub x y = true ↔ ∀ k, k < 64 → x.getLsbD k = true → y.getLsbD k = true := by
  rw [sub_iff]
  constructor <;> intro h k hk h1
  · have := h k hk (by rw [has_nat _ _ hk]; exact h1)
    rwa [has_nat _ _ hk] at this
  · rw [has_nat _ _ hk] at *; exact h k hk h1
theorem sub_or_l (x y : BitVec 64) : sub x (x ||| y) = true := by
  rw [sub_lsb]; intro k _ h; simp [BitVec.getLsbD_or, h]
theorem sub_or_r (x y : BitVec 64) : sub y (x ||| y) = true := by
  rw [sub_lsb]; intro k _ h; simp [BitVec.getLsbD_or, h]
theorem sub_and_l (x y : BitVec 64) : sub (x &&& y) x = true := by
  rw [sub_lsb]; intro k _ h; simp [BitVec.getLsbD_and] at h; exact h.1
theorem sub_and_r (x y : BitVec 64) : sub (x &&& y) y = true := by
  rw [sub_lsb]; intro k _ h; simp [BitVec.getLsbD_and] at h; exact h.2
theorem sub_or_of {x y z : BitVec 64} (h1 : sub x z = true) (h2 : sub y z = true) : sub (x ||| y) z = true := by
  rw [sub_lsb] at *; intro k hk h; simp [BitVec.getLsbD_or] at h
  rcases h with h | h
  · exact h1 k hk h
  · exact h2 k hk h
theorem sub_and_of {x y z : BitVec 64} (h1 : sub z x = true) (h2 : sub z y = true) : sub z (x &&& y) = true := by
  rw [sub_lsb] at *; intro k hk h; simp [BitVec.getLsbD_and, h1 k hk h, h2 k hk h]
theorem sub_trans {x y z : BitVec 64} (h1 : sub x y = true) (h2 : sub y z = true) : sub x z = true := by
  rw [sub_lsb] at *; intro k hk h; exact h2 k hk (h1 k hk h)
theorem sub_or_eq {x y : BitVec 64} : sub x y = true ↔ x ||| y = y := by
  rw [sub_lsb]
  constructor
  · intro h
    apply BitVec.eq_of_getLsbD_eq
    intro k hk
    rw [BitVec.getLsbD_or]
    cases hx : x.getLsbD k
    · simp
    · simp [h k hk hx]
  · intro h k hk hx
    rw [← h, BitVec.getLsbD_or, hx]; rfl
theorem sub_and_eq {x y : BitVec 64} : sub x y = true ↔ x &&& y = x := by
  rw [sub_lsb]
  constructor
  · intro h
    apply BitVec.eq_of_getLsbD_eq
    intro k hk
    rw [BitVec.getLsbD_and]
    cases hx : x.getLsbD k
    · simp
    · simp [h k hk hx]
  · intro h k hk hx
    rw [← h, BitVec.getLsbD_and] at hx
    simp at hx; exact hx.2
theorem sub_anti {x y : BitVec 64} (h1 : sub x y = true) (h2 : sub y x = true) : x = y := by
  have := sub_or_eq.1 h1
  have h := sub_or_eq.1 h2
  rw [BitVec.or_comm] at h
  rw [← h]; exact this

theorem le3_iff {a b : Lab} : le3 a b = true ↔ a.lv ≤ b.lv ∧ b.ig ≤ a.ig ∧ sub a.c b.c = true := by
  unfold le3; simp [and_assoc]
theorem underL_iff {a b : Lab} : underL a b = true ↔ okL a = true ∧ okL b = true ∧ le3 a b = true := by
  unfold underL; simp [and_assoc]
theorem okL_join {a b : Lab} (ha : okL a = true) (hb : okL b = true) : okL (joinL a b) = true := by
  rw [okL_iff] at *; simp only [joinL]; omega
theorem okL_meet {a b : Lab} (ha : okL a = true) (hb : okL b = true) : okL (meetL a b) = true := by
  rw [okL_iff] at *; simp only [meetL]; omega
theorem le3_join_l (a b : Lab) : le3 a (joinL a b) = true := by
  rw [le3_iff]; simp only [joinL]; exact ⟨by omega, by omega, sub_or_l _ _⟩
theorem le3_join_r (a b : Lab) : le3 b (joinL a b) = true := by
  rw [le3_iff]; simp only [joinL]; exact ⟨by omega, by omega, sub_or_r _ _⟩
theorem le3_meet_l (a b : Lab) : le3 (meetL a b) a = true := by
  rw [le3_iff]; simp only [meetL]; exact ⟨by omega, by omega, sub_and_l _ _⟩
theorem le3_meet_r (a b : Lab) : le3 (meetL a b) b = true := by
  rw [le3_iff]; simp only [meetL]; exact ⟨by omega, by omega, sub_and_r _ _⟩
theorem le3_join_of {a b c : Lab} (h1 : le3 a c = true) (h2 : le3 b c = true) : le3 (joinL a b) c = true := by
  rw [le3_iff] at *; simp only [joinL]; exact ⟨by omega, by omega, sub_or_of h1.2.2 h2.2.2⟩
theorem le3_meet_of {a b c : Lab} (h1 : le3 c a = true) (h2 : le3 c b = true) : le3 c (meetL a b) = true := by
  rw [le3_iff] at *; simp only [meetL]; exact ⟨by omega, by omega, sub_and_of h1.2.2 h2.2.2⟩
theorem le3_trans {a b c : Lab} (h1 : le3 a b = true) (h2 : le3 b c = true) : le3 a c = true := by
  rw [le3_iff] at *; exact ⟨by omega, by omega, sub_trans h1.2.2 h2.2.2⟩
theorem le3_anti {a b : Lab} (h1 : le3 a b = true) (h2 : le3 b a = true) : a = b := by
  rw [le3_iff] at *; exact Lab.ext' (by omega) (sub_anti h1.2.2 h2.2.2) (by omega)
theorem le3_join_eq {a b : Lab} : le3 a b = true ↔ joinL a b = b := by
  constructor
  · intro h; rw [le3_iff] at h; exact Lab.ext' (by simp only [joinL]; omega) (sub_or_eq.1 h.2.2) (by simp only [joinL]; omega)
  · intro h; rw [← h]; exact le3_join_l a b
theorem le3_meet_eq {a b : Lab} : le3 a b = true ↔ meetL a b = a := by
  constructor
  · intro h; rw [le3_iff] at h; exact Lab.ext' (by simp only [meetL]; omega) (sub_and_eq.1 h.2.2) (by simp only [meetL]; omega)
  · intro h; rw [← h]; exact le3_meet_r a b
theorem joinL_comm (a b : Lab) : joinL a b = joinL b a := Lab.ext' (by simp only [joinL]; omega) (by simp only [joinL]; rw [BitVec.or_comm]) (by simp only [joinL]; omega)
theorem meetL_comm (a b : Lab) : meetL a b = meetL b a := Lab.ext' (by simp only [meetL]; omega) (by simp only [meetL]; rw [BitVec.and_comm]) (by simp only [meetL]; omega)
theorem joinL_assoc (a b c : Lab) : joinL (joinL a b) c = joinL a (joinL b c) := Lab.ext' (by simp only [joinL]; omega) (by simp only [joinL]; rw [BitVec.or_assoc]) (by simp only [joinL]; omega)
theorem joinL_meet (a b : Lab) : joinL a (meetL a b) = a := by
  rw [joinL_comm]; exact le3_join_eq.1 (le3_meet_l a b)
theorem bot_le {a : Lab} (ha : okL a = true) : le3 botL a = true := by
  rw [okL_iff] at ha; rw [le3_iff]; exact ⟨ha.1, ha.2.2.2, by rw [sub_lsb]; intro k _ h; simp [botL] at h⟩
theorem le_top {a : Lab} (ha : okL a = true) : le3 a topL = true := by
  rw [okL_iff] at ha; rw [le3_iff]; exact ⟨ha.2.1, ha.2.2.1, by rw [sub_lsb]; intro k hk _; show (BitVec.allOnes 64).getLsbD k = true; rw [BitVec.getLsbD_allOnes]; simpa using hk⟩
theorem okL_bot : okL botL = true := rfl
theorem okL_top : okL topL = true := rfl
end

section
open Go Go.RowKit

/-- Cells outside T, and whatever lay below n0 outside T, lie as they lay. -/
structure Moves (n0 : Nat) (T : Nat → Prop) (A B : World) : Prop where
  os : B.os = A.os
  tape : B.tape = A.tape
  output : B.output = A.output
  size : A.heap.size ≤ B.heap.size
  same : ∀ (k : Nat) (o : Obj), A.heap[k]? = some o → ¬ T k → (o.isCells = true ∨ k < n0) → B.heap[k]? = some o
/-- Whatever lay outside T, and whatever is no cells, lies as it lay. -/
structure Turns (T : Nat → Prop) (A B : World) : Prop where
  os : B.os = A.os
  tape : B.tape = A.tape
  output : B.output = A.output
  size : A.heap.size ≤ B.heap.size
  same : ∀ (k : Nat) (o : Obj), A.heap[k]? = some o → (¬ T k ∨ o.isCells = false) → B.heap[k]? = some o

theorem Moves.refl (n0 : Nat) (T : Nat → Prop) (A : World) : Moves n0 T A A := ⟨rfl, rfl, rfl, Nat.le_refl _, fun _ _ h _ _ => h⟩
theorem Moves.trans {n0 : Nat} {T : Nat → Prop} {A B C : World} (h : Moves n0 T A B) (k : Moves n0 T B C) : Moves n0 T A C :=
  ⟨k.os.trans h.os, k.tape.trans h.tape, k.output.trans h.output, Nat.le_trans h.size k.size, fun i o hi ht hc => k.same i o (h.same i o hi ht hc) ht hc⟩
theorem Moves.mono {n0 : Nat} {T T' : Nat → Prop} {A B : World} (h : Moves n0 T A B) (hT : ∀ k, T k → T' k) : Moves n0 T' A B :=
  ⟨h.os, h.tape, h.output, h.size, fun i o hi ht hc => h.same i o hi (fun e => ht (hT i e)) hc⟩
theorem Turns.refl (T : Nat → Prop) (A : World) : Turns T A A := ⟨rfl, rfl, rfl, Nat.le_refl _, fun _ _ h _ => h⟩
theorem Turns.trans {T : Nat → Prop} {A B C : World} (h : Turns T A B) (k : Turns T B C) : Turns T A C :=
  ⟨k.os.trans h.os, k.tape.trans h.tape, k.output.trans h.output, Nat.le_trans h.size k.size, fun i o hi ht => k.same i o (h.same i o hi ht) ht⟩
theorem Turns.mono {T T' : Nat → Prop} {A B : World} (h : Turns T A B) (hT : ∀ k, T k → T' k) : Turns T' A B :=
  ⟨h.os, h.tape, h.output, h.size, fun i o hi ht => h.same i o hi (ht.imp (fun e t => e (hT i t)) id)⟩
theorem Turns.moves {T : Nat → Prop} {A B : World} (h : Turns T A B) (n0 : Nat) : Moves n0 T A B :=
  ⟨h.os, h.tape, h.output, h.size, fun i o hi ht _ => h.same i o hi (.inl ht)⟩
/-- a new block -/
theorem Turns.alloc {T : Nat → Prop} {A B : World} (h : Turns T A B) (o : Obj) : Turns T A (B.alloc o) :=
  h.trans ⟨rfl, rfl, rfl, by simp, fun k o' hk _ => (Below.heap_alloc B o k (Array.getElem?_eq_some_iff.1 hk).1).trans hk⟩
/-- a store into a block of T -/
theorem Turns.setCell {T : Nat → Prop} {A B : World} (h : Turns T A B) {p : Addr} (hp : T p.block) (v : Value) : Turns T A (B.setCell p v) :=
  h.trans ⟨rfl, rfl, rfl, (KeepsWalks.setCell B p v).size, fun k o hk ht => by
    rcases ht with ht | ht
    · exact (Below.heap_setCell B p v k (fun e => ht (e ▸ hp))).trans hk
    · exact (KeepsOthers.setCell B p v).same k o hk ht⟩
theorem Turns.drew {T : Nat → Prop} {A B : World} (h : Turns T A B) : Turns T A B.drew := ⟨h.os, h.tape, h.output, h.size, h.same⟩
/-- a call that turns nothing that lay -/
theorem Turns.below {T : Nat → Prop} {A B C : World} (h : Turns T A B) (hb : Below B.heap.size B C) : Turns T A C :=
  h.trans ⟨hb.os, hb.tape, hb.output, hb.size, fun k _ hk _ => (hb.block k (Array.getElem?_eq_some_iff.1 hk).1).trans hk⟩
/-- an append: one block of T may have turned -/
theorem Turns.grown {T : Nat → Prop} {A B C : World} {row : Option Nat} (h : Turns T A B) (hg : B.grownBy C row) (hr : ∀ k, row = some k → T k ∧ ∀ o, B.heap[k]? = some o → o.isCells = true) : Turns T A C :=
  h.trans ⟨hg.os, hg.tape, hg.output, hg.size, fun k o hk ht => by
    refine (hg.block k (Array.getElem?_eq_some_iff.1 hk).1 (fun e => ?_)).trans hk
    obtain ⟨h1, h2⟩ := hr k e.symm
    rcases ht with ht | ht
    · exact ht h1
    · rw [h2 o hk] at ht; cases ht⟩
theorem Moves.putObj {n0 : Nat} (T : Nat → Prop) {A : World} {l : Nat} {o : Obj} (o' : Obj) (hl : A.heap[l]? = some o) (hc : o.isCells = false) (hn : n0 ≤ l) : Moves n0 T A (A.putObj l o') :=
  ⟨rfl, rfl, rfl, by simp, fun k o2 hk _ ht => by
    have hne : k ≠ l := fun e => by
      subst e; rw [hl] at hk; cases hk
      rcases ht with ht | ht
      · rw [hc] at ht; cases ht
      · omega
    exact (World.putObj_heap_other hne).trans hk⟩
theorem Moves.alloc {n0 : Nat} {T : Nat → Prop} {A B : World} (h : Moves n0 T A B) (o : Obj) : Moves n0 T A (B.alloc o) := h.trans (((Turns.refl T B).alloc o).moves n0)
/-- a cell outside T -/
theorem Moves.cell {n0 : Nat} {T : Nat → Prop} {A B : World} (h : Moves n0 T A B) {p : Addr} {v : Value} (hc : A.cell? p = some v) (ht : ¬ T p.block) : B.cell? p = some v := by
  obtain ⟨o, ho, hc'⟩ := cells_of_cell hc
  exact (World.cell?_of_block ((h.same _ _ ho ht (.inl hc')).trans ho.symm)).trans hc
theorem Moves.frozen {n0 : Nat} {T : Nat → Prop} {A B : World} (h : Moves n0 T A B) {p : Addr} {v : Value} {f : Bool} (hc : A.cell? p = some v) (hf : A.frozen? p = f) (ht : ¬ T p.block) : B.frozen? p = f := by
  obtain ⟨o, ho, hc'⟩ := cells_of_cell hc
  exact (World.frozen?_of_block ((h.same _ _ ho ht (.inl hc')).trans ho.symm)).trans hf
/-- what lay below n0 -/
theorem Moves.below {n0 n : Nat} {T : Nat → Prop} {w A B : World} (h : Moves n0 T A B) (hb : Below n w A) (hw : n ≤ w.heap.size) (hn : n ≤ n0) (hT : ∀ k, T k → n ≤ k) : Below n w B :=
  ⟨h.os.trans hb.os, h.tape.trans hb.tape, h.output.trans hb.output, Nat.le_trans hb.size h.size, fun k hk => by
    have e := hb.block k hk
    have hlt : k < w.heap.size := by omega
    rw [Array.getElem?_eq_getElem hlt] at e ⊢
    exact h.same k _ e (fun t => by have := hT k t; omega) (.inr (by omega))⟩
theorem Turns.down {n : Nat} {T : Nat → Prop} {A B : World} (h : Turns T A B) (hn : n ≤ A.heap.size) (hT : ∀ k, T k → n ≤ k) : Below n A B :=
  (h.moves n).below (Below.refl _ _) hn (Nat.le_refl _) hT
theorem Moves.block {n0 : Nat} {T : Nat → Prop} {A B : World} (h : Moves n0 T A B) {k : Nat} {o : Obj} (hk : A.heap[k]? = some o) (hc : o.isCells = true) (ht : ¬ T k) : B.heap[k]? = some o := h.same _ _ hk ht (.inl hc)
theorem Turns.of_below {T : Nat → Prop} {A B : World} (hb : Below A.heap.size A B) : Turns T A B := (Turns.refl T A).below hb

theorem below_turns {w W W' : World} {b : Nat} (h : Below w.heap.size w W) (k : Turns (· = b) W W') (hb : w.heap.size ≤ b) : Below w.heap.size w W' :=
  h.trans (k.down h.size (fun _ e => by subst e; exact hb))
theorem Blk.turned {W W' : World} {g b : Nat} {t : TypeId} {cs : Array Value} (h : Blk W g t cs) (k : Turns (· = b) W W') (hg : g ≠ b) : Blk W' g t cs := k.same _ _ h (.inl hg)
/-- THE ITERATOR's CONTRACT at the world W of its call: between two rounds it turns cells of T alone; the body turns those of U alone. Y: what the iterator lays at a round's begin; S: where all have come; Sp: where it was stopped. -/
def SeqM {α : Type} (F : Fence) (n : Nat) (P : Program) (g : Nat) (lb : Array Value) (encs : α → Array Value) (n0 : Nat) (T U : Nat → Prop) (Y : List α → α → World → Prop) (S Sp : List α → World → Prop) (W : World) : Prop :=
  ∀ (l : Nat) (J Jx : List α → World → Prop), (∀ s A B, J s A → Turns T A B → J s B) → (∀ s A B, Jx s A → Turns T A B → Jx s B) →
    (∀ pre x W1, J pre W1 → Y pre x W1 → YieldAt F (n - 1) P l (encs x) W1 fun e W' =>
      (e = .returned (.bool true) ∧ J (pre ++ [x]) W' ∧ Moves n0 U W1 W') ∨ (e = .returned (.bool false) ∧ Jx (pre ++ [x]) W' ∧ Moves n0 U W1 W')) →
    J [] W →
    CallsIn F n P g (#[.func (.yield l) #[] #[]] ++ lb) W fun e W' => (∃ v, e = .returned v) ∧ ((∃ xs, S xs W' ∧ J xs W') ∨ (∃ pre, Sp pre W' ∧ Jx pre W'))

/-- HOW THE BODY OF A ROUND MAY BE LEFT. -/
def postM {α : Type} (U : Nat → Prop) (I : List α → World → Prop) (Ix : Code → List α → World → Prop) (xs : List α) (W : World) : Exit → Act → World → Prop
  | .normal, _, W' => Turns U W W' ∧ I xs W'
  | .ret, _, W' => Turns U W W' ∧ Ix .ret xs W'
  | .exit id, _, W' => Turns U W W' ∧ Ix (.exit id) xs W'
  | .goto t, _, W' => Turns U W W' ∧ Ix (.goto t) xs W'
  | .panic _, _, _ => False
  | .outgrown, _, _ => False

variable {F : Fence} {n : Nat} {P : Program}
theorem wpIn_rangeFunc_M {α : Type} {g : Operand} {ps : Array Tmp} {assign body : Code} {Q : Exit → Act → World → Prop} {a : Act} {w : World}
    (hro : F.round = none) (h1 : 1 ≤ n) {gf : Nat} {lb : Array Value} (hg : a.eval g = .func (.func gf) #[] lb) (hFg : F.fn gf) (eg : ∀ args w, (callFunc gf args).run P w = .ok (.enter gf args) w)
    {encs : α → Array Value} {T U : Nat → Prop} {Y : List α → α → World → Prop} {S Sp : List α → World → Prop}
    (hseq : ∀ W1, Below w.heap.size w W1 → W1.heap.size = w.heap.size + 2 → SeqM F (n - 1) P gf lb encs w.heap.size T U Y S Sp W1)
    (hps : ∀ x, (encs x).size = ps.size)
    (I : List α → World → Prop) (Ix : Code → List α → World → Prop) (hI : ∀ s A B, I s A → Moves w.heap.size T A B → I s B) (hIx : ∀ c s A B, Ix c s A → Moves w.heap.size T A B → Ix c s B)
    (hS : ∀ s A B, S s A → Moves w.heap.size (fun _ => False) A B → S s B) (hSp : ∀ s A B, Sp s A → Moves w.heap.size (fun _ => False) A B → Sp s B) (h0 : I [] w)
    (Mid : List α → α → Act → World → Prop) (hMid : ∀ pre x a' A B, Mid pre x a' A → Moves w.heap.size (fun _ => False) A B → Mid pre x a' B)
    (hassign : ∀ (l : Nat) (pre : List α) (x : α) (W : World), I pre W → Y pre x W →
      assign.wpIn (F.inRound l) (n - 1 - 1) P (Exit.then (fun a' W' => Turns U W W' ∧ Mid pre x a' W') (fun _ _ _ => False)) { tmps := (ps.zip (encs x)).foldl (fun t (p, v) => t.setIfInBounds p v) a.tmps, defers := [] } W)
    (hbody : ∀ (l : Nat) (pre : List α) (x : α) (a' : Act) (W : World), w.heap.size ≤ l → Mid pre x a' W → body.wpIn (F.inRound l) (n - 1 - 1) P (postM U I Ix (pre ++ [x]) W) a' W)
    (hdone : ∀ (D : Nat) (xs : List α) (W : World), w.heap.size ≤ D → S xs W → I xs W → W.heap[D]? = some (.deferred (some [])) → Q .normal { a with defers := { target := .collected D, args := #[] } :: a.defers } W)
    (hstop : ∀ (D : Nat) (c : Code) (pre : List α) (W : World), w.heap.size ≤ D → Sp pre W → Ix c pre W → W.heap[D]? = some (.deferred (some [])) → c.wpIn F n P Q { a with defers := { target := .collected D, args := #[] } :: a.defers } W) :
    (Code.rangeFunc g ps assign body).wpIn F n P Q a w := by
  have hMv : ∀ {A B : World}, Moves w.heap.size (fun _ => False) A B → Moves w.heap.size T A B := fun h => h.mono (fun _ e => e.elim)
  have hMu : ∀ {A B : World}, Moves w.heap.size (fun _ => False) A B → Moves w.heap.size U A B := fun h => h.mono (fun _ e => e.elim)
  refine wpIn_rangeFunc ?_
  intro fn hfn
  rw [hro]
  obtain ⟨rec, hrec⟩ : ∃ rec : LoopState → Option Code → Loop, rec = fun st pe => { state := st, pending := pe, fn, tmps := a.tmps, params := ps, assign, body, defers := w.heap.size } := ⟨_, rfl⟩
  obtain ⟨W1, hW1⟩ : ∃ W1, (w.alloc (.deferred (some []))).alloc (.loop (rec .ready none)) = W1 := ⟨_, rfl⟩
  have hL1 : W1.heap[w.heap.size + 1]? = some (.loop (rec .ready none)) := by
    rw [← hW1]; have := World.alloc_heap_new (w.alloc (.deferred (some []))) (.loop (rec .ready none)); rwa [World.size_alloc] at this
  have hK1 : W1.heap[w.heap.size]? = some (.deferred (some [])) := by
    rw [← hW1]; exact (Below.heap_alloc _ _ _ (by simp)).trans (World.alloc_heap_new w _)
  have hI1 : I [] W1 := by rw [← hW1]; exact hI _ _ _ h0 (((Moves.refl _ _ w).alloc _).alloc _)
  have hb1 : Below w.heap.size w W1 := by rw [← hW1]; exact ((Below.refl _ w).alloc (Nat.le_refl _) _).alloc (by simp) _
  have hs1 : W1.heap.size = w.heap.size + 2 := by rw [← hW1]; simp
  refine ⟨w.heap.size + 1, [{ target := .collected w.heap.size, args := #[] }], W1, { target := .fn (.func gf) lb, args := #[.func (.yield (w.heap.size + 1)) #[] #[]] }, W1, gf,
    #[.func (.yield (w.heap.size + 1)) #[] #[]] ++ lb, W1, ?_, ?_, ?_, ?_, fun _ => h1, ?_⟩
  · rw [← hW1, hrec]; exact run_enterLoop_outer _ _ _ _ _
  · simp only [resolve, hg]
    simp [go_sem]
  · intro f' hf'; simp [Target.leads] at hf'; subst hf'; exact hFg
  · simp [invoke, go_sem, eg]
  · refine (hseq W1 hb1 hs1 (w.heap.size + 1)
      (fun pre W => I pre W ∧ W.heap[w.heap.size + 1]? = some (.loop (rec .ready none)) ∧ W.heap[w.heap.size]? = some (.deferred (some [])))
      (fun pre W => ∃ c, Ix c pre W ∧ W.heap[w.heap.size + 1]? = some (.loop (rec .done (some c))) ∧ W.heap[w.heap.size]? = some (.deferred (some [])))
      (fun s A B hs ht => ⟨hI s A B hs.1 (ht.moves _), ht.same _ _ hs.2.1 (.inr rfl), ht.same _ _ hs.2.2 (.inr rfl)⟩)
      (fun s A B hs ht => by
        obtain ⟨c, hc, hl, hk⟩ := hs
        exact ⟨c, hIx c s A B hc (ht.moves _), ht.same _ _ hl (.inr rfl), ht.same _ _ hk (.inr rfl)⟩)
      ?_ ⟨hI1, hL1, hK1⟩).mono ?_
    · rintro pre x W ⟨hi, hl, hk⟩ hYx
      have hy := run_yield (P := P) (args := encs x) hl (by rw [hrec]; exact hps x)
      rw [hrec] at hy
      refine ⟨fn, _, assign, body, hy, roundIn_of_wpIn hfn (wpIn_mono (hassign _ pre x W hi hYx) ?_)⟩
      clear hy
      intro e a' Wa hpost
      cases e with
      | normal =>
        obtain ⟨hta, hmid⟩ := hpost
        have hl' := hta.same _ _ hl (.inr rfl)
        have hk' := hta.same _ _ hk (.inr rfl)
        have hlt : w.heap.size + 1 < Wa.heap.size := (Array.getElem?_eq_some_iff.1 hl').1
        refine ⟨_, run_beginRound hl' (by rw [hrec]), ?_⟩
        have hl2 : (Wa.putObj (w.heap.size + 1) (.loop { rec .ready none with state := .busy })).heap[w.heap.size + 1]? = some (.loop { rec .ready none with state := .busy }) := World.putObj_heap_same hlt
        have hk2 : (Wa.putObj (w.heap.size + 1) (.loop { rec .ready none with state := .busy })).heap[w.heap.size]? = some (.deferred (some [])) := (World.putObj_heap_other (by omega)).trans hk'
        have hw2 : Moves w.heap.size (fun _ => False) Wa (Wa.putObj (w.heap.size + 1) (.loop { rec .ready none with state := .busy })) := Moves.putObj _ _ hl' rfl (by omega)
        refine wpIn_mono (hbody _ pre x a' _ (by omega) (hMid _ _ _ _ _ hmid hw2)) ?_
        have fin : ∀ (jump : Option Code) (W3 : World), Turns U (Wa.putObj (w.heap.size + 1) (.loop { rec .ready none with state := .busy })) W3 →
            (Instr.endRound (w.heap.size + 1) jump).run P W3 = .ok (.bool jump.isNone) (W3.putObj (w.heap.size + 1) (.loop (rec (if jump.isNone then .ready else .done) jump))) ∧
            Moves w.heap.size (fun _ => False) W3 (W3.putObj (w.heap.size + 1) (.loop (rec (if jump.isNone then .ready else .done) jump))) ∧
            Moves w.heap.size U W (W3.putObj (w.heap.size + 1) (.loop (rec (if jump.isNone then .ready else .done) jump))) ∧
            (W3.putObj (w.heap.size + 1) (.loop (rec (if jump.isNone then .ready else .done) jump))).heap[w.heap.size + 1]? = some (.loop (rec (if jump.isNone then .ready else .done) jump)) ∧
            (W3.putObj (w.heap.size + 1) (.loop (rec (if jump.isNone then .ready else .done) jump))).heap[w.heap.size]? = some (.deferred (some [])) := fun jump W3 hk3 => by
          have hl3 := hk3.same _ _ hl2 (.inr rfl)
          have hmv : Moves w.heap.size (fun _ => False) W3 (W3.putObj (w.heap.size + 1) (.loop (rec (if jump.isNone then .ready else .done) jump))) := Moves.putObj _ _ hl3 rfl (by omega)
          have := run_endRound (P := P) jump hl3
          rw [hrec] at this ⊢
          rw [hrec] at hmv
          exact ⟨this, hmv, (((hta.moves _).trans (hMu hw2)).trans (hk3.moves _)).trans (hMu hmv), World.putObj_heap_same (Array.getElem?_eq_some_iff.1 hl3).1, (World.putObj_heap_other (by omega)).trans (hk3.same _ _ hk2 (.inr rfl))⟩
        rintro e a3 W3 hp
        cases e with
        | normal =>
          obtain ⟨hk3, hi3⟩ := hp
          obtain ⟨hr, hm3, hu3, hl4, hk4⟩ := fin none W3 hk3
          exact ⟨_, _, hr, .inl ⟨rfl, ⟨hI _ _ _ hi3 (hMv hm3), hl4, hk4⟩, hu3⟩⟩
        | ret =>
          obtain ⟨hk3, hi3⟩ := hp
          obtain ⟨hr, hm3, hu3, hl4, hk4⟩ := fin (some .ret) W3 hk3
          exact ⟨_, _, hr, .inr ⟨rfl, ⟨.ret, hIx _ _ _ _ hi3 (hMv hm3), hl4, hk4⟩, hu3⟩⟩
        | exit id =>
          obtain ⟨hk3, hi3⟩ := hp
          obtain ⟨hr, hm3, hu3, hl4, hk4⟩ := fin (some (.exit id)) W3 hk3
          exact ⟨_, _, hr, .inr ⟨rfl, ⟨.exit id, hIx _ _ _ _ hi3 (hMv hm3), hl4, hk4⟩, hu3⟩⟩
        | goto t =>
          obtain ⟨hk3, hi3⟩ := hp
          obtain ⟨hr, hm3, hu3, hl4, hk4⟩ := fin (some (.goto t)) W3 hk3
          exact ⟨_, _, hr, .inr ⟨rfl, ⟨.goto t, hIx _ _ _ _ hi3 (hMv hm3), hl4, hk4⟩, hu3⟩⟩
        | panic ch => exact hp.elim
        | outgrown => exact hp.elim
      | ret => exact hpost.elim
      | exit id => exact hpost.elim
      | goto t => exact hpost.elim
      | panic ch => exact hpost.elim
      | outgrown => exact hpost.elim
    · rintro e W2 ⟨⟨v, rfl⟩, (⟨xs, hSx, hi, hl, hk⟩ | ⟨pre, hSpx, c, hi, hl, hk⟩)⟩
      · have hm : Moves w.heap.size (fun _ => False) W2 (W2.putObj (w.heap.size + 1) (.loop { rec .ready none with state := .exhausted })) := Moves.putObj _ _ hl rfl (by omega)
        rw [hrec] at hm
        exact ⟨none, _, by have := run_endLoop (P := P) hl (by rw [hrec]; simp); rw [hrec] at this; exact this, hdone _ xs _ (Nat.le_refl _) (hS _ _ _ hSx hm) (hI _ _ _ hi (hMv hm)) ((World.putObj_heap_other (by omega)).trans hk)⟩
      · have hm : Moves w.heap.size (fun _ => False) W2 (W2.putObj (w.heap.size + 1) (.loop { rec .done (some c) with state := .exhausted })) := Moves.putObj _ _ hl rfl (by omega)
        rw [hrec] at hm
        exact ⟨some c, _, by have := run_endLoop (P := P) hl (by rw [hrec]; simp); rw [hrec] at this; exact this, hstop _ c pre _ (Nat.le_refl _) (hSp _ _ _ hSpx hm) (hIx _ _ _ _ hi (hMv hm)) ((World.putObj_heap_other (by omega)).trans hk)⟩
end

section
open Go.RowKit

/-- from place o on block b holds the cells cs -/
def Els (w : World) (b o : Nat) (cs : Array Value) : Prop := b < w.heap.size ∧ ∀ (j : Nat) (v : Value), cs[j]? = some v → w.cell? ⟨b, o + j, none⟩ = some v
theorem Els.lt {w : World} {b o : Nat} {cs : Array Value} (h : Els w b o cs) : b < w.heap.size := h.1
theorem Els.at_ {w : World} {b o : Nat} {cs : Array Value} (h : Els w b o cs) {i : Nat} {v : Value} (hv : cs[i]? = some v) : w.cell? ⟨b, o + i, none⟩ = some v := h.2 i v hv
theorem Els.drew {w : World} {b o : Nat} {cs : Array Value} (h : Els w b o cs) : Els w.drew b o cs := h
theorem Els.alloc {w : World} {b o : Nat} {cs : Array Value} (h : Els w b o cs) (x : Obj) : Els (w.alloc x) b o cs :=
  ⟨by have := h.1; simp; omega, fun j v hv => (World.cell?_alloc_lt w x ⟨b, o + j, none⟩ h.1).trans (h.2 j v hv)⟩
theorem Els.after {w w' : World} {b o : Nat} {cs : Array Value} (h : Els w b o cs) (hb : Below w.heap.size w w') : Els w' b o cs :=
  ⟨Nat.lt_of_lt_of_le h.1 hb.size, fun j v hv => (hb.cell (p := ⟨b, o + j, none⟩) h.1).trans (h.2 j v hv)⟩
theorem Els.far {w : World} {b g i o : Nat} {cs : Array Value} (h : Els w b o cs) (hne : b ≠ g) (u : Value) : Els (w.setCell ⟨g, i, none⟩ u) b o cs :=
  ⟨by have := h.1; simpa [World.setCell] using this, fun j v hv => (World.cell?_setCell_other w ⟨g, i, none⟩ ⟨b, o + j, none⟩ u (fun e => hne (by cases e; rfl))).trans (h.2 j v hv)⟩
theorem Els.realloc {w : World} {b o : Nat} {cs : Array Value} {x y : Obj} (h : Els (w.alloc x) b o cs) (hne : b ≠ w.heap.size) : Els (w.alloc y) b o cs := by
  have hlt : b < w.heap.size := by have := h.1; simp at this; omega
  exact ⟨by simp; omega, fun j v hv => (World.cell?_alloc_lt w y ⟨b, o + j, none⟩ hlt).trans ((World.cell?_alloc_lt w x ⟨b, o + j, none⟩ hlt).symm.trans (h.2 j v hv))⟩
theorem Els.turned {W W' : World} {b g o : Nat} {cs : Array Value} (h : Els W b o cs) (k : Turns (· = g) W W') (hne : b ≠ g) : Els W' b o cs :=
  ⟨Nat.lt_of_lt_of_le h.1 k.size, fun j v hv => (k.moves 0).cell (p := ⟨b, o + j, none⟩) (h.2 j v hv) hne⟩
theorem Els.of3 {w : World} {b o : Nat} {x y z : Value} (hx : w.cell? ⟨b, o, none⟩ = some x) (hy : w.cell? ⟨b, o + 1, none⟩ = some y) (hz : w.cell? ⟨b, o + 2, none⟩ = some z) : Els w b o #[x, y, z] :=
  ⟨World.block_lt_of_cell? _ _ hx, fun j v hv => by
    match j with
    | 0 => cases hv; exact hx
    | 1 => cases hv; exact hy
    | 2 => cases hv; exact hz
    | j + 3 => simp at hv⟩
end

section
open Go.RowKit

/-- a slice value's cells: m elements of 'size' cells each -/
def Src (w : World) (size : Nat) (A : Option Addr) (m : Nat) (xs : List Value) : Prop :=
  xs.length = m * size ∧ (A = none → m = 0) ∧ ∀ ad, A = some ad → ∀ j u, xs[j]? = some u → w.cell? (ad.add j) = some u
section
variable {P : Program} (w : World)
theorem run_append_nothing (base : Nat) (t ty e : TypeId) (i : TypeInfo) (size : Nat) (ht : P.underlying t = some (.slice e)) (hi : P.info? e = some i)
    (v : Value) (n : Nat) (xs : List Value) (hown : w.ownsRow base e size v n xs) (c : Nat) : (Builtin.append_ #[t, t] ty #[v, .slice none 0 c]).run P w = .ok v w := by
  rcases hown.2 with ⟨rfl, rfl⟩ | ⟨g, cap, cur, rfl, _, _, hnc, _⟩
  · simp [Builtin.append_, run_underlying ht, sizeOf, typeInfo, hi, Builtin.lenOf, Builtin.firstCells]
  · simp [Builtin.append_, run_underlying ht, sizeOf, typeInfo, hi, Builtin.lenOf, Builtin.firstCells, hnc, storeCells]
theorem run_append_src (base : Nat) (t ty e : TypeId) (i : TypeInfo) (z : Value) (size bytes : Nat) (ht : P.underlying t = some (.slice e)) (hi : P.info? e = some i) (hz : i.zero = some z)
    (hsize : i.size = size) (hby : i.bytes = bytes) (hzs : z.cells.size = size) (hsz : 0 < size)
    (v : Value) (n : Nat) (xs : List Value) (hown : w.ownsRow base e size v n xs)
    (A : Option Addr) (m c : Nat) (news : List Value) (hr : Src w size A m news) (h1 : ∀ u ∈ news, u.oneCell' = true)
    (h63 : n + m ≤ maxLen) (hbytes : (n + m) * bytes ≤ 140737488355328) (hbase : base ≤ w.heap.size) :
    ∃ v' w', (Builtin.append_ #[t, t] ty #[v, .slice A m c]).run P w = .ok v' w' ∧ w'.ownsRow base e size v' (n + m) (xs ++ news) ∧ w.grownBy w' v.ownBlock ∧
      (v'.ownBlock = v.ownBlock ∨ v'.ownBlock = some w.heap.size) := by
  obtain ⟨hl, hn, hc⟩ := hr
  rcases A with _ | ad
  · obtain rfl := hn rfl
    have hnil : news = [] := List.eq_nil_of_length_eq_zero (by simpa using hl)
    subst hnil
    exact ⟨v, w, run_append_nothing w base t ty e i size ht hi v n xs hown c, by simpa using hown, World.grownBy.refl w _, .inl rfl⟩
  · obtain ⟨v', w', hrun, h2, h3, _, h5⟩ := run_append_own_at (P := P) w base t ty e i z size bytes ht hi hz hsize hby hzs hsz v n xs hown ad m c news hl (hc ad rfl) h1 h63 hbytes hbase
    exact ⟨v', w', hrun, h2, h3, h5⟩
theorem wp_append_src {o : Oper} {a : Act} {K : Act → World → Prop} {Q : Exit → Act → World → Prop} (s x : Operand) (t : TypeId)
    (ho : o.op = .call { callee := .builtin .append, args := #[s, x], argTypes := #[t, t] })
    (base : Nat) (e : TypeId) (i : TypeInfo) (z : Value) (size bytes : Nat) (ht : P.underlying t = some (.slice e)) (hi : P.info? e = some i) (hz : i.zero = some z)
    (hsize : i.size = size) (hby : i.bytes = bytes) (hzs : z.cells.size = size) (hsz : 0 < size)
    (v : Value) (n : Nat) (xs : List Value) (hs : a.eval s = v) (hown : w.ownsRow base e size v n xs)
    (A : Option Addr) (m c : Nat) (news : List Value) (hx : a.eval x = .slice A m c) (hr : Src w size A m news) (h1 : ∀ u ∈ news, u.oneCell' = true)
    (h63 : n + m ≤ maxLen) (hbytes : (n + m) * bytes ≤ 140737488355328) (hbase : base ≤ w.heap.size)
    (h : ∀ v' w', w'.ownsRow base e size v' (n + m) (xs ++ news) → w.grownBy w' v.ownBlock → (v'.ownBlock = v.ownBlock ∨ v'.ownBlock = some w.heap.size) → K (a.put o.dst v') w') : o.wp P a w K Q := by
  obtain ⟨v', w', hrun, h2, h3, h4⟩ := run_append_src (P := P) w base t o.type e i z size bytes ht hi hz hsize hby hzs hsz v n xs hown A m c news hr h1 h63 hbytes hbase
  unfold Oper.wp execOp
  simp only [ho, resolve, invoke, builtin, Sem.run_bind, Sem.run_pure, Result.andThen_ok, List.map_toArray, List.map_cons, List.map_nil, hs, hx, hrun]
  exact h v' w' h2 h3 h4
theorem wpList_append_src {ops : Array Oper} {rest : List Oper} {o : Oper} {a : Act} {Q : Exit → Act → World → Prop} (hgd : o.guard = none) (s x : Operand) (t : TypeId)
    (ho : o.op = .call { callee := .builtin .append, args := #[s, x], argTypes := #[t, t] })
    (base : Nat) (e : TypeId) (i : TypeInfo) (z : Value) (size bytes : Nat) (ht : P.underlying t = some (.slice e)) (hi : P.info? e = some i) (hz : i.zero = some z)
    (hsize : i.size = size) (hby : i.bytes = bytes) (hzs : z.cells.size = size) (hsz : 0 < size)
    (v : Value) (n : Nat) (xs : List Value) (hs : a.eval s = v) (hown : w.ownsRow base e size v n xs)
    (A : Option Addr) (m c : Nat) (news : List Value) (hx : a.eval x = .slice A m c) (hr : Src w size A m news) (h1 : ∀ u ∈ news, u.oneCell' = true)
    (h63 : n + m ≤ maxLen) (hbytes : (n + m) * bytes ≤ 140737488355328) (hbase : base ≤ w.heap.size)
    (h : ∀ v' w', w'.ownsRow base e size v' (n + m) (xs ++ news) → w.grownBy w' v.ownBlock → (v'.ownBlock = v.ownBlock ∨ v'.ownBlock = some w.heap.size) → wpList P ops Q rest (a.put o.dst v') w') : wpList P ops Q (o :: rest) a w :=
  wpList_plain hgd fun _ hK => wp_append_src w s x t ho base e i z size bytes ht hi hz hsize hby hzs hsz v n xs hs hown A m c news hx hr h1 h63 hbytes hbase fun v' w' h2 h3 h4 => hK _ _ (h v' w' h2 h3 h4)
end
theorem Src.below {w w' : World} {size m : Nat} {A : Option Addr} {xs : List Value} (h : Src w size A m xs) (hb : ∀ ad, A = some ad → ∀ j, w'.cell? (ad.add j) = w.cell? (ad.add j)) : Src w' size A m xs :=
  ⟨h.1, h.2.1, fun ad ha j u hu => (hb ad ha j).trans (h.2.2 ad ha j u hu)⟩
theorem ownsRow_cells {w : World} {base : Nat} {e : TypeId} {size n : Nat} {v : Value} {xs : List Value} (h : w.ownsRow base e size v n xs) (hn : 0 < n) :
    ∃ g cap, v = .slice (some ⟨g, 0, none⟩) n cap ∧ base ≤ g ∧ g < w.heap.size ∧ n ≤ cap ∧ cap ≤ maxLen ∧ ∀ j u, xs[j]? = some u → w.cell? ⟨g, j, none⟩ = some u := by
  rcases h.2 with ⟨_, h0⟩ | ⟨g, cap, cur, hv, hb, hh, hnc, hm, hcs, hcur⟩
  · omega
  · refine ⟨g, cap, hv, hb, (Array.getElem?_eq_some_iff.1 hh).1, hnc, hm, fun j u hu => ?_⟩
    have := h.cells (g := g) (by rw [hv]; rfl) j u hu
    rwa [Go.WideShapes.add_plain, Nat.zero_add] at this
end

section
open Go.RowKit

section
variable {α : Type} {enc : α → Array Value} {s : Nat}
/-- A slice value that reads as a list (nil too), in blocks below B. -/
def RowsAt (enc : α → Array Value) (s B : Nat) (w : World) (v : Value) (l : List α) : Prop :=
  (v = .slice none 0 0 ∧ l = []) ∨ ∃ b off cap, v = .slice (some ⟨b, off, none⟩) l.length cap ∧ b < B ∧ l.length ≤ cap ∧ cap ≤ 9223372036854775807 ∧
    ∀ k x, l[k]? = some x → ∀ j u, (enc x)[j]? = some u → w.cell? ⟨b, off + k * s + j, none⟩ = some u
theorem RowsAt.nil (B : Nat) (w : World) : RowsAt enc s B w (.slice none 0 0) [] := .inl ⟨rfl, rfl⟩
theorem RowsAt.keep {B : Nat} {w w' : World} {v : Value} {l : List α} (h : RowsAt enc s B w v l) (hk : ∀ b o u, b < B → w.cell? ⟨b, o, none⟩ = some u → w'.cell? ⟨b, o, none⟩ = some u) : RowsAt enc s B w' v l := by
  rcases h with h | ⟨b, off, cap, hv, hlt, hcap, hn, hc⟩
  · exact .inl h
  · exact .inr ⟨b, off, cap, hv, hlt, hcap, hn, fun k x hx j u hu => hk _ _ _ hlt (hc k x hx j u hu)⟩
theorem RowsAt.below {B : Nat} {w w' : World} {v : Value} {l : List α} (h : RowsAt enc s B w v l) (hb : Below B w w') : RowsAt enc s B w' v l :=
  h.keep fun b o _ hlt hu => (hb.cell (p := ⟨b, o, none⟩) hlt).trans hu
theorem RowsAt.mono {B B' : Nat} {w : World} {v : Value} {l : List α} (h : RowsAt enc s B w v l) (hb : B ≤ B') : RowsAt enc s B' w v l := by
  rcases h with h | ⟨b, off, cap, hv, hlt, r⟩
  · exact .inl h
  · exact .inr ⟨b, off, cap, hv, by omega, r⟩
theorem RowsAt.later {B : Nat} {w w' : World} {v : Value} {l : List α} (h : RowsAt enc s B w v l) (hb : Below B w w') (hB : B ≤ w'.heap.size) : RowsAt enc s w'.heap.size w' v l := (h.below hb).mono hB
theorem RowsAt.slice {B : Nat} {w : World} {v : Value} {l : List α} (h : RowsAt enc s B w v l) : ∃ A c, v = .slice A l.length c ∧ l.length ≤ c ∧ c ≤ 9223372036854775807 ∧ (A = none → c = 0) := by
  rcases h with ⟨rfl, rfl⟩ | ⟨b, off, cap, rfl, _, hc, hn, _⟩
  · exact ⟨none, 0, rfl, Nat.le_refl _, by decide, fun _ => rfl⟩
  · exact ⟨_, cap, rfl, hc, hn, fun h => by cases h⟩
/-- an element's cells -/
theorem RowsAt.el {B : Nat} {w : World} {A : Option Addr} {m c : Nat} {l : List α} (h : RowsAt enc s B w (.slice A m c) l) {k : Nat} {x : α} (hx : l[k]? = some x) (hB : B ≤ w.heap.size) : ∃ b off, A = some ⟨b, off, none⟩ ∧ b < B ∧ Els w b (off + k * s) (enc x) := by
  rcases h with ⟨_, rfl⟩ | ⟨b, off, cap, hv, hlt, hc, hn, hcs⟩
  · simp at hx
  · cases hv
    exact ⟨b, off, rfl, hlt, by omega, hcs k x hx⟩
theorem flat_len (hs : ∀ x, (enc x).size = s) (l : List α) : (l.flatMap fun x => (enc x).toList).length = l.length * s := by
  induction l with
  | nil => simp
  | cons x l ih => rw [List.flatMap_cons, List.length_append, ih, Array.length_toList, hs, List.length_cons, Nat.add_mul]; omega
theorem flat_get (hs : ∀ x, (enc x).size = s) (h0 : 0 < s) : ∀ (l : List α) (j : Nat) (u : Value), (l.flatMap fun x => (enc x).toList)[j]? = some u → ∃ x, l[j / s]? = some x ∧ (enc x)[j % s]? = some u := fun l => by
  induction l with
  | nil => intro j u h; simp at h
  | cons x l ih =>
    intro j u h
    rw [List.flatMap_cons] at h
    by_cases hj : j < s
    · rw [List.getElem?_append_left (by rw [Array.length_toList, hs]; exact hj)] at h
      refine ⟨x, by rw [Nat.div_eq_of_lt hj]; rfl, ?_⟩
      rw [Nat.mod_eq_of_lt hj, ← Array.getElem?_toList]; exact h
    · rw [List.getElem?_append_right (by rw [Array.length_toList, hs]; omega), Array.length_toList, hs] at h
      obtain ⟨y, hy, hu⟩ := ih _ _ h
      have e1 : j / s = (j - s) / s + 1 := by rw [← Nat.add_div_right _ h0, Nat.sub_add_cancel (by omega)]
      have e2 : j % s = (j - s) % s := by rw [← Nat.mod_eq_sub_mod (by omega)]
      exact ⟨y, by rw [e1]; exact hy, by rw [e2]; exact hu⟩
theorem flat_at (hs : ∀ x, (enc x).size = s) : ∀ (l : List α) (k j : Nat) (x : α) (u : Value), l[k]? = some x → (enc x)[j]? = some u → (l.flatMap fun x => (enc x).toList)[k * s + j]? = some u := fun l => by
  induction l with
  | nil => intro k j x u h; simp at h
  | cons y l ih =>
    intro k j x u h hu
    have hj : j < s := by have := (Array.getElem?_eq_some_iff.1 hu).1; rw [hs] at this; exact this
    rw [List.flatMap_cons]
    match k, h with
    | 0, h =>
      cases h
      rw [List.getElem?_append_left (by rw [Array.length_toList, hs]; omega), Array.getElem?_toList, Nat.zero_mul, Nat.zero_add]; exact hu
    | k + 1, h =>
      rw [List.getElem?_append_right (by rw [Array.length_toList, hs, Nat.add_mul]; omega), Array.length_toList, hs, show (k + 1) * s + j - s = k * s + j by rw [Nat.add_mul]; omega]
      exact ih k j x u h hu
theorem RowsAt.src (hs : ∀ x, (enc x).size = s) (h0 : 0 < s) {B : Nat} {w : World} {A : Option Addr} {m c : Nat} {l : List α} (h : RowsAt enc s B w (.slice A m c) l) : Src w s A m (l.flatMap fun x => (enc x).toList) ∧ m = l.length := by
  rcases h with ⟨h, rfl⟩ | ⟨b, off, cap, hv, hlt, hcap, hn, hc⟩
  · cases h
    exact ⟨⟨by simp, (fun _ => rfl), (fun _ h => by cases h)⟩, rfl⟩
  · cases hv
    refine ⟨⟨flat_len hs l, (fun h => by cases h), fun ad ha j u hu => ?_⟩, rfl⟩
    cases ha
    obtain ⟨x, hx, hu'⟩ := flat_get hs h0 l j u hu
    rw [Go.WideShapes.add_plain]
    have := hc _ x hx _ u hu'
    rw [show off + j = off + j / s * s + j % s by have := Nat.div_add_mod' j s; omega]
    exact this
theorem RowsAt.of_own (hs : ∀ x, (enc x).size = s) {w : World} {base : Nat} {e : TypeId} {v : Value} {n : Nat} {l : List α} (h : w.ownsRow base e s v n (l.flatMap fun x => (enc x).toList)) (hn : n = l.length) : RowsAt enc s w.heap.size w v l := by
  subst hn
  by_cases h0 : l = []
  · subst h0
    rcases h.2 with ⟨hv, _⟩ | ⟨g, cap, cur, hv, hb, hh, hnc, hm, hcs, hcur⟩
    · exact .inl ⟨hv, rfl⟩
    · unfold maxLen at hm
      exact .inr ⟨g, 0, cap, hv, (Array.getElem?_eq_some_iff.1 hh).1, by simp, by omega, fun k x hx => by simp at hx⟩
  · obtain ⟨g, cap, hv, _, hg, hnc, hm, hc⟩ := ownsRow_cells h (List.length_pos_iff.2 h0)
    unfold maxLen at hm
    exact .inr ⟨g, 0, cap, hv, hg, hnc, by omega, fun k x hx j u hu => by rw [Nat.zero_add]; exact hc _ _ (flat_at hs l k j x u hx hu)⟩
theorem RowsAt.take {B : Nat} {w : World} {A : Option Addr} {c : Nat} {l : List α} (h : RowsAt enc s B w (.slice A l.length c) l) (k : Nat) {m c' : Nat} (hm : (l.take k).length = m) (hc' : c' ≤ c) (hmc : m ≤ c') : RowsAt enc s B w (.slice A m c') (l.take k) := by
  rcases h with ⟨h, rfl⟩ | ⟨b, off, cap, hv, hlt, hcap, hn, hc⟩
  · cases h
    subst hm
    obtain rfl : c' = 0 := by omega
    exact .inl ⟨by simp, by simp⟩
  · cases hv
    subst hm
    refine .inr ⟨b, off, c', rfl, hlt, hmc, by omega, fun j x hx => hc j x ?_⟩
    rw [List.getElem?_take] at hx
    split at hx
    · exact hx
    · cases hx
/-- a slice laid in a block known whole -/
theorem RowsAt.of_blk (hs : ∀ x, (enc x).size = s) {w : World} {g : Nat} {t : TypeId} {cs : Array Value} {l : List α} {cap : Nat} (h : Blk w g t cs) (hc : ∃ r, cs.toList = (l.flatMap fun x => (enc x).toList) ++ r) (hcap : l.length ≤ cap) (h63 : cap ≤ 9223372036854775807) : RowsAt enc s w.heap.size w (.slice (some ⟨g, 0, none⟩) l.length cap) l := by
  obtain ⟨r, hr⟩ := hc
  refine .inr ⟨g, 0, cap, rfl, h.lt, hcap, h63, fun k x hx j u hu => ?_⟩
  have h1 := flat_at hs l k j x u hx hu
  refine h.at_ ?_
  rw [Nat.zero_add, ← Array.getElem?_toList, hr, List.getElem?_append_left (List.getElem?_eq_some_iff.1 h1).1]
  exact h1
end
end

section
open Go.RowKit

structure Sub where
  par : Int
  st : Int
  cur : Lab
  high : Lab
/-- a subject's cells -/
def encS (x : Sub) : Array Value := #[.int .i64 x.par, .int .i64 x.st, .int .i64 x.cur.lv, .int .u64 (u x.cur.c), .int .i64 x.cur.ig, .int .i64 x.high.lv, .int .u64 (u x.high.c), .int .i64 x.high.ig]
theorem encS_size (x : Sub) : (encS x).size = 8 := rfl
abbrev SubsAt := RowsAt encS 8
/-- is started: the parent stands ahead and is not idle -/
def startedB (l : List Sub) (x : Sub) : Bool := x.par == -1 || (decide (0 ≤ x.par) && (match l[x.par.toNat]? with | some p => p.st != 0 | none => false))
def nextB (l : List Sub) (x : Sub) : Bool :=
  if x.par < -1 ∨ (l.length : Int) ≤ x.par ∨ okL x.high = false then false
  else if x.st = 0 then decide (0 ≤ x.par) && eqL x.cur zeroL
  else if x.st = 1 ∨ x.st = 2 then startedB l x && underL x.cur x.high
  else false
/-- each stands behind those ahead -/
def allNext (l : List Sub) : Bool := (List.range l.length).all fun i => match l[i]? with | some x => nextB (l.take i) x | none => true
def rightT (l : List Sub) : Bool := allNext l && decide (l.length ≤ 8)
def aliveT (l : List Sub) (who : Int) : Bool := rightT l && (decide (0 ≤ who) && (match l[who.toNat]? with | some x => x.st == 1 | none => false))
/-- as far as k -/
theorem allNext_iff {l : List Sub} : allNext l = true ↔ ∀ i x, l[i]? = some x → nextB (l.take i) x = true := by
  unfold allNext
  rw [List.all_eq_true]
  constructor
  · intro h i x hx
    have hi : i < l.length := (List.getElem?_eq_some_iff.1 hx).1
    have := h i (List.mem_range.2 hi)
    rw [hx] at this; exact this
  · intro h i hi
    cases hx : l[i]? with
    | none => rfl
    | some x => exact h i x hx
theorem allNext_no {l : List Sub} {i : Nat} {x : Sub} (hx : l[i]? = some x) (h : nextB (l.take i) x = false) : allNext l = false := by
  cases hb : allNext l
  · rfl
  · rw [allNext_iff.1 hb i x hx] at h; cases h
end

section
open Go.RowKit

attribute [local go_sem] u_and u_or u_andNot u_add u_sub u_bit u_eq_zero u_beq

def JoinIs (a b x : Lab) (n : Int) : Prop := ∀ W, Handle W → Calls Tryd.prog 66 #[.agg #[.int .i64 a.lv, .int .u64 (u a.c), .int .i64 a.ig], .agg #[.int .i64 b.lv, .int .u64 (u b.c), .int .i64 b.ig]] W fun e w' => e = .returned (.tuple #[.agg #[.int .i64 x.lv, .int .u64 (u x.c), .int .i64 x.ig], .int .i64 n]) ∧ Below W.heap.size W w'
def UnderIs (a b : Lab) (r : Bool) : Prop := ∀ W, Calls Tryd.prog 21 #[.agg #[.int .i64 a.lv, .int .u64 (u a.c), .int .i64 a.ig], .agg #[.int .i64 b.lv, .int .u64 (u b.c), .int .i64 b.ig]] W fun e w' => e = .returned (.bool r) ∧ Below W.heap.size W w'
theorem underIs {a b : Lab} {r : Bool} (h : underL a b = r) : UnderIs a b r := fun W => by rw [← h]; exact Under_any a b W
theorem joinIs {a b : Lab} (ha : okL a = true) (hb : okL b = true) : JoinIs a b (joinL a b) 0 := fun W _ => Join_ok a b W ha hb
theorem joinNo {a b : Lab} (h : ¬ (okL a = true ∧ okL b = true)) : JoinIs a b zeroL 20 := fun W hW => Join_bad a b W (fun _ k => hW.up k) h
theorem eqlIs {a b : Lab} {r : Bool} (h : eqL a b = r) : ∀ W, (binOp .eql 25 (.agg #[.int .i64 a.lv, .int .u64 (u a.c), .int .i64 a.ig]) (.agg #[.int .i64 b.lv, .int .u64 (u b.c), .int .i64 b.ig])).run Tryd.prog W = .ok (.bool r) W := fun W => by rw [← h]; exact eql_lab a b W
theorem neq_lab (a b : Lab) (w : World) : (binOp .neq 25 (.agg #[.int .i64 a.lv, .int .u64 (u a.c), .int .i64 a.ig]) (.agg #[.int .i64 b.lv, .int .u64 (u b.c), .int .i64 b.ig])).run Tryd.prog w = .ok (.bool (!eqL a b)) w := by
  by_cases h1 : a.lv = b.lv <;> by_cases h2 : a.c = b.c <;> by_cases h3 : a.ig = b.ig <;> go_simp <;> simp [eqL, h1, h2, h3]
theorem neqIs {a b : Lab} {r : Bool} (h : (!eqL a b) = r) : ∀ W, (binOp .neq 25 (.agg #[.int .i64 a.lv, .int .u64 (u a.c), .int .i64 a.ig]) (.agg #[.int .i64 b.lv, .int .u64 (u b.c), .int .i64 b.ig])).run Tryd.prog W = .ok (.bool r) W := fun W => by rw [← h]; exact neq_lab a b W
theorem nbool {x : Bool} (h : ¬ x = true) : x = false := by cases x <;> simp_all

set_option maxRecDepth 100000 in
set_option maxHeartbeats 4000000 in
theorem to_high (f h a x : Lab) (sa : Addr) (fb : Nat) (w : World) (hh : Env sa w) (hf : Blk w fb 92 #[.int .i64 f.lv, .int .u64 (u f.c), .int .i64 f.ig, .int .i64 h.lv, .int .u64 (u h.c), .int .i64 h.ig]) (h0 : JoinIs f a x 0) (h1 : ∀ W, (binOp .neq 25 (.agg #[.int .i64 x.lv, .int .u64 (u x.c), .int .i64 x.ig]) (.agg #[.int .i64 h.lv, .int .u64 (u h.c), .int .i64 h.ig])).run Tryd.prog W = .ok (.bool true) W) (h2 : UnderIs x h false) :
    Calls Tryd.prog 55 #[.pointer (some ⟨fb, 0, none⟩), .agg #[.int .i64 a.lv, .int .u64 (u a.c), .int .i64 a.ig]] w (fun e w' => e = .returned (stopV (.iface 142 (.pointer (some sa))) a) ∧ Below w.heap.size w w') := by
  have H0 := Lib.hid h0
  clear h0
  have H2 := Lib.hid h2
  clear h2
  have HH := Lib.hid hh
  clear hh
  have B0 := Lib.hid hf
  clear hf
  have HB := Lib.hid (Below.refl w.heap.size w)
  go_enter Tryd.func55, Tryd.ntmps55
  go_upto_region 1 with fail
  go_cut [5, 6] (fun s5 s6 wx => ∃ g3 : Nat, s5 = .pointer (some ⟨g3, 0, none⟩) ∧ s6 = .int .i64 0 ∧ Blk wx (g3) 25 #[.int .i64 x.lv, .int .u64 (u x.c), .int .i64 x.ig] ∧ Blk wx (fb) 92 #[.int .i64 f.lv, .int .u64 (u f.c), .int .i64 f.ig, .int .i64 h.lv, .int .u64 (u h.c), .int .i64 h.ig] ∧ Blk wx (w.heap.size) 25 #[.int .i64 a.lv, .int .u64 (u a.c), .int .i64 a.ig] ∧ Below w.heap.size w wx ∧ fb ≠ g3 ∧ w.heap.size ≠ g3 ∧ w.heap.size ≤ g3)
  case first =>
    refine wp_region_gen (S := (fun W' => Blk W' (fb) 92 #[.int .i64 f.lv, .int .u64 (u f.c), .int .i64 f.ig, .int .i64 h.lv, .int .u64 (u h.c), .int .i64 h.ig] ∧ Blk W' (w.heap.size) 25 #[.int .i64 a.lv, .int .u64 (u a.c), .int .i64 a.ig] ∧ Below w.heap.size w W')) (by kernel_rfl) ⟨(by repeat (first | exact B0.out | exact Blk.new' (by simp; done) | exact Blk.new' rfl | refine Blk.drew ?_ | refine Blk.alloc ?_ _)), (by repeat (first | exact Blk.new' (by simp; done) | exact Blk.new' rfl | refine Blk.drew ?_ | refine Blk.alloc ?_ _)), (by repeat (first | exact HB.out | refine below_alloc ?_ _ | refine Below.drew ?_ | refine below_set ?_ (by omega) _))⟩ (fun w1 hS => ?_)
    refine wpAnyH_take (i := 0) (v := ?_) (op_at rfl) (by kernel_rfl) (by kernel_rfl) (by kernel_rfl) (fun _ _ _ h => h) (Or.inl ⟨by rfl, ?_⟩) hS ?_; rotate_left; focus ((intro w' hSw; clear hSw; go_simp) <;> with_reducible rfl)
    try simp only [Act.put, List.setIfInBounds_toArray, List.set_cons_zero, List.set_cons_succ]
    refine wpAnyH_take (i := 1) (v := ?_) (op_at rfl) (by kernel_rfl) (by kernel_rfl) (by kernel_rfl) (fun _ _ _ h => h) (Or.inl ⟨by rfl, ?_⟩) hS ?_; rotate_left; focus ((intro w' hSw; clear hSw; go_simp) <;> with_reducible rfl)
    try simp only [Act.put, List.setIfInBounds_toArray, List.set_cons_zero, List.set_cons_succ]
    refine wpAnyH_take (i := 2) (v := ?_) (op_at rfl) (by kernel_rfl) (by kernel_rfl) (by kernel_rfl) (fun _ _ _ h => h) (Or.inl ⟨by rfl, ?_⟩) hS ?_; rotate_left; focus ((intro w' hSw; clear hSw; go_simp) <;> with_reducible rfl)
    try simp only [Act.put, List.setIfInBounds_toArray, List.set_cons_zero, List.set_cons_succ]
    refine wpAnyH_take (i := 3) (v := ?_) (op_at rfl) (by kernel_rfl) (by kernel_rfl) (by kernel_rfl) (fun _ _ _ h => h) (Or.inl ⟨by rfl, ?_⟩) hS ?_; rotate_left; focus ((intro w' hSw; obtain ⟨q, -⟩ := hSw; have c0 := q.at_ (i := 0) (v := .int .i64 f.lv) rfl; have c1 := q.at_ (i := 1) (v := .int .u64 (u f.c)) rfl; have c2 := q.at_ (i := 2) (v := .int .i64 f.ig) rfl; clear q; go_simp) <;> with_reducible rfl)
    try simp only [Act.put, List.setIfInBounds_toArray, List.set_cons_zero, List.set_cons_succ]
    refine wpAnyH_take (i := 4) (v := ?_) (op_at rfl) (by kernel_rfl) (by kernel_rfl) (by kernel_rfl) (fun _ _ _ h => h) (Or.inl ⟨by rfl, ?_⟩) hS ?_; rotate_left; focus ((intro w' hSw; obtain ⟨-, q, -⟩ := hSw; have c0 := q.at_ (i := 0) (v := .int .i64 a.lv) rfl; have c1 := q.at_ (i := 1) (v := .int .u64 (u a.c)) rfl; have c2 := q.at_ (i := 2) (v := .int .i64 a.ig) rfl; clear q; go_simp) <;> with_reducible rfl)
    try simp only [Act.put, List.setIfInBounds_toArray, List.set_cons_zero, List.set_cons_succ]
    refine wpAnyH_ready (rs := [5, 9]) (by kernel_rfl) (by simp) ?_
    refine (AllReadyH.cons (op_at rfl) (fun K hK => ?_) (AllReadyH.cons (op_at rfl) (fun K hK => ?_) AllReadyH.nil))
    ·
      go_simp
      obtain ⟨b0, b1, hb⟩ := hS
      refine (H0.out _ (HH.out.up hb).h).mono ?_
      rintro e w2 ⟨rfl, hB⟩
      refine hK.out _ _ ⟨b0.after hB, b1.after hB, below_call hb hB⟩ (fun hS => ?_)
      clear hK K hB b0 b1 hb
      try simp only [Act.put, List.setIfInBounds_toArray, List.set_cons_zero, List.set_cons_succ]
      refine wpAnyH_take (i := 6) (v := ?_) (op_at rfl) (by kernel_rfl) (by kernel_rfl) (by kernel_rfl) (fun _ _ _ h => h) (Or.inl ⟨by rfl, ?_⟩) hS ?_; rotate_left; focus ((intro w' hSw; clear hSw; go_simp) <;> with_reducible rfl)
      try simp only [Act.put, List.setIfInBounds_toArray, List.set_cons_zero, List.set_cons_succ]
      refine wpAnyH_take (i := 7) (v := ?_) (op_at rfl) (by kernel_rfl) (by kernel_rfl) (by kernel_rfl) (fun _ _ _ h => h) (Or.inl ⟨by rfl, ?_⟩) hS ?_; rotate_left; focus ((intro w' hSw; clear hSw; go_simp) <;> with_reducible rfl)
      try simp only [Act.put, List.setIfInBounds_toArray, List.set_cons_zero, List.set_cons_succ]
      refine wpAnyH_take (i := 8) (v := ?_) (op_at rfl) (by kernel_rfl) (by kernel_rfl) (by kernel_rfl) (fun _ _ _ h => h) (Or.inl ⟨by rfl, ?_⟩) hS ?_; rotate_left; focus ((intro w' hSw; clear hSw; go_simp) <;> with_reducible rfl)
      try simp only [Act.put, List.setIfInBounds_toArray, List.set_cons_zero, List.set_cons_succ]
      refine wpAnyH_ready (rs := [9]) (by kernel_rfl) (by simp) ?_
      refine (AllReadyH.cons (op_at rfl) (fun K hK => ?_) AllReadyH.nil)
      go_simp
      obtain ⟨b0, b1, hb⟩ := hS
      have N0 : Hid (Blk (w2.alloc (.cells #[.int .i64 0, .int .u64 0, .int .i64 0] 25)) w2.heap.size 25 #[.int .i64 0, .int .u64 0, .int .i64 0]) := Lib.hid (Blk.new' rfl)
      have d0_N0 : fb ≠ w2.heap.size := Nat.ne_of_lt b0.lt
      have d1_N0 : w.heap.size ≠ w2.heap.size := Nat.ne_of_lt b1.lt
      have dd_N0 : w.heap.size ≤ w2.heap.size := hb.size
      refine hK.out _ _ ⟨b0.alloc _, b1.alloc _, below_alloc hb _⟩ (fun hS => ?_)
      clear hK K b0 b1 hb
      try simp only [Act.put, List.setIfInBounds_toArray, List.set_cons_zero, List.set_cons_succ]
      refine wpAnyH_ready (rs := [10]) (by kernel_rfl) (by simp) ?_
      refine (AllReadyH.cons (op_at rfl) (fun K hK => ?_) AllReadyH.nil)
      go_simp
      obtain ⟨b0, b1, hb⟩ := hS
      refine hK.out _ _ ⟨(Blk.realloc b0 d0_N0), (Blk.realloc b1 d1_N0), (below_realloc hb dd_N0)⟩ (fun hS => ?_)
      replace N0 : Hid (Blk (w2.alloc (.cells #[.int .i64 x.lv, .int .u64 (u x.c), .int .i64 x.ig] 25)) w2.heap.size 25 #[.int .i64 x.lv, .int .u64 (u x.c), .int .i64 x.ig]) := Lib.hid (Blk.new' rfl)
      clear hK K b0 b1 hb
      try simp only [Act.put, List.setIfInBounds_toArray, List.set_cons_zero, List.set_cons_succ]
      refine wpAnyH_take (i := 11) (v := ?_) (op_at rfl) (by kernel_rfl) (by kernel_rfl) (by kernel_rfl) (fun _ _ _ h => h) (Or.inl ⟨by rfl, ?_⟩) hS ?_; rotate_left; focus ((intro w' hSw; clear hSw; go_simp) <;> with_reducible rfl)
      try simp only [Act.put, List.setIfInBounds_toArray, List.set_cons_zero, List.set_cons_succ]
      refine wpAnyH_done (by kernel_rfl) ?_ _
      obtain ⟨b0, b1, hb⟩ := hS
      go_wp2_with fail
      go_meet
      exact ⟨_, rfl, rfl, N0.out, b0, b1, hb, d0_N0, d1_N0, dd_N0⟩
    ·
      go_simp
      obtain ⟨b0, b1, hb⟩ := hS
      have N0 : Hid (Blk (w1.alloc (.cells #[.int .i64 0, .int .u64 0, .int .i64 0] 25)) w1.heap.size 25 #[.int .i64 0, .int .u64 0, .int .i64 0]) := Lib.hid (Blk.new' rfl)
      have d0_N0 : fb ≠ w1.heap.size := Nat.ne_of_lt b0.lt
      have d1_N0 : w.heap.size ≠ w1.heap.size := Nat.ne_of_lt b1.lt
      have dd_N0 : w.heap.size ≤ w1.heap.size := hb.size
      refine hK.out _ _ ⟨b0.alloc _, b1.alloc _, below_alloc hb _⟩ (fun hS => ?_)
      clear hK K b0 b1 hb
      try simp only [Act.put, List.setIfInBounds_toArray, List.set_cons_zero, List.set_cons_succ]
      refine wpAnyH_ready (rs := [5]) (by kernel_rfl) (by simp) ?_
      refine (AllReadyH.cons (op_at rfl) (fun K hK => ?_) AllReadyH.nil)
      go_simp
      obtain ⟨b0, b1, hb⟩ := hS
      refine (H0.out _ (HH.out.up hb).h).mono ?_
      rintro e w3 ⟨rfl, hB⟩
      replace N0 := Lib.hid (N0.out.after hB)
      refine hK.out _ _ ⟨b0.after hB, b1.after hB, below_call hb hB⟩ (fun hS => ?_)
      clear hK K hB b0 b1 hb
      try simp only [Act.put, List.setIfInBounds_toArray, List.set_cons_zero, List.set_cons_succ]
      refine wpAnyH_take (i := 6) (v := ?_) (op_at rfl) (by kernel_rfl) (by kernel_rfl) (by kernel_rfl) (fun _ _ _ h => h) (Or.inl ⟨by rfl, ?_⟩) hS ?_; rotate_left; focus ((intro w' hSw; clear hSw; go_simp) <;> with_reducible rfl)
      try simp only [Act.put, List.setIfInBounds_toArray, List.set_cons_zero, List.set_cons_succ]
      refine wpAnyH_take (i := 7) (v := ?_) (op_at rfl) (by kernel_rfl) (by kernel_rfl) (by kernel_rfl) (fun _ _ _ h => h) (Or.inl ⟨by rfl, ?_⟩) hS ?_; rotate_left; focus ((intro w' hSw; clear hSw; go_simp) <;> with_reducible rfl)
      try simp only [Act.put, List.setIfInBounds_toArray, List.set_cons_zero, List.set_cons_succ]
      refine wpAnyH_take (i := 8) (v := ?_) (op_at rfl) (by kernel_rfl) (by kernel_rfl) (by kernel_rfl) (fun _ _ _ h => h) (Or.inl ⟨by rfl, ?_⟩) hS ?_; rotate_left; focus ((intro w' hSw; clear hSw; go_simp) <;> with_reducible rfl)
      try simp only [Act.put, List.setIfInBounds_toArray, List.set_cons_zero, List.set_cons_succ]
      refine wpAnyH_ready (rs := [10]) (by kernel_rfl) (by simp) ?_
      refine (AllReadyH.cons (op_at rfl) (fun K hK => ?_) AllReadyH.nil)
      have p_0 := N0.out.at_ (i := 0) (v := .int .i64 0) rfl
      have f_0 := N0.out.frozen 0
      have p_1 := N0.out.at_ (i := 1) (v := .int .u64 0) rfl
      have f_1 := N0.out.frozen 1
      have p_2 := N0.out.at_ (i := 2) (v := .int .i64 0) rfl
      have f_2 := N0.out.frozen 2
      go_simp
      clear p_0 f_0 p_1 f_1 p_2 f_2
      obtain ⟨b0, b1, hb⟩ := hS
      refine hK.out _ _ ⟨(Blk.far (Blk.far (Blk.far b0 d0_N0 _) d0_N0 _) d0_N0 _), (Blk.far (Blk.far (Blk.far b1 d1_N0 _) d1_N0 _) d1_N0 _), (below_set (below_set (below_set hb dd_N0 _) dd_N0 _) dd_N0 _)⟩ (fun hS => ?_)
      replace N0 := Lib.hid (Blk.set' (u := .int .i64 x.ig) (i := 2) (cs' := #[.int .i64 x.lv, .int .u64 (u x.c), .int .i64 x.ig]) (Blk.set' (u := .int .u64 (u x.c)) (i := 1) (cs' := #[.int .i64 x.lv, .int .u64 (u x.c), .int .i64 0]) (Blk.set' (u := .int .i64 x.lv) (i := 0) (cs' := #[.int .i64 x.lv, .int .u64 0, .int .i64 0]) N0.out rfl) rfl) rfl)
      clear hK K b0 b1 hb
      try simp only [Act.put, List.setIfInBounds_toArray, List.set_cons_zero, List.set_cons_succ]
      refine wpAnyH_take (i := 11) (v := ?_) (op_at rfl) (by kernel_rfl) (by kernel_rfl) (by kernel_rfl) (fun _ _ _ h => h) (Or.inl ⟨by rfl, ?_⟩) hS ?_; rotate_left; focus ((intro w' hSw; clear hSw; go_simp) <;> with_reducible rfl)
      try simp only [Act.put, List.setIfInBounds_toArray, List.set_cons_zero, List.set_cons_succ]
      refine wpAnyH_done (by kernel_rfl) ?_ _
      obtain ⟨b0, b1, hb⟩ := hS
      go_wp2_with fail
      go_meet
      exact ⟨_, rfl, rfl, N0.out, b0, b1, hb, d0_N0, d1_N0, dd_N0⟩
  case rest =>
    obtain ⟨g3, rfl, rfl, hn, h_0, h_1, hb, e0_g3, e1_g3, ee_g3⟩ := hcut
    replace B0 := Lib.hid h_0
    clear h_0
    replace B1 := Lib.hid h_1
    clear h_1
    have B2 := Lib.hid hn
    clear hn
    replace HB := Lib.hid hb
    clear hb
    go_wp2_with fail
    refine wp_region_gen (S := (fun W' => Blk W' (fb) 92 #[.int .i64 f.lv, .int .u64 (u f.c), .int .i64 f.ig, .int .i64 h.lv, .int .u64 (u h.c), .int .i64 h.ig] ∧ Blk W' (w.heap.size) 25 #[.int .i64 a.lv, .int .u64 (u a.c), .int .i64 a.ig] ∧ Blk W' (g3) 25 #[.int .i64 x.lv, .int .u64 (u x.c), .int .i64 x.ig] ∧ Below w.heap.size w W')) (by kernel_rfl) ⟨(by repeat (first | exact B0.out | exact Blk.new' (by simp; done) | exact Blk.new' rfl | refine Blk.drew ?_ | refine Blk.alloc ?_ _)), (by repeat (first | exact B1.out | exact Blk.new' (by simp; done) | exact Blk.new' rfl | refine Blk.drew ?_ | refine Blk.alloc ?_ _)), (by repeat (first | exact B2.out | exact Blk.new' (by simp; done) | exact Blk.new' rfl | refine Blk.drew ?_ | refine Blk.alloc ?_ _)), (by repeat (first | exact HB.out | refine below_alloc ?_ _ | refine Below.drew ?_ | refine below_set ?_ (by omega) _))⟩ (fun w4 hS => ?_)
    refine wpAnyH_take (i := 0) (v := ?_) (op_at rfl) (by kernel_rfl) (by kernel_rfl) (by kernel_rfl) (fun _ _ _ h => h) (Or.inl ⟨by rfl, ?_⟩) hS ?_; rotate_left; focus ((intro w' hSw; obtain ⟨-, -, q, -⟩ := hSw; have c0 := q.at_ (i := 0) (v := .int .i64 x.lv) rfl; have c1 := q.at_ (i := 1) (v := .int .u64 (u x.c)) rfl; have c2 := q.at_ (i := 2) (v := .int .i64 x.ig) rfl; clear q; go_simp) <;> with_reducible rfl)
    try simp only [Act.put, List.setIfInBounds_toArray, List.set_cons_zero, List.set_cons_succ]
    refine wpAnyH_take (i := 1) (v := ?_) (op_at rfl) (by kernel_rfl) (by kernel_rfl) (by kernel_rfl) (fun _ _ _ h => h) (Or.inl ⟨by rfl, ?_⟩) hS ?_; rotate_left; focus ((intro w' hSw; clear hSw; go_simp) <;> with_reducible rfl)
    try simp only [Act.put, List.setIfInBounds_toArray, List.set_cons_zero, List.set_cons_succ]
    refine wpAnyH_take (i := 2) (v := ?_) (op_at rfl) (by kernel_rfl) (by kernel_rfl) (by kernel_rfl) (fun _ _ _ h => h) (Or.inl ⟨by rfl, ?_⟩) hS ?_; rotate_left; focus ((intro w' hSw; clear hSw; go_simp) <;> with_reducible rfl)
    try simp only [Act.put, List.setIfInBounds_toArray, List.set_cons_zero, List.set_cons_succ]
    refine wpAnyH_take (i := 3) (v := ?_) (op_at rfl) (by kernel_rfl) (by kernel_rfl) (by kernel_rfl) (fun _ _ _ h => h) (Or.inl ⟨by rfl, ?_⟩) hS ?_; rotate_left; focus ((intro w' hSw; clear hSw; go_simp) <;> with_reducible rfl)
    try simp only [Act.put, List.setIfInBounds_toArray, List.set_cons_zero, List.set_cons_succ]
    refine wpAnyH_take (i := 4) (v := ?_) (op_at rfl) (by kernel_rfl) (by kernel_rfl) (by kernel_rfl) (fun _ _ _ h => h) (Or.inl ⟨by rfl, ?_⟩) hS ?_; rotate_left; focus ((intro w' hSw; obtain ⟨q, -⟩ := hSw; have c3 := q.at_ (i := 3) (v := .int .i64 h.lv) rfl; have c4 := q.at_ (i := 4) (v := .int .u64 (u h.c)) rfl; have c5 := q.at_ (i := 5) (v := .int .i64 h.ig) rfl; clear q; go_simp) <;> with_reducible rfl)
    try simp only [Act.put, List.setIfInBounds_toArray, List.set_cons_zero, List.set_cons_succ]
    refine wpAnyH_take (i := 5) (v := ?_) (op_at rfl) (by kernel_rfl) (by kernel_rfl) (by kernel_rfl) (fun _ _ _ h => h) (Or.inl ⟨by rfl, ?_⟩) hS ?_; rotate_left; focus ((intro w' hSw; clear hSw; go_simp) <;> with_reducible rfl)
    try simp only [Act.put, List.setIfInBounds_toArray, List.set_cons_zero, List.set_cons_succ]
    refine wpAnyH_take (i := 6) (v := ?_) (op_at rfl) (by kernel_rfl) (by kernel_rfl) (by kernel_rfl) (fun _ _ _ h => h) (Or.inl ⟨by rfl, ?_⟩) hS ?_; rotate_left; focus ((intro w' hSw; clear hSw; go_simp) <;> with_reducible rfl)
    try simp only [Act.put, List.setIfInBounds_toArray, List.set_cons_zero, List.set_cons_succ]
    refine wpAnyH_take (i := 7) (v := ?_) (op_at rfl) (by kernel_rfl) (by kernel_rfl) (by kernel_rfl) (fun _ _ _ h => h) (Or.inl ⟨by rfl, ?_⟩) hS ?_; rotate_left; focus ((intro w' hSw; obtain ⟨-, -, q, -⟩ := hSw; have c0 := q.at_ (i := 0) (v := .int .i64 x.lv) rfl; have c1 := q.at_ (i := 1) (v := .int .u64 (u x.c)) rfl; have c2 := q.at_ (i := 2) (v := .int .i64 x.ig) rfl; clear q; go_simp) <;> with_reducible rfl)
    try simp only [Act.put, List.setIfInBounds_toArray, List.set_cons_zero, List.set_cons_succ]
    refine wpAnyH_take (i := 8) (v := ?_) (op_at rfl) (by kernel_rfl) (by kernel_rfl) (by kernel_rfl) (fun _ _ _ h => h) (Or.inl ⟨by rfl, ?_⟩) hS ?_; rotate_left; focus ((intro w' hSw; clear hSw; go_simp) <;> with_reducible rfl)
    try simp only [Act.put, List.setIfInBounds_toArray, List.set_cons_zero, List.set_cons_succ]
    refine wpAnyH_take (i := 9) (v := ?_) (op_at rfl) (by kernel_rfl) (by kernel_rfl) (by kernel_rfl) (fun _ _ _ h => h) (Or.inl ⟨by rfl, ?_⟩) hS ?_; rotate_left; focus ((intro w' hSw; clear hSw; go_simp) <;> with_reducible rfl)
    try simp only [Act.put, List.setIfInBounds_toArray, List.set_cons_zero, List.set_cons_succ]
    refine wpAnyH_take (i := 10) (v := ?_) (op_at rfl) (by kernel_rfl) (by kernel_rfl) (by kernel_rfl) (fun _ _ _ h => h) (Or.inl ⟨by rfl, ?_⟩) hS ?_; rotate_left; focus ((intro w' hSw; clear hSw; go_simp) <;> with_reducible rfl)
    try simp only [Act.put, List.setIfInBounds_toArray, List.set_cons_zero, List.set_cons_succ]
    refine wpAnyH_take (i := 11) (v := ?_) (op_at rfl) (by kernel_rfl) (by kernel_rfl) (by kernel_rfl) (fun _ _ _ h => h) (Or.inl ⟨by rfl, ?_⟩) hS ?_; rotate_left; focus ((intro w' hSw; obtain ⟨q, -⟩ := hSw; have c3 := q.at_ (i := 3) (v := .int .i64 h.lv) rfl; have c4 := q.at_ (i := 4) (v := .int .u64 (u h.c)) rfl; have c5 := q.at_ (i := 5) (v := .int .i64 h.ig) rfl; clear q; go_simp) <;> with_reducible rfl)
    try simp only [Act.put, List.setIfInBounds_toArray, List.set_cons_zero, List.set_cons_succ]
    refine wpAnyH_ready (rs := [12]) (by kernel_rfl) (by simp) ?_
    refine (AllReadyH.cons (op_at rfl) (fun K hK => ?_) AllReadyH.nil)
    go_simp
    obtain ⟨b0, b1, b2, hb⟩ := hS
    refine (H2.out _).mono ?_
    rintro e w5 ⟨rfl, hB⟩
    refine hK.out _ _ ⟨b0.after hB, b1.after hB, b2.after hB, below_call hb hB⟩ (fun hS => ?_)
    clear hK K hB b0 b1 b2 hb
    try simp only [Act.put, List.setIfInBounds_toArray, List.set_cons_zero, List.set_cons_succ]
    refine wpAnyH_take (i := 13) (v := ?_) (op_at rfl) (by kernel_rfl) (by kernel_rfl) (by kernel_rfl) (fun _ _ _ h => h) (Or.inl ⟨by rfl, ?_⟩) hS ?_; rotate_left; focus ((intro w' hSw; clear hSw; go_simp) <;> with_reducible rfl)
    try simp only [Act.put, List.setIfInBounds_toArray, List.set_cons_zero, List.set_cons_succ]
    refine wpAnyH_take (i := 14) (v := ?_) (op_at rfl) (by kernel_rfl) (by kernel_rfl) (by kernel_rfl) (fun _ _ _ h => h) (Or.inl ⟨by rfl, ?_⟩) hS ?_; rotate_left; focus ((intro w' hSw; clear hSw; go_simp) <;> with_reducible rfl)
    try simp only [Act.put, List.setIfInBounds_toArray, List.set_cons_zero, List.set_cons_succ]
    refine wpAnyH_done (by kernel_rfl) ?_ _
    obtain ⟨b0, b1, b2, hb⟩ := hS
    replace B0 := Lib.hid b0
    clear b0
    replace B1 := Lib.hid b1
    clear b1
    replace B2 := Lib.hid b2
    clear b2
    replace HB := Lib.hid hb
    clear hb
    have g_0 : w5.cell? ⟨1, 0, none⟩ = some (.iface 142 (.pointer (some sa))) := (HH.out.up HB.out).s
    have gl_0 : 1 < w5.heap.size := (HH.out.up HB.out).s.lt
    have p1_0 := B1.out.at_ (i := 0) (v := .int .i64 a.lv) rfl
    have p1_1 := B1.out.at_ (i := 1) (v := .int .u64 (u a.c)) rfl
    have p1_2 := B1.out.at_ (i := 2) (v := .int .i64 a.ig) rfl
    have k1_0 : w.heap.size < w5.heap.size := by have := B1.out.lt; omega
    go_wp2_with fail
    go_ret
    exact ⟨rfl, (by repeat (first | exact HB.out | refine below_alloc ?_ _ | refine Below.drew ?_ | refine below_set ?_ (by omega) _))⟩
set_option maxRecDepth 100000 in
set_option maxHeartbeats 4000000 in
theorem to_same (f h a x : Lab) (sa : Addr) (fb : Nat) (w : World) (hh : Env sa w) (hf : Blk w fb 92 #[.int .i64 f.lv, .int .u64 (u f.c), .int .i64 f.ig, .int .i64 h.lv, .int .u64 (u h.c), .int .i64 h.ig]) (h0 : JoinIs f a x 0) (h1 : ∀ W, (binOp .neq 25 (.agg #[.int .i64 x.lv, .int .u64 (u x.c), .int .i64 x.ig]) (.agg #[.int .i64 h.lv, .int .u64 (u h.c), .int .i64 h.ig])).run Tryd.prog W = .ok (.bool false) W) :
    Calls Tryd.prog 55 #[.pointer (some ⟨fb, 0, none⟩), .agg #[.int .i64 a.lv, .int .u64 (u a.c), .int .i64 a.ig]] w (fun e w' => e = .returned .nilIface ∧ Blk w' fb 92 #[.int .i64 x.lv, .int .u64 (u x.c), .int .i64 x.ig, .int .i64 h.lv, .int .u64 (u h.c), .int .i64 h.ig] ∧ Turns (· = fb) w w') := by
  have H0 := Lib.hid h0
  clear h0
  have HH := Lib.hid hh
  clear hh
  have B0 := Lib.hid hf
  clear hf
  have HB := Lib.hid (Below.refl w.heap.size w)
  go_enter Tryd.func55, Tryd.ntmps55
  go_upto_region 1 with fail
  go_cut [5, 6] (fun s5 s6 wx => ∃ g3 : Nat, s5 = .pointer (some ⟨g3, 0, none⟩) ∧ s6 = .int .i64 0 ∧ Blk wx (g3) 25 #[.int .i64 x.lv, .int .u64 (u x.c), .int .i64 x.ig] ∧ Blk wx (fb) 92 #[.int .i64 f.lv, .int .u64 (u f.c), .int .i64 f.ig, .int .i64 h.lv, .int .u64 (u h.c), .int .i64 h.ig] ∧ Blk wx (w.heap.size) 25 #[.int .i64 a.lv, .int .u64 (u a.c), .int .i64 a.ig] ∧ Below w.heap.size w wx ∧ fb ≠ g3 ∧ w.heap.size ≠ g3 ∧ w.heap.size ≤ g3)
  case first =>
    refine wp_region_gen (S := (fun W' => Blk W' (fb) 92 #[.int .i64 f.lv, .int .u64 (u f.c), .int .i64 f.ig, .int .i64 h.lv, .int .u64 (u h.c), .int .i64 h.ig] ∧ Blk W' (w.heap.size) 25 #[.int .i64 a.lv, .int .u64 (u a.c), .int .i64 a.ig] ∧ Below w.heap.size w W')) (by kernel_rfl) ⟨(by repeat (first | exact B0.out | exact Blk.new' (by simp; done) | exact Blk.new' rfl | refine Blk.drew ?_ | refine Blk.alloc ?_ _)), (by repeat (first | exact Blk.new' (by simp; done) | exact Blk.new' rfl | refine Blk.drew ?_ | refine Blk.alloc ?_ _)), (by repeat (first | exact HB.out | refine below_alloc ?_ _ | refine Below.drew ?_ | refine below_set ?_ (by omega) _))⟩ (fun w1 hS => ?_)
    refine wpAnyH_take (i := 0) (v := ?_) (op_at rfl) (by kernel_rfl) (by kernel_rfl) (by kernel_rfl) (fun _ _ _ h => h) (Or.inl ⟨by rfl, ?_⟩) hS ?_; rotate_left; focus ((intro w' hSw; clear hSw; go_simp) <;> with_reducible rfl)
    try simp only [Act.put, List.setIfInBounds_toArray, List.set_cons_zero, List.set_cons_succ]
    refine wpAnyH_take (i := 1) (v := ?_) (op_at rfl) (by kernel_rfl) (by kernel_rfl) (by kernel_rfl) (fun _ _ _ h => h) (Or.inl ⟨by rfl, ?_⟩) hS ?_; rotate_left; focus ((intro w' hSw; clear hSw; go_simp) <;> with_reducible rfl)
    try simp only [Act.put, List.setIfInBounds_toArray, List.set_cons_zero, List.set_cons_succ]
    refine wpAnyH_take (i := 2) (v := ?_) (op_at rfl) (by kernel_rfl) (by kernel_rfl) (by kernel_rfl) (fun _ _ _ h => h) (Or.inl ⟨by rfl, ?_⟩) hS ?_; rotate_left; focus ((intro w' hSw; clear hSw; go_simp) <;> with_reducible rfl)
    try simp only [Act.put, List.setIfInBounds_toArray, List.set_cons_zero, List.set_cons_succ]
    refine wpAnyH_take (i := 3) (v := ?_) (op_at rfl) (by kernel_rfl) (by kernel_rfl) (by kernel_rfl) (fun _ _ _ h => h) (Or.inl ⟨by rfl, ?_⟩) hS ?_; rotate_left; focus ((intro w' hSw; obtain ⟨q, -⟩ := hSw; have c0 := q.at_ (i := 0) (v := .int .i64 f.lv) rfl; have c1 := q.at_ (i := 1) (v := .int .u64 (u f.c)) rfl; have c2 := q.at_ (i := 2) (v := .int .i64 f.ig) rfl; clear q; go_simp) <;> with_reducible rfl)
    try simp only [Act.put, List.setIfInBounds_toArray, List.set_cons_zero, List.set_cons_succ]
    refine wpAnyH_take (i := 4) (v := ?_) (op_at rfl) (by kernel_rfl) (by kernel_rfl) (by kernel_rfl) (fun _ _ _ h => h) (Or.inl ⟨by rfl, ?_⟩) hS ?_; rotate_left; focus ((intro w' hSw; obtain ⟨-, q, -⟩ := hSw; have c0 := q.at_ (i := 0) (v := .int .i64 a.lv) rfl; have c1 := q.at_ (i := 1) (v := .int .u64 (u a.c)) rfl; have c2 := q.at_ (i := 2) (v := .int .i64 a.ig) rfl; clear q; go_simp) <;> with_reducible rfl)
    try simp only [Act.put, List.setIfInBounds_toArray, List.set_cons_zero, List.set_cons_succ]
    refine wpAnyH_ready (rs := [5, 9]) (by kernel_rfl) (by simp) ?_
    refine (AllReadyH.cons (op_at rfl) (fun K hK => ?_) (AllReadyH.cons (op_at rfl) (fun K hK => ?_) AllReadyH.nil))
    ·
      go_simp
      obtain ⟨b0, b1, hb⟩ := hS
      refine (H0.out _ (HH.out.up hb).h).mono ?_
      rintro e w2 ⟨rfl, hB⟩
      refine hK.out _ _ ⟨b0.after hB, b1.after hB, below_call hb hB⟩ (fun hS => ?_)
      clear hK K hB b0 b1 hb
      try simp only [Act.put, List.setIfInBounds_toArray, List.set_cons_zero, List.set_cons_succ]
      refine wpAnyH_take (i := 6) (v := ?_) (op_at rfl) (by kernel_rfl) (by kernel_rfl) (by kernel_rfl) (fun _ _ _ h => h) (Or.inl ⟨by rfl, ?_⟩) hS ?_; rotate_left; focus ((intro w' hSw; clear hSw; go_simp) <;> with_reducible rfl)
      try simp only [Act.put, List.setIfInBounds_toArray, List.set_cons_zero, List.set_cons_succ]
      refine wpAnyH_take (i := 7) (v := ?_) (op_at rfl) (by kernel_rfl) (by kernel_rfl) (by kernel_rfl) (fun _ _ _ h => h) (Or.inl ⟨by rfl, ?_⟩) hS ?_; rotate_left; focus ((intro w' hSw; clear hSw; go_simp) <;> with_reducible rfl)
      try simp only [Act.put, List.setIfInBounds_toArray, List.set_cons_zero, List.set_cons_succ]
      refine wpAnyH_take (i := 8) (v := ?_) (op_at rfl) (by kernel_rfl) (by kernel_rfl) (by kernel_rfl) (fun _ _ _ h => h) (Or.inl ⟨by rfl, ?_⟩) hS ?_; rotate_left; focus ((intro w' hSw; clear hSw; go_simp) <;> with_reducible rfl)
      try simp only [Act.put, List.setIfInBounds_toArray, List.set_cons_zero, List.set_cons_succ]
      refine wpAnyH_ready (rs := [9]) (by kernel_rfl) (by simp) ?_
      refine (AllReadyH.cons (op_at rfl) (fun K hK => ?_) AllReadyH.nil)
      go_simp
      obtain ⟨b0, b1, hb⟩ := hS
      have N0 : Hid (Blk (w2.alloc (.cells #[.int .i64 0, .int .u64 0, .int .i64 0] 25)) w2.heap.size 25 #[.int .i64 0, .int .u64 0, .int .i64 0]) := Lib.hid (Blk.new' rfl)
      have d0_N0 : fb ≠ w2.heap.size := Nat.ne_of_lt b0.lt
      have d1_N0 : w.heap.size ≠ w2.heap.size := Nat.ne_of_lt b1.lt
      have dd_N0 : w.heap.size ≤ w2.heap.size := hb.size
      refine hK.out _ _ ⟨b0.alloc _, b1.alloc _, below_alloc hb _⟩ (fun hS => ?_)
      clear hK K b0 b1 hb
      try simp only [Act.put, List.setIfInBounds_toArray, List.set_cons_zero, List.set_cons_succ]
      refine wpAnyH_ready (rs := [10]) (by kernel_rfl) (by simp) ?_
      refine (AllReadyH.cons (op_at rfl) (fun K hK => ?_) AllReadyH.nil)
      go_simp
      obtain ⟨b0, b1, hb⟩ := hS
      refine hK.out _ _ ⟨(Blk.realloc b0 d0_N0), (Blk.realloc b1 d1_N0), (below_realloc hb dd_N0)⟩ (fun hS => ?_)
      replace N0 : Hid (Blk (w2.alloc (.cells #[.int .i64 x.lv, .int .u64 (u x.c), .int .i64 x.ig] 25)) w2.heap.size 25 #[.int .i64 x.lv, .int .u64 (u x.c), .int .i64 x.ig]) := Lib.hid (Blk.new' rfl)
      clear hK K b0 b1 hb
      try simp only [Act.put, List.setIfInBounds_toArray, List.set_cons_zero, List.set_cons_succ]
      refine wpAnyH_take (i := 11) (v := ?_) (op_at rfl) (by kernel_rfl) (by kernel_rfl) (by kernel_rfl) (fun _ _ _ h => h) (Or.inl ⟨by rfl, ?_⟩) hS ?_; rotate_left; focus ((intro w' hSw; clear hSw; go_simp) <;> with_reducible rfl)
      try simp only [Act.put, List.setIfInBounds_toArray, List.set_cons_zero, List.set_cons_succ]
      refine wpAnyH_done (by kernel_rfl) ?_ _
      obtain ⟨b0, b1, hb⟩ := hS
      go_wp2_with fail
      go_meet
      exact ⟨_, rfl, rfl, N0.out, b0, b1, hb, d0_N0, d1_N0, dd_N0⟩
    ·
      go_simp
      obtain ⟨b0, b1, hb⟩ := hS
      have N0 : Hid (Blk (w1.alloc (.cells #[.int .i64 0, .int .u64 0, .int .i64 0] 25)) w1.heap.size 25 #[.int .i64 0, .int .u64 0, .int .i64 0]) := Lib.hid (Blk.new' rfl)
      have d0_N0 : fb ≠ w1.heap.size := Nat.ne_of_lt b0.lt
      have d1_N0 : w.heap.size ≠ w1.heap.size := Nat.ne_of_lt b1.lt
      have dd_N0 : w.heap.size ≤ w1.heap.size := hb.size
      refine hK.out _ _ ⟨b0.alloc _, b1.alloc _, below_alloc hb _⟩ (fun hS => ?_)
      clear hK K b0 b1 hb
      try simp only [Act.put, List.setIfInBounds_toArray, List.set_cons_zero, List.set_cons_succ]
      refine wpAnyH_ready (rs := [5]) (by kernel_rfl) (by simp) ?_
      refine (AllReadyH.cons (op_at rfl) (fun K hK => ?_) AllReadyH.nil)
      go_simp
      obtain ⟨b0, b1, hb⟩ := hS
      refine (H0.out _ (HH.out.up hb).h).mono ?_
      rintro e w3 ⟨rfl, hB⟩
      replace N0 := Lib.hid (N0.out.after hB)
      refine hK.out _ _ ⟨b0.after hB, b1.after hB, below_call hb hB⟩ (fun hS => ?_)
      clear hK K hB b0 b1 hb
      try simp only [Act.put, List.setIfInBounds_toArray, List.set_cons_zero, List.set_cons_succ]
      refine wpAnyH_take (i := 6) (v := ?_) (op_at rfl) (by kernel_rfl) (by kernel_rfl) (by kernel_rfl) (fun _ _ _ h => h) (Or.inl ⟨by rfl, ?_⟩) hS ?_; rotate_left; focus ((intro w' hSw; clear hSw; go_simp) <;> with_reducible rfl)
      try simp only [Act.put, List.setIfInBounds_toArray, List.set_cons_zero, List.set_cons_succ]
      refine wpAnyH_take (i := 7) (v := ?_) (op_at rfl) (by kernel_rfl) (by kernel_rfl) (by kernel_rfl) (fun _ _ _ h => h) (Or.inl ⟨by rfl, ?_⟩) hS ?_; rotate_left; focus ((intro w' hSw; clear hSw; go_simp) <;> with_reducible rfl)
      try simp only [Act.put, List.setIfInBounds_toArray, List.set_cons_zero, List.set_cons_succ]
      refine wpAnyH_take (i := 8) (v := ?_) (op_at rfl) (by kernel_rfl) (by kernel_rfl) (by kernel_rfl) (fun _ _ _ h => h) (Or.inl ⟨by rfl, ?_⟩) hS ?_; rotate_left; focus ((intro w' hSw; clear hSw; go_simp) <;> with_reducible rfl)
      try simp only [Act.put, List.setIfInBounds_toArray, List.set_cons_zero, List.set_cons_succ]
      refine wpAnyH_ready (rs := [10]) (by kernel_rfl) (by simp) ?_
      refine (AllReadyH.cons (op_at rfl) (fun K hK => ?_) AllReadyH.nil)
      have p_0 := N0.out.at_ (i := 0) (v := .int .i64 0) rfl
      have f_0 := N0.out.frozen 0
      have p_1 := N0.out.at_ (i := 1) (v := .int .u64 0) rfl
      have f_1 := N0.out.frozen 1
      have p_2 := N0.out.at_ (i := 2) (v := .int .i64 0) rfl
      have f_2 := N0.out.frozen 2
      go_simp
      clear p_0 f_0 p_1 f_1 p_2 f_2
      obtain ⟨b0, b1, hb⟩ := hS
      refine hK.out _ _ ⟨(Blk.far (Blk.far (Blk.far b0 d0_N0 _) d0_N0 _) d0_N0 _), (Blk.far (Blk.far (Blk.far b1 d1_N0 _) d1_N0 _) d1_N0 _), (below_set (below_set (below_set hb dd_N0 _) dd_N0 _) dd_N0 _)⟩ (fun hS => ?_)
      replace N0 := Lib.hid (Blk.set' (u := .int .i64 x.ig) (i := 2) (cs' := #[.int .i64 x.lv, .int .u64 (u x.c), .int .i64 x.ig]) (Blk.set' (u := .int .u64 (u x.c)) (i := 1) (cs' := #[.int .i64 x.lv, .int .u64 (u x.c), .int .i64 0]) (Blk.set' (u := .int .i64 x.lv) (i := 0) (cs' := #[.int .i64 x.lv, .int .u64 0, .int .i64 0]) N0.out rfl) rfl) rfl)
      clear hK K b0 b1 hb
      try simp only [Act.put, List.setIfInBounds_toArray, List.set_cons_zero, List.set_cons_succ]
      refine wpAnyH_take (i := 11) (v := ?_) (op_at rfl) (by kernel_rfl) (by kernel_rfl) (by kernel_rfl) (fun _ _ _ h => h) (Or.inl ⟨by rfl, ?_⟩) hS ?_; rotate_left; focus ((intro w' hSw; clear hSw; go_simp) <;> with_reducible rfl)
      try simp only [Act.put, List.setIfInBounds_toArray, List.set_cons_zero, List.set_cons_succ]
      refine wpAnyH_done (by kernel_rfl) ?_ _
      obtain ⟨b0, b1, hb⟩ := hS
      go_wp2_with fail
      go_meet
      exact ⟨_, rfl, rfl, N0.out, b0, b1, hb, d0_N0, d1_N0, dd_N0⟩
  case rest =>
    obtain ⟨g3, rfl, rfl, hn, h_0, h_1, hb, e0_g3, e1_g3, ee_g3⟩ := hcut
    replace B0 := Lib.hid h_0
    clear h_0
    replace B1 := Lib.hid h_1
    clear h_1
    have B2 := Lib.hid hn
    clear hn
    replace HB := Lib.hid hb
    clear hb
    go_wp2_with fail
    refine wp_region_gen (S := (fun W' => Blk W' (fb) 92 #[.int .i64 f.lv, .int .u64 (u f.c), .int .i64 f.ig, .int .i64 h.lv, .int .u64 (u h.c), .int .i64 h.ig] ∧ Blk W' (w.heap.size) 25 #[.int .i64 a.lv, .int .u64 (u a.c), .int .i64 a.ig] ∧ Blk W' (g3) 25 #[.int .i64 x.lv, .int .u64 (u x.c), .int .i64 x.ig] ∧ Below w.heap.size w W')) (by kernel_rfl) ⟨(by repeat (first | exact B0.out | exact Blk.new' (by simp; done) | exact Blk.new' rfl | refine Blk.drew ?_ | refine Blk.alloc ?_ _)), (by repeat (first | exact B1.out | exact Blk.new' (by simp; done) | exact Blk.new' rfl | refine Blk.drew ?_ | refine Blk.alloc ?_ _)), (by repeat (first | exact B2.out | exact Blk.new' (by simp; done) | exact Blk.new' rfl | refine Blk.drew ?_ | refine Blk.alloc ?_ _)), (by repeat (first | exact HB.out | refine below_alloc ?_ _ | refine Below.drew ?_ | refine below_set ?_ (by omega) _))⟩ (fun w4 hS => ?_)
    refine wpAnyH_take (i := 0) (v := ?_) (op_at rfl) (by kernel_rfl) (by kernel_rfl) (by kernel_rfl) (fun _ _ _ h => h) (Or.inl ⟨by rfl, ?_⟩) hS ?_; rotate_left; focus ((intro w' hSw; obtain ⟨-, -, q, -⟩ := hSw; have c0 := q.at_ (i := 0) (v := .int .i64 x.lv) rfl; have c1 := q.at_ (i := 1) (v := .int .u64 (u x.c)) rfl; have c2 := q.at_ (i := 2) (v := .int .i64 x.ig) rfl; clear q; go_simp) <;> with_reducible rfl)
    try simp only [Act.put, List.setIfInBounds_toArray, List.set_cons_zero, List.set_cons_succ]
    refine wpAnyH_take (i := 1) (v := ?_) (op_at rfl) (by kernel_rfl) (by kernel_rfl) (by kernel_rfl) (fun _ _ _ h => h) (Or.inl ⟨by rfl, ?_⟩) hS ?_; rotate_left; focus ((intro w' hSw; clear hSw; go_simp) <;> with_reducible rfl)
    try simp only [Act.put, List.setIfInBounds_toArray, List.set_cons_zero, List.set_cons_succ]
    refine wpAnyH_take (i := 2) (v := ?_) (op_at rfl) (by kernel_rfl) (by kernel_rfl) (by kernel_rfl) (fun _ _ _ h => h) (Or.inl ⟨by rfl, ?_⟩) hS ?_; rotate_left; focus ((intro w' hSw; clear hSw; go_simp) <;> with_reducible rfl)
    try simp only [Act.put, List.setIfInBounds_toArray, List.set_cons_zero, List.set_cons_succ]
    refine wpAnyH_take (i := 3) (v := ?_) (op_at rfl) (by kernel_rfl) (by kernel_rfl) (by kernel_rfl) (fun _ _ _ h => h) (Or.inl ⟨by rfl, ?_⟩) hS ?_; rotate_left; focus ((intro w' hSw; clear hSw; go_simp) <;> with_reducible rfl)
    try simp only [Act.put, List.setIfInBounds_toArray, List.set_cons_zero, List.set_cons_succ]
    refine wpAnyH_take (i := 4) (v := ?_) (op_at rfl) (by kernel_rfl) (by kernel_rfl) (by kernel_rfl) (fun _ _ _ h => h) (Or.inl ⟨by rfl, ?_⟩) hS ?_; rotate_left; focus ((intro w' hSw; obtain ⟨q, -⟩ := hSw; have c3 := q.at_ (i := 3) (v := .int .i64 h.lv) rfl; have c4 := q.at_ (i := 4) (v := .int .u64 (u h.c)) rfl; have c5 := q.at_ (i := 5) (v := .int .i64 h.ig) rfl; clear q; go_simp) <;> with_reducible rfl)
    try simp only [Act.put, List.setIfInBounds_toArray, List.set_cons_zero, List.set_cons_succ]
    refine wpAnyH_take (i := 5) (v := ?_) (op_at rfl) (by kernel_rfl) (by kernel_rfl) (by kernel_rfl) (fun _ _ _ h => h) (Or.inl ⟨by rfl, ?_⟩) hS ?_; rotate_left; focus ((intro w' hSw; clear hSw; go_simp) <;> with_reducible rfl)
    try simp only [Act.put, List.setIfInBounds_toArray, List.set_cons_zero, List.set_cons_succ]
    refine wpAnyH_take (i := 6) (v := ?_) (op_at rfl) (by kernel_rfl) (by kernel_rfl) (by kernel_rfl) (fun _ _ _ h => h) (Or.inl ⟨by rfl, ?_⟩) hS ?_; rotate_left; focus ((intro w' hSw; clear hSw; go_simp) <;> with_reducible rfl)
    try simp only [Act.put, List.setIfInBounds_toArray, List.set_cons_zero, List.set_cons_succ]
    refine wpAnyH_take (i := 7) (v := undef) (op_at rfl) (by kernel_rfl) (by kernel_rfl) (by kernel_rfl) (fun _ _ _ h => h) (Or.inr ⟨by rfl, rfl⟩) hS ?_
    try simp only [Act.put, List.setIfInBounds_toArray, List.set_cons_zero, List.set_cons_succ]
    refine wpAnyH_take (i := 8) (v := undef) (op_at rfl) (by kernel_rfl) (by kernel_rfl) (by kernel_rfl) (fun _ _ _ h => h) (Or.inr ⟨by rfl, rfl⟩) hS ?_
    try simp only [Act.put, List.setIfInBounds_toArray, List.set_cons_zero, List.set_cons_succ]
    refine wpAnyH_take (i := 9) (v := undef) (op_at rfl) (by kernel_rfl) (by kernel_rfl) (by kernel_rfl) (fun _ _ _ h => h) (Or.inr ⟨by rfl, rfl⟩) hS ?_
    try simp only [Act.put, List.setIfInBounds_toArray, List.set_cons_zero, List.set_cons_succ]
    refine wpAnyH_take (i := 10) (v := undef) (op_at rfl) (by kernel_rfl) (by kernel_rfl) (by kernel_rfl) (fun _ _ _ h => h) (Or.inr ⟨by rfl, rfl⟩) hS ?_
    try simp only [Act.put, List.setIfInBounds_toArray, List.set_cons_zero, List.set_cons_succ]
    refine wpAnyH_take (i := 11) (v := undef) (op_at rfl) (by kernel_rfl) (by kernel_rfl) (by kernel_rfl) (fun _ _ _ h => h) (Or.inr ⟨by rfl, rfl⟩) hS ?_
    try simp only [Act.put, List.setIfInBounds_toArray, List.set_cons_zero, List.set_cons_succ]
    refine wpAnyH_take (i := 12) (v := undef) (op_at rfl) (by kernel_rfl) (by kernel_rfl) (by kernel_rfl) (fun _ _ _ h => h) (Or.inr ⟨by rfl, rfl⟩) hS ?_
    try simp only [Act.put, List.setIfInBounds_toArray, List.set_cons_zero, List.set_cons_succ]
    refine wpAnyH_take (i := 13) (v := undef) (op_at rfl) (by kernel_rfl) (by kernel_rfl) (by kernel_rfl) (fun _ _ _ h => h) (Or.inr ⟨by rfl, rfl⟩) hS ?_
    try simp only [Act.put, List.setIfInBounds_toArray, List.set_cons_zero, List.set_cons_succ]
    refine wpAnyH_take (i := 14) (v := ?_) (op_at rfl) (by kernel_rfl) (by kernel_rfl) (by kernel_rfl) (fun _ _ _ h => h) (Or.inl ⟨by rfl, ?_⟩) hS ?_; rotate_left; focus ((intro w' hSw; clear hSw; go_simp) <;> with_reducible rfl)
    try simp only [Act.put, List.setIfInBounds_toArray, List.set_cons_zero, List.set_cons_succ]
    refine wpAnyH_done (by kernel_rfl) ?_ _
    obtain ⟨b0, b1, b2, hb⟩ := hS
    replace B0 := Lib.hid b0
    clear b0
    replace B1 := Lib.hid b1
    clear b1
    replace B2 := Lib.hid b2
    clear b2
    replace HB := Lib.hid hb
    clear hb
    have p0_0 := B0.out.at_ (i := 0) (v := .int .i64 f.lv) rfl
    have p0_1 := B0.out.at_ (i := 1) (v := .int .u64 (u f.c)) rfl
    have p0_2 := B0.out.at_ (i := 2) (v := .int .i64 f.ig) rfl
    have f0_0 := B0.out.frozen 0
    have f0_1 := B0.out.frozen 1
    have f0_2 := B0.out.frozen 2
    have k0_0 : fb < w4.heap.size := by have := B0.out.lt; omega
    have p2_0 := B2.out.at_ (i := 0) (v := .int .i64 x.lv) rfl
    have p2_1 := B2.out.at_ (i := 1) (v := .int .u64 (u x.c)) rfl
    have p2_2 := B2.out.at_ (i := 2) (v := .int .i64 x.ig) rfl
    have k2_0 : g3 < w4.heap.size := by have := B2.out.lt; omega
    go_wp2_with fail
    go_ret
    exact ⟨rfl, (Blk.set' (u := .int .i64 x.ig) (i := 2) (cs' := #[.int .i64 x.lv, .int .u64 (u x.c), .int .i64 x.ig, .int .i64 h.lv, .int .u64 (u h.c), .int .i64 h.ig]) (Blk.set' (u := .int .u64 (u x.c)) (i := 1) (cs' := #[.int .i64 x.lv, .int .u64 (u x.c), .int .i64 f.ig, .int .i64 h.lv, .int .u64 (u h.c), .int .i64 h.ig]) (Blk.set' (u := .int .i64 x.lv) (i := 0) (cs' := #[.int .i64 x.lv, .int .u64 (u f.c), .int .i64 f.ig, .int .i64 h.lv, .int .u64 (u h.c), .int .i64 h.ig]) B0.out rfl) rfl) rfl), (((Turns.of_below (T := (· = fb)) HB.out).setCell (p := ⟨fb, 0, none⟩) rfl _).setCell (p := ⟨fb, 1, none⟩) rfl _).setCell (p := ⟨fb, 2, none⟩) rfl _⟩
set_option maxRecDepth 100000 in
set_option maxHeartbeats 4000000 in
theorem to_under (f h a x : Lab) (sa : Addr) (fb : Nat) (w : World) (hh : Env sa w) (hf : Blk w fb 92 #[.int .i64 f.lv, .int .u64 (u f.c), .int .i64 f.ig, .int .i64 h.lv, .int .u64 (u h.c), .int .i64 h.ig]) (h0 : JoinIs f a x 0) (h1 : ∀ W, (binOp .neq 25 (.agg #[.int .i64 x.lv, .int .u64 (u x.c), .int .i64 x.ig]) (.agg #[.int .i64 h.lv, .int .u64 (u h.c), .int .i64 h.ig])).run Tryd.prog W = .ok (.bool true) W) (h2 : UnderIs x h true) :
    Calls Tryd.prog 55 #[.pointer (some ⟨fb, 0, none⟩), .agg #[.int .i64 a.lv, .int .u64 (u a.c), .int .i64 a.ig]] w (fun e w' => e = .returned .nilIface ∧ Blk w' fb 92 #[.int .i64 x.lv, .int .u64 (u x.c), .int .i64 x.ig, .int .i64 h.lv, .int .u64 (u h.c), .int .i64 h.ig] ∧ Turns (· = fb) w w') := by
  have H0 := Lib.hid h0
  clear h0
  have H2 := Lib.hid h2
  clear h2
  have HH := Lib.hid hh
  clear hh
  have B0 := Lib.hid hf
  clear hf
  have HB := Lib.hid (Below.refl w.heap.size w)
  go_enter Tryd.func55, Tryd.ntmps55
  go_upto_region 1 with fail
  go_cut [5, 6] (fun s5 s6 wx => ∃ g3 : Nat, s5 = .pointer (some ⟨g3, 0, none⟩) ∧ s6 = .int .i64 0 ∧ Blk wx (g3) 25 #[.int .i64 x.lv, .int .u64 (u x.c), .int .i64 x.ig] ∧ Blk wx (fb) 92 #[.int .i64 f.lv, .int .u64 (u f.c), .int .i64 f.ig, .int .i64 h.lv, .int .u64 (u h.c), .int .i64 h.ig] ∧ Blk wx (w.heap.size) 25 #[.int .i64 a.lv, .int .u64 (u a.c), .int .i64 a.ig] ∧ Below w.heap.size w wx ∧ fb ≠ g3 ∧ w.heap.size ≠ g3 ∧ w.heap.size ≤ g3)
  case first =>
    refine wp_region_gen (S := (fun W' => Blk W' (fb) 92 #[.int .i64 f.lv, .int .u64 (u f.c), .int .i64 f.ig, .int .i64 h.lv, .int .u64 (u h.c), .int .i64 h.ig] ∧ Blk W' (w.heap.size) 25 #[.int .i64 a.lv, .int .u64 (u a.c), .int .i64 a.ig] ∧ Below w.heap.size w W')) (by kernel_rfl) ⟨(by repeat (first | exact B0.out | exact Blk.new' (by simp; done) | exact Blk.new' rfl | refine Blk.drew ?_ | refine Blk.alloc ?_ _)), (by repeat (first | exact Blk.new' (by simp; done) | exact Blk.new' rfl | refine Blk.drew ?_ | refine Blk.alloc ?_ _)), (by repeat (first | exact HB.out | refine below_alloc ?_ _ | refine Below.drew ?_ | refine below_set ?_ (by omega) _))⟩ (fun w1 hS => ?_)
    refine wpAnyH_take (i := 0) (v := ?_) (op_at rfl) (by kernel_rfl) (by kernel_rfl) (by kernel_rfl) (fun _ _ _ h => h) (Or.inl ⟨by rfl, ?_⟩) hS ?_; rotate_left; focus ((intro w' hSw; clear hSw; go_simp) <;> with_reducible rfl)
    try simp only [Act.put, List.setIfInBounds_toArray, List.set_cons_zero, List.set_cons_succ]
    refine wpAnyH_take (i := 1) (v := ?_) (op_at rfl) (by kernel_rfl) (by kernel_rfl) (by kernel_rfl) (fun _ _ _ h => h) (Or.inl ⟨by rfl, ?_⟩) hS ?_; rotate_left; focus ((intro w' hSw; clear hSw; go_simp) <;> with_reducible rfl)
    try simp only [Act.put, List.setIfInBounds_toArray, List.set_cons_zero, List.set_cons_succ]
    refine wpAnyH_take (i := 2) (v := ?_) (op_at rfl) (by kernel_rfl) (by kernel_rfl) (by kernel_rfl) (fun _ _ _ h => h) (Or.inl ⟨by rfl, ?_⟩) hS ?_; rotate_left; focus ((intro w' hSw; clear hSw; go_simp) <;> with_reducible rfl)
    try simp only [Act.put, List.setIfInBounds_toArray, List.set_cons_zero, List.set_cons_succ]
    refine wpAnyH_take (i := 3) (v := ?_) (op_at rfl) (by kernel_rfl) (by kernel_rfl) (by kernel_rfl) (fun _ _ _ h => h) (Or.inl ⟨by rfl, ?_⟩) hS ?_; rotate_left; focus ((intro w' hSw; obtain ⟨q, -⟩ := hSw; have c0 := q.at_ (i := 0) (v := .int .i64 f.lv) rfl; have c1 := q.at_ (i := 1) (v := .int .u64 (u f.c)) rfl; have c2 := q.at_ (i := 2) (v := .int .i64 f.ig) rfl; clear q; go_simp) <;> with_reducible rfl)
    try simp only [Act.put, List.setIfInBounds_toArray, List.set_cons_zero, List.set_cons_succ]
    refine wpAnyH_take (i := 4) (v := ?_) (op_at rfl) (by kernel_rfl) (by kernel_rfl) (by kernel_rfl) (fun _ _ _ h => h) (Or.inl ⟨by rfl, ?_⟩) hS ?_; rotate_left; focus ((intro w' hSw; obtain ⟨-, q, -⟩ := hSw; have c0 := q.at_ (i := 0) (v := .int .i64 a.lv) rfl; have c1 := q.at_ (i := 1) (v := .int .u64 (u a.c)) rfl; have c2 := q.at_ (i := 2) (v := .int .i64 a.ig) rfl; clear q; go_simp) <;> with_reducible rfl)
    try simp only [Act.put, List.setIfInBounds_toArray, List.set_cons_zero, List.set_cons_succ]
    refine wpAnyH_ready (rs := [5, 9]) (by kernel_rfl) (by simp) ?_
    refine (AllReadyH.cons (op_at rfl) (fun K hK => ?_) (AllReadyH.cons (op_at rfl) (fun K hK => ?_) AllReadyH.nil))
    ·
      go_simp
      obtain ⟨b0, b1, hb⟩ := hS
      refine (H0.out _ (HH.out.up hb).h).mono ?_
      rintro e w2 ⟨rfl, hB⟩
      refine hK.out _ _ ⟨b0.after hB, b1.after hB, below_call hb hB⟩ (fun hS => ?_)
      clear hK K hB b0 b1 hb
      try simp only [Act.put, List.setIfInBounds_toArray, List.set_cons_zero, List.set_cons_succ]
      refine wpAnyH_take (i := 6) (v := ?_) (op_at rfl) (by kernel_rfl) (by kernel_rfl) (by kernel_rfl) (fun _ _ _ h => h) (Or.inl ⟨by rfl, ?_⟩) hS ?_; rotate_left; focus ((intro w' hSw; clear hSw; go_simp) <;> with_reducible rfl)
      try simp only [Act.put, List.setIfInBounds_toArray, List.set_cons_zero, List.set_cons_succ]
      refine wpAnyH_take (i := 7) (v := ?_) (op_at rfl) (by kernel_rfl) (by kernel_rfl) (by kernel_rfl) (fun _ _ _ h => h) (Or.inl ⟨by rfl, ?_⟩) hS ?_; rotate_left; focus ((intro w' hSw; clear hSw; go_simp) <;> with_reducible rfl)
      try simp only [Act.put, List.setIfInBounds_toArray, List.set_cons_zero, List.set_cons_succ]
      refine wpAnyH_take (i := 8) (v := ?_) (op_at rfl) (by kernel_rfl) (by kernel_rfl) (by kernel_rfl) (fun _ _ _ h => h) (Or.inl ⟨by rfl, ?_⟩) hS ?_; rotate_left; focus ((intro w' hSw; clear hSw; go_simp) <;> with_reducible rfl)
      try simp only [Act.put, List.setIfInBounds_toArray, List.set_cons_zero, List.set_cons_succ]
      refine wpAnyH_ready (rs := [9]) (by kernel_rfl) (by simp) ?_
      refine (AllReadyH.cons (op_at rfl) (fun K hK => ?_) AllReadyH.nil)
      go_simp
      obtain ⟨b0, b1, hb⟩ := hS
      have N0 : Hid (Blk (w2.alloc (.cells #[.int .i64 0, .int .u64 0, .int .i64 0] 25)) w2.heap.size 25 #[.int .i64 0, .int .u64 0, .int .i64 0]) := Lib.hid (Blk.new' rfl)
      have d0_N0 : fb ≠ w2.heap.size := Nat.ne_of_lt b0.lt
      have d1_N0 : w.heap.size ≠ w2.heap.size := Nat.ne_of_lt b1.lt
      have dd_N0 : w.heap.size ≤ w2.heap.size := hb.size
      refine hK.out _ _ ⟨b0.alloc _, b1.alloc _, below_alloc hb _⟩ (fun hS => ?_)
      clear hK K b0 b1 hb
      try simp only [Act.put, List.setIfInBounds_toArray, List.set_cons_zero, List.set_cons_succ]
      refine wpAnyH_ready (rs := [10]) (by kernel_rfl) (by simp) ?_
      refine (AllReadyH.cons (op_at rfl) (fun K hK => ?_) AllReadyH.nil)
      go_simp
      obtain ⟨b0, b1, hb⟩ := hS
      refine hK.out _ _ ⟨(Blk.realloc b0 d0_N0), (Blk.realloc b1 d1_N0), (below_realloc hb dd_N0)⟩ (fun hS => ?_)
      replace N0 : Hid (Blk (w2.alloc (.cells #[.int .i64 x.lv, .int .u64 (u x.c), .int .i64 x.ig] 25)) w2.heap.size 25 #[.int .i64 x.lv, .int .u64 (u x.c), .int .i64 x.ig]) := Lib.hid (Blk.new' rfl)
      clear hK K b0 b1 hb
      try simp only [Act.put, List.setIfInBounds_toArray, List.set_cons_zero, List.set_cons_succ]
      refine wpAnyH_take (i := 11) (v := ?_) (op_at rfl) (by kernel_rfl) (by kernel_rfl) (by kernel_rfl) (fun _ _ _ h => h) (Or.inl ⟨by rfl, ?_⟩) hS ?_; rotate_left; focus ((intro w' hSw; clear hSw; go_simp) <;> with_reducible rfl)
      try simp only [Act.put, List.setIfInBounds_toArray, List.set_cons_zero, List.set_cons_succ]
      refine wpAnyH_done (by kernel_rfl) ?_ _
      obtain ⟨b0, b1, hb⟩ := hS
      go_wp2_with fail
      go_meet
      exact ⟨_, rfl, rfl, N0.out, b0, b1, hb, d0_N0, d1_N0, dd_N0⟩
    ·
      go_simp
      obtain ⟨b0, b1, hb⟩ := hS
      have N0 : Hid (Blk (w1.alloc (.cells #[.int .i64 0, .int .u64 0, .int .i64 0] 25)) w1.heap.size 25 #[.int .i64 0, .int .u64 0, .int .i64 0]) := Lib.hid (Blk.new' rfl)
      have d0_N0 : fb ≠ w1.heap.size := Nat.ne_of_lt b0.lt
      have d1_N0 : w.heap.size ≠ w1.heap.size := Nat.ne_of_lt b1.lt
      have dd_N0 : w.heap.size ≤ w1.heap.size := hb.size
      refine hK.out _ _ ⟨b0.alloc _, b1.alloc _, below_alloc hb _⟩ (fun hS => ?_)
      clear hK K b0 b1 hb
      try simp only [Act.put, List.setIfInBounds_toArray, List.set_cons_zero, List.set_cons_succ]
      refine wpAnyH_ready (rs := [5]) (by kernel_rfl) (by simp) ?_
      refine (AllReadyH.cons (op_at rfl) (fun K hK => ?_) AllReadyH.nil)
      go_simp
      obtain ⟨b0, b1, hb⟩ := hS
      refine (H0.out _ (HH.out.up hb).h).mono ?_
      rintro e w3 ⟨rfl, hB⟩
      replace N0 := Lib.hid (N0.out.after hB)
      refine hK.out _ _ ⟨b0.after hB, b1.after hB, below_call hb hB⟩ (fun hS => ?_)
      clear hK K hB b0 b1 hb
      try simp only [Act.put, List.setIfInBounds_toArray, List.set_cons_zero, List.set_cons_succ]
      refine wpAnyH_take (i := 6) (v := ?_) (op_at rfl) (by kernel_rfl) (by kernel_rfl) (by kernel_rfl) (fun _ _ _ h => h) (Or.inl ⟨by rfl, ?_⟩) hS ?_; rotate_left; focus ((intro w' hSw; clear hSw; go_simp) <;> with_reducible rfl)
      try simp only [Act.put, List.setIfInBounds_toArray, List.set_cons_zero, List.set_cons_succ]
      refine wpAnyH_take (i := 7) (v := ?_) (op_at rfl) (by kernel_rfl) (by kernel_rfl) (by kernel_rfl) (fun _ _ _ h => h) (Or.inl ⟨by rfl, ?_⟩) hS ?_; rotate_left; focus ((intro w' hSw; clear hSw; go_simp) <;> with_reducible rfl)
      try simp only [Act.put, List.setIfInBounds_toArray, List.set_cons_zero, List.set_cons_succ]
      refine wpAnyH_take (i := 8) (v := ?_) (op_at rfl) (by kernel_rfl) (by kernel_rfl) (by kernel_rfl) (fun _ _ _ h => h) (Or.inl ⟨by rfl, ?_⟩) hS ?_; rotate_left; focus ((intro w' hSw; clear hSw; go_simp) <;> with_reducible rfl)
      try simp only [Act.put, List.setIfInBounds_toArray, List.set_cons_zero, List.set_cons_succ]
      refine wpAnyH_ready (rs := [10]) (by kernel_rfl) (by simp) ?_
      refine (AllReadyH.cons (op_at rfl) (fun K hK => ?_) AllReadyH.nil)
      have p_0 := N0.out.at_ (i := 0) (v := .int .i64 0) rfl
      have f_0 := N0.out.frozen 0
      have p_1 := N0.out.at_ (i := 1) (v := .int .u64 0) rfl
      have f_1 := N0.out.frozen 1
      have p_2 := N0.out.at_ (i := 2) (v := .int .i64 0) rfl
      have f_2 := N0.out.frozen 2
      go_simp
      clear p_0 f_0 p_1 f_1 p_2 f_2
      obtain ⟨b0, b1, hb⟩ := hS
      refine hK.out _ _ ⟨(Blk.far (Blk.far (Blk.far b0 d0_N0 _) d0_N0 _) d0_N0 _), (Blk.far (Blk.far (Blk.far b1 d1_N0 _) d1_N0 _) d1_N0 _), (below_set (below_set (below_set hb dd_N0 _) dd_N0 _) dd_N0 _)⟩ (fun hS => ?_)
      replace N0 := Lib.hid (Blk.set' (u := .int .i64 x.ig) (i := 2) (cs' := #[.int .i64 x.lv, .int .u64 (u x.c), .int .i64 x.ig]) (Blk.set' (u := .int .u64 (u x.c)) (i := 1) (cs' := #[.int .i64 x.lv, .int .u64 (u x.c), .int .i64 0]) (Blk.set' (u := .int .i64 x.lv) (i := 0) (cs' := #[.int .i64 x.lv, .int .u64 0, .int .i64 0]) N0.out rfl) rfl) rfl)
      clear hK K b0 b1 hb
      try simp only [Act.put, List.setIfInBounds_toArray, List.set_cons_zero, List.set_cons_succ]
      refine wpAnyH_take (i := 11) (v := ?_) (op_at rfl) (by kernel_rfl) (by kernel_rfl) (by kernel_rfl) (fun _ _ _ h => h) (Or.inl ⟨by rfl, ?_⟩) hS ?_; rotate_left; focus ((intro w' hSw; clear hSw; go_simp) <;> with_reducible rfl)
      try simp only [Act.put, List.setIfInBounds_toArray, List.set_cons_zero, List.set_cons_succ]
      refine wpAnyH_done (by kernel_rfl) ?_ _
      obtain ⟨b0, b1, hb⟩ := hS
      go_wp2_with fail
      go_meet
      exact ⟨_, rfl, rfl, N0.out, b0, b1, hb, d0_N0, d1_N0, dd_N0⟩
  case rest =>
    obtain ⟨g3, rfl, rfl, hn, h_0, h_1, hb, e0_g3, e1_g3, ee_g3⟩ := hcut
    replace B0 := Lib.hid h_0
    clear h_0
    replace B1 := Lib.hid h_1
    clear h_1
    have B2 := Lib.hid hn
    clear hn
    replace HB := Lib.hid hb
    clear hb
    go_wp2_with fail
    refine wp_region_gen (S := (fun W' => Blk W' (fb) 92 #[.int .i64 f.lv, .int .u64 (u f.c), .int .i64 f.ig, .int .i64 h.lv, .int .u64 (u h.c), .int .i64 h.ig] ∧ Blk W' (w.heap.size) 25 #[.int .i64 a.lv, .int .u64 (u a.c), .int .i64 a.ig] ∧ Blk W' (g3) 25 #[.int .i64 x.lv, .int .u64 (u x.c), .int .i64 x.ig] ∧ Below w.heap.size w W')) (by kernel_rfl) ⟨(by repeat (first | exact B0.out | exact Blk.new' (by simp; done) | exact Blk.new' rfl | refine Blk.drew ?_ | refine Blk.alloc ?_ _)), (by repeat (first | exact B1.out | exact Blk.new' (by simp; done) | exact Blk.new' rfl | refine Blk.drew ?_ | refine Blk.alloc ?_ _)), (by repeat (first | exact B2.out | exact Blk.new' (by simp; done) | exact Blk.new' rfl | refine Blk.drew ?_ | refine Blk.alloc ?_ _)), (by repeat (first | exact HB.out | refine below_alloc ?_ _ | refine Below.drew ?_ | refine below_set ?_ (by omega) _))⟩ (fun w4 hS => ?_)
    refine wpAnyH_take (i := 0) (v := ?_) (op_at rfl) (by kernel_rfl) (by kernel_rfl) (by kernel_rfl) (fun _ _ _ h => h) (Or.inl ⟨by rfl, ?_⟩) hS ?_; rotate_left; focus ((intro w' hSw; obtain ⟨-, -, q, -⟩ := hSw; have c0 := q.at_ (i := 0) (v := .int .i64 x.lv) rfl; have c1 := q.at_ (i := 1) (v := .int .u64 (u x.c)) rfl; have c2 := q.at_ (i := 2) (v := .int .i64 x.ig) rfl; clear q; go_simp) <;> with_reducible rfl)
    try simp only [Act.put, List.setIfInBounds_toArray, List.set_cons_zero, List.set_cons_succ]
    refine wpAnyH_take (i := 1) (v := ?_) (op_at rfl) (by kernel_rfl) (by kernel_rfl) (by kernel_rfl) (fun _ _ _ h => h) (Or.inl ⟨by rfl, ?_⟩) hS ?_; rotate_left; focus ((intro w' hSw; clear hSw; go_simp) <;> with_reducible rfl)
    try simp only [Act.put, List.setIfInBounds_toArray, List.set_cons_zero, List.set_cons_succ]
    refine wpAnyH_take (i := 2) (v := ?_) (op_at rfl) (by kernel_rfl) (by kernel_rfl) (by kernel_rfl) (fun _ _ _ h => h) (Or.inl ⟨by rfl, ?_⟩) hS ?_; rotate_left; focus ((intro w' hSw; clear hSw; go_simp) <;> with_reducible rfl)
    try simp only [Act.put, List.setIfInBounds_toArray, List.set_cons_zero, List.set_cons_succ]
    refine wpAnyH_take (i := 3) (v := ?_) (op_at rfl) (by kernel_rfl) (by kernel_rfl) (by kernel_rfl) (fun _ _ _ h => h) (Or.inl ⟨by rfl, ?_⟩) hS ?_; rotate_left; focus ((intro w' hSw; clear hSw; go_simp) <;> with_reducible rfl)
    try simp only [Act.put, List.setIfInBounds_toArray, List.set_cons_zero, List.set_cons_succ]
    refine wpAnyH_take (i := 4) (v := ?_) (op_at rfl) (by kernel_rfl) (by kernel_rfl) (by kernel_rfl) (fun _ _ _ h => h) (Or.inl ⟨by rfl, ?_⟩) hS ?_; rotate_left; focus ((intro w' hSw; obtain ⟨q, -⟩ := hSw; have c3 := q.at_ (i := 3) (v := .int .i64 h.lv) rfl; have c4 := q.at_ (i := 4) (v := .int .u64 (u h.c)) rfl; have c5 := q.at_ (i := 5) (v := .int .i64 h.ig) rfl; clear q; go_simp) <;> with_reducible rfl)
    try simp only [Act.put, List.setIfInBounds_toArray, List.set_cons_zero, List.set_cons_succ]
    refine wpAnyH_take (i := 5) (v := ?_) (op_at rfl) (by kernel_rfl) (by kernel_rfl) (by kernel_rfl) (fun _ _ _ h => h) (Or.inl ⟨by rfl, ?_⟩) hS ?_; rotate_left; focus ((intro w' hSw; clear hSw; go_simp) <;> with_reducible rfl)
    try simp only [Act.put, List.setIfInBounds_toArray, List.set_cons_zero, List.set_cons_succ]
    refine wpAnyH_take (i := 6) (v := ?_) (op_at rfl) (by kernel_rfl) (by kernel_rfl) (by kernel_rfl) (fun _ _ _ h => h) (Or.inl ⟨by rfl, ?_⟩) hS ?_; rotate_left; focus ((intro w' hSw; clear hSw; go_simp) <;> with_reducible rfl)
    try simp only [Act.put, List.setIfInBounds_toArray, List.set_cons_zero, List.set_cons_succ]
    refine wpAnyH_take (i := 7) (v := ?_) (op_at rfl) (by kernel_rfl) (by kernel_rfl) (by kernel_rfl) (fun _ _ _ h => h) (Or.inl ⟨by rfl, ?_⟩) hS ?_; rotate_left; focus ((intro w' hSw; obtain ⟨-, -, q, -⟩ := hSw; have c0 := q.at_ (i := 0) (v := .int .i64 x.lv) rfl; have c1 := q.at_ (i := 1) (v := .int .u64 (u x.c)) rfl; have c2 := q.at_ (i := 2) (v := .int .i64 x.ig) rfl; clear q; go_simp) <;> with_reducible rfl)
    try simp only [Act.put, List.setIfInBounds_toArray, List.set_cons_zero, List.set_cons_succ]
    refine wpAnyH_take (i := 8) (v := ?_) (op_at rfl) (by kernel_rfl) (by kernel_rfl) (by kernel_rfl) (fun _ _ _ h => h) (Or.inl ⟨by rfl, ?_⟩) hS ?_; rotate_left; focus ((intro w' hSw; clear hSw; go_simp) <;> with_reducible rfl)
    try simp only [Act.put, List.setIfInBounds_toArray, List.set_cons_zero, List.set_cons_succ]
    refine wpAnyH_take (i := 9) (v := ?_) (op_at rfl) (by kernel_rfl) (by kernel_rfl) (by kernel_rfl) (fun _ _ _ h => h) (Or.inl ⟨by rfl, ?_⟩) hS ?_; rotate_left; focus ((intro w' hSw; clear hSw; go_simp) <;> with_reducible rfl)
    try simp only [Act.put, List.setIfInBounds_toArray, List.set_cons_zero, List.set_cons_succ]
    refine wpAnyH_take (i := 10) (v := ?_) (op_at rfl) (by kernel_rfl) (by kernel_rfl) (by kernel_rfl) (fun _ _ _ h => h) (Or.inl ⟨by rfl, ?_⟩) hS ?_; rotate_left; focus ((intro w' hSw; clear hSw; go_simp) <;> with_reducible rfl)
    try simp only [Act.put, List.setIfInBounds_toArray, List.set_cons_zero, List.set_cons_succ]
    refine wpAnyH_take (i := 11) (v := ?_) (op_at rfl) (by kernel_rfl) (by kernel_rfl) (by kernel_rfl) (fun _ _ _ h => h) (Or.inl ⟨by rfl, ?_⟩) hS ?_; rotate_left; focus ((intro w' hSw; obtain ⟨q, -⟩ := hSw; have c3 := q.at_ (i := 3) (v := .int .i64 h.lv) rfl; have c4 := q.at_ (i := 4) (v := .int .u64 (u h.c)) rfl; have c5 := q.at_ (i := 5) (v := .int .i64 h.ig) rfl; clear q; go_simp) <;> with_reducible rfl)
    try simp only [Act.put, List.setIfInBounds_toArray, List.set_cons_zero, List.set_cons_succ]
    refine wpAnyH_ready (rs := [12]) (by kernel_rfl) (by simp) ?_
    refine (AllReadyH.cons (op_at rfl) (fun K hK => ?_) AllReadyH.nil)
    go_simp
    obtain ⟨b0, b1, b2, hb⟩ := hS
    refine (H2.out _).mono ?_
    rintro e w5 ⟨rfl, hB⟩
    refine hK.out _ _ ⟨b0.after hB, b1.after hB, b2.after hB, below_call hb hB⟩ (fun hS => ?_)
    clear hK K hB b0 b1 b2 hb
    try simp only [Act.put, List.setIfInBounds_toArray, List.set_cons_zero, List.set_cons_succ]
    refine wpAnyH_take (i := 13) (v := ?_) (op_at rfl) (by kernel_rfl) (by kernel_rfl) (by kernel_rfl) (fun _ _ _ h => h) (Or.inl ⟨by rfl, ?_⟩) hS ?_; rotate_left; focus ((intro w' hSw; clear hSw; go_simp) <;> with_reducible rfl)
    try simp only [Act.put, List.setIfInBounds_toArray, List.set_cons_zero, List.set_cons_succ]
    refine wpAnyH_take (i := 14) (v := ?_) (op_at rfl) (by kernel_rfl) (by kernel_rfl) (by kernel_rfl) (fun _ _ _ h => h) (Or.inl ⟨by rfl, ?_⟩) hS ?_; rotate_left; focus ((intro w' hSw; clear hSw; go_simp) <;> with_reducible rfl)
    try simp only [Act.put, List.setIfInBounds_toArray, List.set_cons_zero, List.set_cons_succ]
    refine wpAnyH_done (by kernel_rfl) ?_ _
    obtain ⟨b0, b1, b2, hb⟩ := hS
    replace B0 := Lib.hid b0
    clear b0
    replace B1 := Lib.hid b1
    clear b1
    replace B2 := Lib.hid b2
    clear b2
    replace HB := Lib.hid hb
    clear hb
    have p0_0 := B0.out.at_ (i := 0) (v := .int .i64 f.lv) rfl
    have p0_1 := B0.out.at_ (i := 1) (v := .int .u64 (u f.c)) rfl
    have p0_2 := B0.out.at_ (i := 2) (v := .int .i64 f.ig) rfl
    have f0_0 := B0.out.frozen 0
    have f0_1 := B0.out.frozen 1
    have f0_2 := B0.out.frozen 2
    have k0_0 : fb < w5.heap.size := by have := B0.out.lt; omega
    have p2_0 := B2.out.at_ (i := 0) (v := .int .i64 x.lv) rfl
    have p2_1 := B2.out.at_ (i := 1) (v := .int .u64 (u x.c)) rfl
    have p2_2 := B2.out.at_ (i := 2) (v := .int .i64 x.ig) rfl
    have k2_0 : g3 < w5.heap.size := by have := B2.out.lt; omega
    go_wp2_with fail
    go_ret
    exact ⟨rfl, (Blk.set' (u := .int .i64 x.ig) (i := 2) (cs' := #[.int .i64 x.lv, .int .u64 (u x.c), .int .i64 x.ig, .int .i64 h.lv, .int .u64 (u h.c), .int .i64 h.ig]) (Blk.set' (u := .int .u64 (u x.c)) (i := 1) (cs' := #[.int .i64 x.lv, .int .u64 (u x.c), .int .i64 f.ig, .int .i64 h.lv, .int .u64 (u h.c), .int .i64 h.ig]) (Blk.set' (u := .int .i64 x.lv) (i := 0) (cs' := #[.int .i64 x.lv, .int .u64 (u f.c), .int .i64 f.ig, .int .i64 h.lv, .int .u64 (u h.c), .int .i64 h.ig]) B0.out rfl) rfl) rfl), (((Turns.of_below (T := (· = fb)) HB.out).setCell (p := ⟨fb, 0, none⟩) rfl _).setCell (p := ⟨fb, 1, none⟩) rfl _).setCell (p := ⟨fb, 2, none⟩) rfl _⟩
/-- what floater.to does -/
def ToPost (f h a : Lab) (sa : Addr) (fb : Nat) (w : World) (e : Ending) (w' : World) : Prop :=
  e = .returned (if le3 (joinL f a) h = true then .nilIface else stopV (.iface 142 (.pointer (some sa))) a) ∧
    Blk w' fb 92 #[.int .i64 (if le3 (joinL f a) h = true then joinL f a else f).lv, .int .u64 (u (if le3 (joinL f a) h = true then joinL f a else f).c), .int .i64 (if le3 (joinL f a) h = true then joinL f a else f).ig, .int .i64 h.lv, .int .u64 (u h.c), .int .i64 h.ig] ∧ Turns (· = fb) w w'
theorem to_any (f h a : Lab) (sa : Addr) (fb : Nat) (w : World) (hh : Env sa w) (hf : Blk w fb 92 #[.int .i64 f.lv, .int .u64 (u f.c), .int .i64 f.ig, .int .i64 h.lv, .int .u64 (u h.c), .int .i64 h.ig]) (of : okL f = true) (oh : okL h = true) (oa : okL a = true) :
    Calls Tryd.prog 55 #[.pointer (some ⟨fb, 0, none⟩), .agg #[.int .i64 a.lv, .int .u64 (u a.c), .int .i64 a.ig]] w (ToPost f h a sa fb w) := by
  unfold ToPost
  have h0 := joinIs of oa
  have ox := okL_join of oa
  by_cases hl : le3 (joinL f a) h = true
  · rw [if_pos hl, if_pos hl]
    by_cases he : eqL (joinL f a) h = true
    · exact (to_same f h a _ sa fb w hh hf h0 (neqIs (by rw [he]; rfl))).mono fun e w' hp => hp
    · exact (to_under f h a _ sa fb w hh hf h0 (neqIs (by rw [nbool he]; rfl)) (underIs (underL_iff.2 ⟨ox, oh, hl⟩))).mono fun e w' hp => hp
  · rw [if_neg hl, if_neg hl]
    have he : eqL (joinL f a) h = false := nbool fun k => hl (by rw [eqL_iff.1 k]; exact le3_self h)
    refine (to_high f h a _ sa fb w hh hf h0 (neqIs (by rw [he]; rfl)) (underIs (nbool fun k => hl (underL_iff.1 k).2.2))).mono fun e w' hp => ⟨hp.1, hf.after hp.2, Turns.of_below hp.2⟩
end

end Go.Proofs.YteepgbkblgcegaaDoor
