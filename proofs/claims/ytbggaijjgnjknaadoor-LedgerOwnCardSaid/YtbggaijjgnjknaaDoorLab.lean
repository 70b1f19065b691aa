/-
  PLAIN LAWS ON LABELS, no program in sight.
-/
import Derived.Test.YtbggaijjgnjknaaDoorU
namespace Go.Proofs.YtbggaijjgnjknaaDoor

/-- what a label's three cells hold -/
structure Lab where
  lv : Int
  c : BitVec 64
  ig : Int
theorem Lab.ext' {a b : Lab} (h1 : a.lv = b.lv) (h2 : a.c = b.c) (h3 : a.ig = b.ig) : a = b := by
  cases a; cases b; simp_all
/-- is it a label? -/
def okL (a : Lab) : Bool := decide (0 ≤ a.lv ∧ a.lv ≤ 15 ∧ 0 ≤ a.ig ∧ a.ig ≤ 7)
theorem okL_iff {a : Lab} : okL a = true ↔ 0 ≤ a.lv ∧ a.lv ≤ 15 ∧ 0 ≤ a.ig ∧ a.ig ≤ 7 := by unfold okL; simp
theorem okL_no {a : Lab} (h : ¬ (0 ≤ a.lv ∧ a.lv ≤ 15 ∧ 0 ≤ a.ig ∧ a.ig ≤ 7)) : okL a = false := by
  rw [← Bool.not_eq_true, okL_iff]; exact h
/-- the same? -/
def eqL (a b : Lab) : Bool := decide (a.lv = b.lv) && (a.c == b.c) && decide (a.ig = b.ig)
theorem eqL_iff {a b : Lab} : eqL a b = true ↔ a = b := by
  unfold eqL
  constructor
  · intro h
    simp only [Bool.and_eq_true, decide_eq_true_eq, beq_iff_eq] at h
    exact Lab.ext' h.1.1 h.1.2 h.2
  · rintro rfl; simp
theorem eqL_self (a : Lab) : eqL a a = true := eqL_iff.2 rfl
/-- is the one below the other, both being labels? -/
def le3 (a b : Lab) : Bool := decide (a.lv ≤ b.lv) && decide (b.ig ≤ a.ig) && sub a.c b.c
def underL (a b : Lab) : Bool := okL a && okL b && le3 a b
def joinL (a b : Lab) : Lab := ⟨max a.lv b.lv, a.c ||| b.c, min a.ig b.ig⟩
def meetL (a b : Lab) : Lab := ⟨min a.lv b.lv, a.c &&& b.c, max a.ig b.ig⟩
def zeroL : Lab := ⟨0, 0#64, 0⟩
def botL : Lab := ⟨0, 0#64, 7⟩
def topL : Lab := ⟨15, BitVec.allOnes 64, 0⟩
theorem sub_self (x : BitVec 64) : sub x x = true := by rw [sub_iff]; exact fun _ _ h => h
theorem le3_self (a : Lab) : le3 a a = true := by unfold le3; rw [sub_self]; simp
end Go.Proofs.YtbggaijjgnjknaaDoor
