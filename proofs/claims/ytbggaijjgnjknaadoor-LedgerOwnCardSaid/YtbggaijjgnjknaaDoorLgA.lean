/-
  A LEDGER'S LINES, in plain Lean: right, used, seen, total, set.
-/
import Derived.Test.YtbggaijjgnjknaaDoorLgP
namespace Go.Proofs.YtbggaijjgnjknaaDoor
open Go.RowKit

/-- a line -/
structure Ln where
  a : Lab
  n : Int
theorem Ln.ext' {x y : Ln} (h1 : x.a = y.a) (h2 : x.n = y.n) : x = y := by
  cases x; cases y; simp_all
def encLn (x : Ln) : Array Value := #[.int .i64 x.a.lv, .int .u64 (u x.a.c), .int .i64 x.a.ig, .int .i64 x.n]
def eqLn (x y : Ln) : Bool := eqL x.a y.a && decide (x.n = y.n)
theorem eqLn_iff {x y : Ln} : eqLn x y = true ↔ x = y := by
  unfold eqLn
  rw [Bool.and_eq_true, eqL_iff, decide_eq_true_eq]
  exact ⟨fun h => Ln.ext' h.1 h.2, fun h => by rw [h]; exact ⟨rfl, rfl⟩⟩
instance : DecidableEq Ln := fun x y => decidable_of_iff (eqLn x y = true) eqLn_iff
theorem cmp_lt_trans {a b c : Lab} (h1 : cmpL a b < 0) (h2 : cmpL b c < 0) : cmpL a c < 0 := by
  have k1 : cmpL a b = -1 := by rcases cmpL_three a b with h | h | h <;> omega
  have k2 : cmpL b c = -1 := by rcases cmpL_three b c with h | h | h <;> omega
  have : cmpL a c = -1 := by
    rw [cmpL_neg] at k1 k2 ⊢
    omega
  omega
theorem cmp_self (a : Lab) : cmpL a a = 0 := cmpL_zero.2 ⟨rfl, rfl, rfl⟩
theorem cmp_flip (a b : Lab) : (cmpL a b < 0 ↔ 0 < cmpL b a) ∧ (cmpL a b = 0 ↔ cmpL b a = 0) := by
  have h1 : cmpL a b = -1 ↔ cmpL b a = 1 := by rw [cmpL_neg, cmpL_pos]; constructor <;> (intro h; omega)
  have h2 : cmpL a b = 0 ↔ cmpL b a = 0 := by rw [cmpL_zero, cmpL_zero]; constructor <;> (intro h; omega)
  have h3 := cmpL_three a b
  have h4 := cmpL_three b a
  omega
theorem cmp_eq {a b : Lab} : cmpL a b = 0 ↔ a = b := ⟨fun h => by rw [cmpL_zero] at h; exact Lab.ext' h.1 (u_inj h.2.1) h.2.2, fun h => by rw [h]; exact cmp_self b⟩
def okLn (x : Ln) : Bool := okL x.a && decide (1 ≤ x.n) && decide (x.n ≤ 100000)
/-- strictly rising -/
def Rises : List Ln → Prop
  | [] => True
  | x :: r => (∀ y, y ∈ r → cmpL x.a y.a < 0) ∧ Rises r
/-- the first k are right, each ahead of the next -/
def goodTo (l : List Ln) (k : Nat) : Prop := ∀ i x, i < k → l[i]? = some x → okLn x = true ∧ (∀ j y, i = j + 1 → l[j]? = some y → cmpL y.a x.a < 0)
theorem goodTo_zero (l : List Ln) : goodTo l 0 := fun i _ h => absurd h (by omega)
theorem goodTo_next {l : List Ln} {k : Nat} {x : Ln} (h : goodTo l k) (hx : l[k]? = some x) (ho : okLn x = true) (hc : ∀ j y, k = j + 1 → l[j]? = some y → cmpL y.a x.a < 0) : goodTo l (k + 1) := by
  intro i z hi hz
  by_cases e : i < k
  · exact h i z e hz
  · obtain rfl : i = k := by omega
    rw [hx] at hz; cases hz
    exact ⟨ho, hc⟩
noncomputable instance (l : List Ln) (k : Nat) : Decidable (goodTo l k) := Classical.propDecidable _
/-- is it a ledger? -/
noncomputable def rightLn (l : List Ln) : Bool := decide (goodTo l l.length) && decide (l.length ≤ 1000)
theorem rises_of_good : ∀ {l : List Ln}, goodTo l l.length → Rises l ∧ ∀ x, x ∈ l → okLn x = true
  | [], _ => ⟨trivial, fun x h => by cases h⟩
  | x :: r, h => by
    have hr : goodTo r r.length := by
      intro i z hi hz
      obtain ⟨h1, h2⟩ := h (i + 1) z (by simp; omega) hz
      exact ⟨h1, fun j y e hy => h2 (j + 1) y (by omega) hy⟩
    obtain ⟨h1, h2⟩ := rises_of_good hr
    refine ⟨⟨fun y hy => ?_, h1⟩, fun y hy => ?_⟩
    · match r, hr, h, h1, hy with
      | z :: s, hr, h, h1, hy =>
        have hz : cmpL x.a z.a < 0 := (h 1 z (by simp) rfl).2 0 x rfl rfl
        rcases List.mem_cons.1 hy with rfl | hy
        · exact hz
        · exact cmp_lt_trans hz (h1.1 y hy)
    · rcases List.mem_cons.1 hy with rfl | hy
      · exact (h 0 y (by simp) rfl).1
      · exact h2 y hy
theorem rises_get {l : List Ln} (h : Rises l) : ∀ {i j : Nat} {x y : Ln}, i < j → l[i]? = some x → l[j]? = some y → cmpL x.a y.a < 0 := by
  induction l with
  | nil => intro i j x y _ hx; cases hx
  | cons z r ih =>
    intro i j x y hij hx hy
    match i, j, hij with
    | 0, j + 1, _ =>
      cases hx
      exact h.1 y (List.mem_of_getElem? hy)
    | i + 1, j + 1, hij => exact ih h.2 (by omega) hx hy
theorem good_of_rises {l : List Ln} (h : Rises l) (ho : ∀ x, x ∈ l → okLn x = true) : goodTo l l.length := by
  intro i x _ hx
  refine ⟨ho x (List.mem_of_getElem? hx), fun j y e hy => rises_get h (by omega) hy hx⟩
theorem rises_append {l m : List Ln} : Rises (l ++ m) ↔ Rises l ∧ Rises m ∧ ∀ x y, x ∈ l → y ∈ m → cmpL x.a y.a < 0 := by
  induction l with
  | nil => simp [Rises]
  | cons z r ih =>
    simp only [List.cons_append, Rises, ih, List.mem_append, List.mem_cons]
    constructor
    · rintro ⟨h1, h2, h3, h4⟩
      refine ⟨⟨fun y hy => h1 y (.inl hy), h2⟩, h3, ?_⟩
      rintro x y (rfl | hx) hy
      · exact h1 y (.inr hy)
      · exact h4 x y hx hy
    · rintro ⟨⟨h1, h2⟩, h3, h4⟩
      refine ⟨?_, h2, h3, fun x y hx hy => h4 x y (.inr hx) hy⟩
      rintro y (hy | hy)
      · exact h1 y hy
      · exact h4 z y (.inl rfl) hy
theorem right_iff {l : List Ln} : rightLn l = true ↔ Rises l ∧ (∀ x, x ∈ l → okLn x = true) ∧ l.length ≤ 1000 := by
  unfold rightLn
  rw [Bool.and_eq_true, decide_eq_true_eq, decide_eq_true_eq]
  constructor
  · rintro ⟨h1, h2⟩
    obtain ⟨h3, h4⟩ := rises_of_good h1
    exact ⟨h3, h4, h2⟩
  · rintro ⟨h1, h2, h3⟩
    exact ⟨good_of_rises h1 h2, h3⟩
/-- what a label has -/
def usedLn (l : List Ln) (a : Lab) : Int := match l.find? (fun x => eqL x.a a) with
  | some x => x.n
  | none => 0
def seenLn (l : List Ln) (a : Lab) : List Ln := l.filter (fun x => underL x.a a)
def sumLn (l : List Ln) : Int := (l.map Ln.n).sum
noncomputable def totalLn (l : List Ln) : Int := if rightLn l = true then sumLn l else 0
/-- those ahead of a label; the label's line; those behind it -/
def aheadL (l : List Ln) (a : Lab) : List Ln := l.filter (fun x => decide (cmpL x.a a < 0))
def behindL (l : List Ln) (a : Lab) : List Ln := l.filter (fun x => decide (0 < cmpL x.a a))
def lineL (a : Lab) (n : Int) : List Ln := if n = 0 then [] else [⟨a, n⟩]
/-- the label's line has so much -/
def setLn (l : List Ln) (a : Lab) (n : Int) : List Ln := aheadL l a ++ (lineL a n ++ behindL l a)
end Go.Proofs.YtbggaijjgnjknaaDoor
