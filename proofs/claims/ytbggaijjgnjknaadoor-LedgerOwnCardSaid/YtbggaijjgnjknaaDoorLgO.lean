/-
  LEDGER: the contracts with what is told as variables.
-/
import Derived.Test.YtbggaijjgnjknaaDoorLgTurns
namespace Go.Proofs.YtbggaijjgnjknaaDoor
open Go.RowKit

theorem used_at (l : List Ln) (v : Value) (a : Lab) (w : World) (hl : LnsAt w v l) :
    Calls Tryd.prog 20 #[v, .agg #[.int .i64 a.lv, .int .u64 (u a.c), .int .i64 a.ig]] w fun e w' => ∃ r, e = .returned (.int .i64 r) ∧ Hid (r = usedLn l a) ∧ Below w.heap.size w w' :=
  (LUsed_w l v a w hl).mono (fun _ _ h => ⟨_, h.1, Lib.hid rfl, h.2⟩)
theorem total_at (v : Value) (l : List Ln) (w : World) (hl : LnsAt w v l) :
    Calls Tryd.prog 21 #[v] w fun e w' => ∃ r, e = .returned (.int .i64 r) ∧ Hid (r = totalLn l) ∧ Below w.heap.size w w' :=
  (LTotal_w v l w hl).mono (fun _ _ h => ⟨_, h.1, Lib.hid rfl, h.2⟩)
theorem same_yes (v0 v1 : Value) (a b : List Ln) (w : World) (ha : LnsAt w v0 a) (hb : LnsAt w v1 b) (h : a = b) :
    Calls Tryd.prog 18 #[v0, v1] w fun e w' => e = .returned (.bool true) ∧ Below w.heap.size w w' :=
  (LSame_w v0 v1 a b w ha hb).mono (fun _ _ k => ⟨by rw [k.1, decide_eq_true h], k.2⟩)
theorem rsame_yes (v0 v1 : Value) (a b : List Ln) (w : World) (ha : LnsAt w v0 a) (hb : LnsAt w v1 b) (h : a = b) :
    Calls Tryd.prog 17 #[v0, v1] w fun e w' => e = .returned (.bool true) ∧ Below w.heap.size w w' :=
  (rSame_w v0 v1 a b w ha hb).mono (fun _ _ k => ⟨by rw [k.1, decide_eq_true h], k.2⟩)
theorem right_yes (v : Value) (l : List Ln) (w : World) (hl : LnsAt w v l) (h : rightLn l = true) :
    Calls Tryd.prog 19 #[v] w fun e w' => e = .returned (.bool true) ∧ Below w.heap.size w w' :=
  (LRight_w v l w hl).mono (fun _ _ k => ⟨by rw [k.1, h], k.2⟩)
theorem seen_at (l : List Ln) (v : Value) (a : Lab) (w : World) (hl : LnsAt w v l) (hle : l.length ≤ 900) :
    Calls Tryd.prog 22 #[v, .agg #[.int .i64 a.lv, .int .u64 (u a.c), .int .i64 a.ig]] w fun e w' => ∃ p c L, e = .returned (.slice p L.length c) ∧ Hid (L = seenLn l a) ∧ OwnL w.heap.size w' (.slice p L.length c) L ∧ Below w.heap.size w w' :=
  (LSeen_w l v a w hl (by omega)).mono (fun _ _ ⟨_, h1, h2, h3⟩ => by
    have h2' : OwnL w.heap.size _ _ (seenLn l a) := h2
    obtain ⟨p, c, rfl⟩ := h2'.val
    exact ⟨p, c, _, h1, Lib.hid rfl, h2', h3⟩)
theorem few_at (v : Value) (l : List Ln) (w : World) (hl : LnsAt w v l) :
    Calls Tryd.prog 12 #[v] w fun e w' => ∃ p c L, e = .returned (.slice p L.length c) ∧ Hid (L.length ≤ 42) ∧ LnsAt w' (.slice p L.length c) L ∧ w = w' :=
  (few_w v l w hl).mono (fun _ _ ⟨_, h1, h2, h3⟩ => by
    subst h3
    obtain ⟨p, c, rfl, _⟩ := h2.slice
    exact ⟨p, c, _, h1, Lib.hid (by rw [List.length_take]; omega), h2, rfl⟩)
theorem LnsAt.after {w w' : World} {v : Value} {l : List Ln} (h : LnsAt w v l) (hb : Below w.heap.size w w') : LnsAt w' v l := h.later hb hb.size
theorem used_range {l : List Ln} (h : rightLn l = true) (a : Lab) : 0 ≤ usedLn l a ∧ usedLn l a ≤ 100000 := by
  by_cases h0 : usedLn l a = 0
  · omega
  · have := ((right_iff.1 h).2.1 _ ((used_mem h).1.1 h0))
    unfold okLn at this
    simp only [Bool.and_eq_true, decide_eq_true_eq] at this
    omega
theorem refund_len1 {l m : List Ln} {a : Lab} {n : Int} (e : m = refundL l a n) (h : l.length ≤ 42) : m.length ≤ 900 := by rw [e]; have := refund_len l a n; omega
end Go.Proofs.YtbggaijjgnjknaaDoor
