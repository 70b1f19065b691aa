/-
  THE WALKS OF PACKAGE label, part one: the checks.
-/
import Derived.Test.YtbggaijjgnjknaaDoorProg
import Derived.Test.YtbggaijjgnjknaaDoorLab
import Derived.Handy
import Derived.WalkSpells
import Derived.WalkLawsBesides
import Derived.WalkSmall
import Derived.Lib.Hide
import Derived.Laws.EntriesVeiled
import Derived.StillTailTactics
import Derived.Deep.RegionHeld3
import Derived.Deep.RegionWith
namespace Go.Proofs.YtbggaijjgnjknaaDoor
open Go.RowKit

attribute [local go_sem] u_and u_or u_andNot u_add u_sub u_bit u_eq_zero u_beq

theorem ret_eq {v v' : Value} (h : v = v') : Ending.returned v = Ending.returned v' := by rw [h]
theorem bool_eq {a b : Bool} (h : a = b) : Value.bool a = Value.bool b := by rw [h]
theorem int_eq {k : IntKind} {a b : Int} (h : a = b) : Value.int k a = Value.int k b := by rw [h]

theorem Right_any (a : Lab) (w : World) :
    Calls Tryd.prog 45 #[.agg #[.int .i64 a.lv, .int .u64 (u a.c), .int .i64 a.ig]] w fun e w' => e = .returned (.bool (okL a)) ∧ Below w.heap.size w w' := by
  by_cases h1 : 0 ≤ a.lv
  · by_cases h2 : a.lv ≤ 15
    · by_cases h3 : 0 ≤ a.ig
      · by_cases h4 : a.ig ≤ 7
        · have HK := Lib.hid (okL_iff.2 ⟨h1, h2, h3, h4⟩)
          go_enter Tryd.func45, Tryd.ntmps45
          go_wp2
          go_ret
          rw [HK.out]
          exact ⟨rfl, (Below.refl _ _).alloc (Nat.le_refl _) _⟩
        · have HK := Lib.hid (okL_no (a := a) (by omega))
          go_enter Tryd.func45, Tryd.ntmps45
          go_wp2
          go_ret
          rw [HK.out]
          exact ⟨rfl, (Below.refl _ _).alloc (Nat.le_refl _) _⟩
      · have HK := Lib.hid (okL_no (a := a) (by omega))
        go_enter Tryd.func45, Tryd.ntmps45
        go_wp2
        go_ret
        rw [HK.out]
        exact ⟨rfl, (Below.refl _ _).alloc (Nat.le_refl _) _⟩
    · have HK := Lib.hid (okL_no (a := a) (by omega))
      go_enter Tryd.func45, Tryd.ntmps45
      go_wp2
      go_ret
      rw [HK.out]
      exact ⟨rfl, (Below.refl _ _).alloc (Nat.le_refl _) _⟩
  · have HK := Lib.hid (okL_no (a := a) (by omega))
    go_enter Tryd.func45, Tryd.ntmps45
    go_wp2
    go_ret
    rw [HK.out]
    exact ⟨rfl, (Below.refl _ _).alloc (Nat.le_refl _) _⟩
theorem sub_any (x y : BitVec 64) (w : World) :
    Calls Tryd.prog 57 #[.int .u64 (u x), .int .u64 (u y)] w fun e w' => e = .returned (.bool (sub x y)) ∧ w = w' := by
  go_enter Tryd.func57, Tryd.ntmps57
  go_wp2
  go_ret
  exact ⟨rfl, rfl⟩
theorem less_any (x y : BitVec 64) (w : World) :
    Calls Tryd.prog 40 #[.int .u64 (u x), .int .u64 (u y)] w fun e w' => e = .returned (.int .u64 (u (x &&& ~~~y))) ∧ w = w' := by
  go_enter Tryd.func40, Tryd.ntmps40
  go_wp2
  go_ret
  exact ⟨rfl, rfl⟩
theorem isUnder_any (a b : Lab) (w : World) :
    Calls Tryd.prog 44 #[.agg #[.int .i64 a.lv, .int .u64 (u a.c), .int .i64 a.ig, .int .i64 b.lv, .int .u64 (u b.c), .int .i64 b.ig]] w fun e w' => e = .returned (.bool (le3 a b)) ∧ Below w.heap.size w w' := by
  by_cases h1 : a.lv ≤ b.lv
  · by_cases h2 : b.ig ≤ a.ig
    · have HK : Hid (le3 a b = sub a.c b.c) := by show le3 a b = _; unfold le3; rw [decide_eq_true h1, decide_eq_true h2]; rfl
      go_enter Tryd.func44, Tryd.ntmps44
      go_wp2_with (go_at_call 57; refine (sub_any _ _ _).mono ?_; rintro e w' ⟨rfl, rfl⟩)
      go_ret
      rw [HK.out]
      exact ⟨rfl, (Below.refl _ _).alloc (Nat.le_refl _) _⟩
    · have HK : Hid (le3 a b = false) := by show le3 a b = _; unfold le3; rw [decide_eq_false h2]; simp
      go_enter Tryd.func44, Tryd.ntmps44
      go_wp2
      go_ret
      rw [HK.out]
      exact ⟨rfl, (Below.refl _ _).alloc (Nat.le_refl _) _⟩
  · have HK : Hid (le3 a b = false) := by show le3 a b = _; unfold le3; rw [decide_eq_false h1]; simp
    go_enter Tryd.func44, Tryd.ntmps44
    go_wp2
    go_ret
    rw [HK.out]
    exact ⟨rfl, (Below.refl _ _).alloc (Nat.le_refl _) _⟩

theorem below_lift {w w1 w2 : World} (h : Below w.heap.size w w1) (k : Below w1.heap.size w1 w2) : Below w.heap.size w w2 := h.trans (k.mono h.size)
theorem below_cell {w w1 : World} (hb : Below w.heap.size w w1) : (∀ b o, b < w.heap.size → w1.cell? ⟨b, o, none⟩ = w.cell? ⟨b, o, none⟩) ∧ (∀ b o, b < w.heap.size → w1.frozen? ⟨b, o, none⟩ = w.frozen? ⟨b, o, none⟩) :=
  ⟨fun b o h => hb.cell (p := ⟨b, o, none⟩) h, fun b o h => hb.frozen (p := ⟨b, o, none⟩) h⟩

/-- both are labels -/
theorem checked_ok (a b : Lab) (w : World) (ha : okL a = true) (hb : okL b = true) :
    Calls Tryd.prog 43 #[.agg #[.int .i64 a.lv, .int .u64 (u a.c), .int .i64 a.ig, .int .i64 b.lv, .int .u64 (u b.c), .int .i64 b.ig]] w fun e w' => e = .returned .nilIface ∧ Below w.heap.size w w' := by
  go_enter Tryd.func43, Tryd.ntmps43
  go_wp2_with fail
  refine (Right_any a _).mono ?_
  rintro e w1 ⟨rfl, hB1⟩
  obtain ⟨hc, hf⟩ := below_cell hB1
  have HB1 := Lib.hid hB1
  clear hB1
  go_wp2_with fail
  refine (Right_any b _).mono ?_
  rintro e w2 ⟨rfl, hB2⟩
  have HB2 := Lib.hid hB2
  clear hB2 hc hf
  go_wp2
  go_ret
  exact ⟨rfl, (((Below.refl _ _).alloc (Nat.le_refl _) _).trans (HB1.out.mono (by simp))).trans (HB2.out.mono (by have := HB1.out.size; simp at this; omega))⟩
/-- the first is none -/
theorem checked_bad1 (a b : Lab) (w : World) (ha : okL a = false) :
    Calls Tryd.prog 43 #[.agg #[.int .i64 a.lv, .int .u64 (u a.c), .int .i64 a.ig, .int .i64 b.lv, .int .u64 (u b.c), .int .i64 b.ig]] w fun e w' => e = .returned (.iface 80 (.agg #[.int .i64 a.lv, .int .u64 (u a.c), .int .i64 a.ig])) ∧ Below w.heap.size w w' := by
  go_enter Tryd.func43, Tryd.ntmps43
  go_wp2_with fail
  refine (Right_any a _).mono ?_
  rintro e w1 ⟨rfl, hB1⟩
  obtain ⟨hc, hf⟩ := below_cell hB1
  have HB1 := Lib.hid hB1
  clear hB1
  go_wp2
  go_ret
  exact ⟨rfl, ((Below.refl _ _).alloc (Nat.le_refl _) _).trans (HB1.out.mono (by simp))⟩
/-- the second is none -/
theorem checked_bad2 (a b : Lab) (w : World) (ha : okL a = true) (hb : okL b = false) :
    Calls Tryd.prog 43 #[.agg #[.int .i64 a.lv, .int .u64 (u a.c), .int .i64 a.ig, .int .i64 b.lv, .int .u64 (u b.c), .int .i64 b.ig]] w fun e w' => e = .returned (.iface 80 (.agg #[.int .i64 b.lv, .int .u64 (u b.c), .int .i64 b.ig])) ∧ Below w.heap.size w w' := by
  go_enter Tryd.func43, Tryd.ntmps43
  go_wp2_with fail
  refine (Right_any a _).mono ?_
  rintro e w1 ⟨rfl, hB1⟩
  obtain ⟨hc, hf⟩ := below_cell hB1
  have HB1 := Lib.hid hB1
  clear hB1
  go_wp2_with fail
  refine (Right_any b _).mono ?_
  rintro e w2 ⟨rfl, hB2⟩
  obtain ⟨hc2, hf2⟩ := below_cell hB2
  have HB2 := Lib.hid hB2
  have hs1 : w.heap.size < w1.heap.size := by have := HB1.out.size; simp at this; omega
  clear hB2
  go_wp2
  go_ret
  exact ⟨rfl, (((Below.refl _ _).alloc (Nat.le_refl _) _).trans (HB1.out.mono (by simp))).trans (HB2.out.mono (by omega))⟩
/-- one of them is none -/
theorem checked_bad (a b : Lab) (w : World) (h : ¬ (okL a = true ∧ okL b = true)) :
    Calls Tryd.prog 43 #[.agg #[.int .i64 a.lv, .int .u64 (u a.c), .int .i64 a.ig, .int .i64 b.lv, .int .u64 (u b.c), .int .i64 b.ig]] w fun e w' => ∃ x : Lab, e = .returned (.iface 80 (.agg #[.int .i64 x.lv, .int .u64 (u x.c), .int .i64 x.ig])) ∧ Below w.heap.size w w' := by
  by_cases ha : okL a = true
  · exact (checked_bad2 a b w ha (by cases hb : okL b <;> simp_all)).mono fun e w' hh => ⟨b, hh⟩
  · exact (checked_bad1 a b w (by simpa using ha)).mono fun e w' hh => ⟨a, hh⟩

theorem eql_lab (a b : Lab) (w : World) : (binOp .eql 25 (.agg #[.int .i64 a.lv, .int .u64 (u a.c), .int .i64 a.ig]) (.agg #[.int .i64 b.lv, .int .u64 (u b.c), .int .i64 b.ig])).run Tryd.prog w = .ok (.bool (eqL a b)) w := by
  by_cases h1 : a.lv = b.lv <;> by_cases h2 : a.c = b.c <;> by_cases h3 : a.ig = b.ig <;> go_simp <;> simp [eqL, h1, h2, h3]
set_option maxHeartbeats 1000000 in
theorem Under_ok (a b : Lab) (w : World) (ha : okL a = true) (hb : okL b = true) :
    Calls Tryd.prog 28 #[.agg #[.int .i64 a.lv, .int .u64 (u a.c), .int .i64 a.ig], .agg #[.int .i64 b.lv, .int .u64 (u b.c), .int .i64 b.ig]] w fun e w' => e = .returned (.bool (le3 a b)) ∧ Below w.heap.size w w' := by
  have hE := eql_lab a b
  by_cases hq : eqL a b = true
  · have HQ : Hid (le3 a b = true) := by rw [eqL_iff.1 hq]; exact le3_self b
    go_enter Tryd.func28, Tryd.ntmps28
    go_wp2_with fail
    refine (checked_ok a b _ ha hb).mono ?_
    rintro e w1 ⟨rfl, hB1⟩
    obtain ⟨hc, hf⟩ := below_cell hB1
    have HB1 := Lib.hid hB1
    clear hB1
    go_wp2_with fail
    go_ret
    rw [HQ.out]
    exact ⟨rfl, ((((Below.refl _ _).alloc (Nat.le_refl _) _).alloc (by simp) _).alloc (by simp; omega) _).trans (HB1.out.mono (by simp; omega))⟩
  · have hq' : eqL a b = false := by simpa using hq
    clear hq
    go_enter Tryd.func28, Tryd.ntmps28
    go_wp2_with fail
    refine (checked_ok a b _ ha hb).mono ?_
    rintro e w1 ⟨rfl, hB1⟩
    obtain ⟨hc, hf⟩ := below_cell hB1
    have HB1 := Lib.hid hB1
    clear hB1
    go_wp2_with fail
    refine (isUnder_any a b _).mono ?_
    rintro e w2 ⟨rfl, hB2⟩
    have HB2 := Lib.hid hB2
    clear hB2 hc hf
    go_wp2
    go_ret
    exact ⟨rfl, (((((Below.refl _ _).alloc (Nat.le_refl _) _).alloc (by simp) _).alloc (by simp; omega) _).trans (HB1.out.mono (by simp; omega))).trans (HB2.out.mono (by have := HB1.out.size; simp at this; omega))⟩
set_option maxHeartbeats 1000000 in
theorem Under_bad (a b : Lab) (w : World) (h : ¬ (okL a = true ∧ okL b = true)) :
    Calls Tryd.prog 28 #[.agg #[.int .i64 a.lv, .int .u64 (u a.c), .int .i64 a.ig], .agg #[.int .i64 b.lv, .int .u64 (u b.c), .int .i64 b.ig]] w fun e w' => e = .returned (.bool false) ∧ Below w.heap.size w w' := by
  have HH := Lib.hid h
  clear h
  go_enter Tryd.func28, Tryd.ntmps28
  go_wp2_with fail
  refine (checked_bad a b _ HH.out).mono ?_
  rintro e w1 ⟨x, rfl, hB1⟩
  have HB1 := Lib.hid hB1
  clear hB1
  go_wp2
  go_ret
  exact ⟨rfl, ((((Below.refl _ _).alloc (Nat.le_refl _) _).alloc (by simp) _).alloc (by simp; omega) _).trans (HB1.out.mono (by simp; omega))⟩
theorem Under_any (a b : Lab) (w : World) :
    Calls Tryd.prog 28 #[.agg #[.int .i64 a.lv, .int .u64 (u a.c), .int .i64 a.ig], .agg #[.int .i64 b.lv, .int .u64 (u b.c), .int .i64 b.ig]] w fun e w' => e = .returned (.bool (underL a b)) ∧ Below w.heap.size w w' := by
  by_cases h : okL a = true ∧ okL b = true
  · have e : underL a b = le3 a b := by unfold underL; rw [h.1, h.2]; rfl
    rw [e]; exact Under_ok a b w h.1 h.2
  · have e : underL a b = false := by unfold underL; cases h1 : okL a <;> cases h2 : okL b <;> simp_all
    rw [e]; exact Under_bad a b w h

/-! ### what makes labels -/

end Go.Proofs.YtbggaijjgnjknaaDoor
