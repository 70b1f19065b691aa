/-
  THE REFERENCE'S SLOTS: Take of none, Live, Give.
-/
import Derived.Test.YtgjnmpbahekbfaaDoorSlRb
namespace Go.Proofs.YtgjnmpbahekbfaaDoor
open Go.RowKit

set_option maxRecDepth 100000 in
set_option maxHeartbeats 8000000 in
/-- Take: none is free -/
theorem rTake_w0 (rb gb tb : Nat) (n : Nat) (gen : List Int) (tk : List Bool) (w : World) (H : RefAt w rb gb tb n gen tk) (_hn : n ≤ 64) (hl : ∀ j, ¬ FreeAt gen tk j) :
    Calls Tryd.prog 16 #[.pointer (some ⟨rb, 0, none⟩)] w fun e w' => e = .returned (.tuple #[.agg #[.int .i64 0, .int .i64 0], .int .i64 60]) ∧ Below w.heap.size w w' := by
  have HH := Lib.hid H
  have HL := Lib.hid hl
  clear H hl
  go_enter Tryd.func16, Tryd.ntmps16
  go_wp2_with fail
  go_loopw [4] (fun s wr => ∃ j : Nat, s = .int .i64 j ∧ j ≤ n ∧ RefAt wr rb gb tb n gen tk ∧ Blk wr w.heap.size 28 #[.int .i64 0, .int .i64 0] ∧ Below w.heap.size w wr) (fun s _ => n - (intOf s).toNat)
  case atStart => exact ⟨0, rfl, Nat.zero_le _, HH.out.alloc _, Blk.new' rfl, below_alloc (Below.refl _ _) _⟩
  case round =>
    obtain ⟨j, rfl, hj, hR, hB, hT⟩ := hrel
    have R := Lib.hid hR
    have B := Lib.hid hB
    have TT := Lib.hid hT
    have q0 := hR.cells.1
    have q1 := hR.cells.2
    by_cases hjn : j < n
    · have HLT := Lib.hid hjn
      have k0 : (0 : Int) ≤ (j : Int) := by omega
      have k1 : (j : Int) < (n : Int) := by omega
      have k2 : decide ((j : Int) < (n : Int)) = true := decide_eq_true k1
      obtain ⟨⟨y, hy⟩, b, hb⟩ := hR.gets (j := j) hjn
      have q2 := hR.tk hb
      have q3 := hR.gen hy
      cases b
      · have d1 : decide (y < 1000) = false := decide_eq_false (fun h => HL.out j ⟨hb, y, hy, h⟩)
        simp only [Bool.not_false] at q2
        clear hR hB hT hy hb hjn hj
        go_wp2_with fail
        go_roundw
        case rel => exact ⟨j + 1, by go_num, by have := HLT.out; omega, R.out, B.out, TT.out⟩
        case measure => have := HLT.out; simp [intOf]; omega
      · simp only [Bool.not_true] at q2
        clear hR hB hT hy hb hjn hj
        go_wp2_with fail
        go_roundw
        case rel => exact ⟨j + 1, by go_num, by have := HLT.out; omega, R.out, B.out, TT.out⟩
        case measure => have := HLT.out; simp [intOf]; omega
    · obtain rfl : j = n := by omega
      have f2 := hB.frozen 0
      have f3 := hB.frozen 1
      have b0 := hB.at_ (i := 0) (v := .int .i64 0) rfl
      have b1 := hB.at_ (i := 1) (v := .int .i64 0) rfl
      have B3 : Blk ((wr.setCell ⟨w.heap.size, 0, none⟩ (.int .i64 0)).setCell ⟨w.heap.size, 1, none⟩ (.int .i64 0)) w.heap.size 28 #[.int .i64 0, .int .i64 0] := (hB.set' (i := 0) (cs' := #[.int .i64 0, .int .i64 0]) rfl).set' (i := 1) rfl
      have KB := Lib.hid B3
      clear hR hB hT hj hjn B3
      go_wp2_with fail
      have e0 := KB.out.at_ (i := 0) (v := .int .i64 0) rfl
      have e1 := KB.out.at_ (i := 1) (v := .int .i64 0) rfl
      refine bodyPost_ret (v := .tuple #[.agg #[.int .i64 0, .int .i64 0], .int .i64 60]) (by simp [results, Tryd.results16, go_sem, e0, e1]) rfl ⟨rfl, below_set (below_set TT.out (Nat.le_refl _) _) (Nat.le_refl _) _⟩
theorem below_drewN {B : Nat} {a w : World} (h : Below B a w) (n : Nat) : Below B a (w.drewN n) := h.trans ⟨rfl, rfl, rfl, Nat.le_refl _, fun _ _ => rfl⟩
theorem live_mem_iff {gen : List Int} {tk : List Bool} {n : Nat} {x : Hd} : x ∈ liveTo gen tk n ↔ ∃ i : Nat, i < n ∧ x.slot = i ∧ tk[i]? = some true ∧ gen[i]? = some x.gen := by
  unfold liveTo
  rw [List.mem_filterMap]
  constructor
  · rintro ⟨i, hi, e⟩
    unfold liveAt at e
    split at e
    · rename_i g h1 h2
      cases e
      exact ⟨i, List.mem_range.1 hi, rfl, h1, h2⟩
    · cases e
  · rintro ⟨i, hi, e, h1, h2⟩
    refine ⟨i, List.mem_range.2 hi, ?_⟩
    unfold liveAt
    rw [h1, h2]
    cases x
    simp at e
    simp [e]
set_option maxRecDepth 100000 in
set_option maxHeartbeats 8000000 in
theorem rLive_w (rb gb tb : Nat) (n : Nat) (gen : List Int) (tk : List Bool) (x : Hd) (w : World) (H : RefAt w rb gb tb n gen tk) (_hn : n ≤ 64) :
    Calls Tryd.prog 18 #[.pointer (some ⟨rb, 0, none⟩), .agg #[.int .i64 x.slot, .int .i64 x.gen]] w fun e w' => e = .returned (.bool (decide (x ∈ liveTo gen tk n))) ∧ Below w.heap.size w w' := by
  obtain ⟨s, y⟩ := x
  have q0 := (H.alloc (.cells #[.int .i64 s, .int .i64 y] 28)).cells.1
  have q1 := (H.alloc (.cells #[.int .i64 s, .int .i64 y] 28)).cells.2
  have a0 := (Blk.new' (w := w) (t := 28) (cs := #[.int .i64 s, .int .i64 y]) rfl).at_ (i := 0) (v := .int .i64 s) rfl
  have a1 := (Blk.new' (w := w) (t := 28) (cs := #[.int .i64 s, .int .i64 y]) rfl).at_ (i := 1) (v := .int .i64 y) rfl
  have HB : Hid (Below w.heap.size w (w.alloc (.cells #[.int .i64 s, .int .i64 y] 28))) := Lib.hid (below_alloc (Below.refl _ _) _)
  by_cases h0 : 0 ≤ s
  · obtain ⟨i, rfl⟩ : ∃ i : Nat, s = i := ⟨s.toNat, by omega⟩
    by_cases h1 : i < n
    · obtain ⟨⟨z, hz⟩, b, hb⟩ := H.gets (j := i) h1
      have k0 : decide ((0 : Int) ≤ (i : Int)) = true := decide_eq_true h0
      have k1 : decide ((i : Int) < (n : Int)) = true := decide_eq_true (by omega)
      have k2 : (i : Int) < (n : Int) := by omega
      have q2 := (H.alloc (.cells #[.int .i64 i, .int .i64 y] 28)).tk hb
      have q3 := (H.alloc (.cells #[.int .i64 i, .int .i64 y] 28)).gen hz
      cases b
      · have hr : decide ((⟨i, y⟩ : Hd) ∈ liveTo gen tk n) = false := decide_eq_false (fun h => by
          obtain ⟨j, _, e, h2, _⟩ := live_mem_iff.1 h
          have e' : (i : Int) = (j : Int) := e
          obtain rfl : i = j := by omega
          rw [hb] at h2; cases h2)
        simp only [Bool.not_false] at q2
        rw [hr]
        clear hr hz hb H h1
        go_enter Tryd.func18, Tryd.ntmps18
        go_wp2_with fail
        go_quiet (fail)
        go_wp2_with fail
        go_ret
        exact ⟨rfl, below_drewN HB.out _⟩
      · simp only [Bool.not_true] at q2
        by_cases h3 : z = y
        · subst h3
          have hr : decide ((⟨i, z⟩ : Hd) ∈ liveTo gen tk n) = true := decide_eq_true (live_mem_iff.2 ⟨i, h1, rfl, hb, hz⟩)
          rw [hr]
          clear hr hz hb H h1
          go_enter Tryd.func18, Tryd.ntmps18
          go_wp2_with fail
          go_quiet (fail)
          go_wp2_with fail
          go_ret
          exact ⟨rfl, below_drewN HB.out _⟩
        · have hr : decide ((⟨i, y⟩ : Hd) ∈ liveTo gen tk n) = false := decide_eq_false (fun h => by
            obtain ⟨j, _, e, _, h4⟩ := live_mem_iff.1 h
            have e' : (i : Int) = (j : Int) := e
            obtain rfl : i = j := by omega
            rw [hz] at h4; exact h3 (Option.some.inj h4))
          rw [hr]
          clear hr hz hb H h1
          go_enter Tryd.func18, Tryd.ntmps18
          go_wp2_with fail
          go_quiet (fail)
          go_wp2_with fail
          go_ret
          exact ⟨congrArg (fun b => Ending.returned (Value.bool b)) (beq_eq_false_iff_ne.2 h3), below_drewN HB.out _⟩
    · have k0 : decide ((0 : Int) ≤ (i : Int)) = true := decide_eq_true h0
      have k1 : decide ((i : Int) < (n : Int)) = false := decide_eq_false (by omega)
      have k2 : ¬ ((i : Int) < (n : Int)) := by omega
      have k3 : decide (i < n) = false := decide_eq_false h1
      have hr : decide ((⟨i, y⟩ : Hd) ∈ liveTo gen tk n) = false := decide_eq_false (fun h => by
        obtain ⟨j, h2, e, _, _⟩ := live_mem_iff.1 h
        have e' : (i : Int) = (j : Int) := e
        omega)
      rw [hr]
      clear hr H h1
      go_enter Tryd.func18, Tryd.ntmps18
      go_wp2_with fail
      go_quiet (fail)
      go_wp2_with fail
      go_ret
      exact ⟨rfl, below_drewN HB.out _⟩
  · have k0 : decide ((0 : Int) ≤ s) = false := decide_eq_false h0
    have hr : decide ((⟨s, y⟩ : Hd) ∈ liveTo gen tk n) = false := decide_eq_false (fun h => by
      obtain ⟨j, h2, e, _, _⟩ := live_mem_iff.1 h
      have e' : s = (j : Int) := e
      omega)
    rw [hr]
    clear hr H
    go_enter Tryd.func18, Tryd.ntmps18
    go_wp2_with fail
    go_quiet (fail)
    go_wp2_with fail
    go_ret
    exact ⟨rfl, below_drewN HB.out _⟩
end Go.Proofs.YtgjnmpbahekbfaaDoor
