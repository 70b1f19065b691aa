/-
  STATEMENT SlotsWorn: its walk.
-/
import Derived.Test.YtgjnmpbahekbfaaDoorSlWa
import Derived.Test.YtgjnmpbahekbfaaDoorSlU
import Derived.Test.YtgjnmpbahekbfaaDoorClose
import Derived.LoopN
namespace Go.Proofs.YtgjnmpbahekbfaaDoor
open Go.RowKit

/-- the generations behind i takes and gives -/
def wornL (n i : Nat) : List Int := (List.range n).map fun j => ((min 1000 (i - 1000 * j) : Nat) : Int)
theorem worn_get {n i j : Nat} (hj : j < n) : (wornL n i)[j]? = some (((min 1000 (i - 1000 * j) : Nat)) : Int) := by
  unfold wornL
  rw [List.getElem?_map, List.getElem?_range hj]; rfl
theorem worn_none {n i j : Nat} (hj : n ≤ j) : (wornL n i)[j]? = none := by
  unfold wornL
  rw [List.getElem?_map, List.getElem?_eq_none (by rw [List.length_range]; exact hj)]; rfl
theorem worn_zero (n : Nat) : wornL n 0 = List.replicate n 0 := by
  apply List.ext_getElem?
  intro j
  rw [List.getElem?_replicate]
  split
  · rename_i h
    rw [worn_get h]; simp
  · rw [worn_none (by omega)]
theorem worn_step {n i : Nat} (h : i / 1000 < n) : (wornL n i).set (i / 1000) (((i % 1000 : Nat) : Int) + 1) = wornL n (i + 1) := by
  have hl : (wornL n i).length = n := by unfold wornL; rw [List.length_map, List.length_range]
  apply List.ext_getElem?
  intro j
  rw [List.getElem?_set, hl]
  by_cases hj : j < n
  · rw [worn_get hj, worn_get hj]
    split
    · rename_i e
      subst e
      try rw [if_pos h]
      congr 1
      omega
    · congr 2; omega
  · rw [if_neg (by omega), worn_none (by omega), worn_none (by omega)]
theorem worn_least {n i : Nat} (_h : i / 1000 < n) (tk : List Bool) : ∀ j, j < i / 1000 → ¬ FreeAt (wornL n i) tk j := by
  rintro j hj ⟨_, g, h1, h2⟩
  rw [worn_get (by omega)] at h1
  cases h1
  omega
theorem worn_full {n : Nat} (tk : List Bool) : ∀ j, ¬ FreeAt (wornL n (1000 * n)) tk j := by
  rintro j ⟨_, g, h1, h2⟩
  by_cases hj : j < n
  · rw [worn_get hj] at h1
    cases h1
    omega
  · rw [worn_none (by omega)] at h1; cases h1
theorem free_back (n q : Nat) : ((List.replicate n false).set q true).set q false = List.replicate n false := by
  rw [List.set_set]
  apply List.ext_getElem?
  intro j
  rw [List.getElem?_set, List.getElem?_replicate, List.length_replicate]
  split
  · rename_i e; rw [e]
  · rfl
set_option maxRecDepth 100000 in
set_option maxHeartbeats 8000000 in
theorem worn_walk (n : Int) (ea eb : Addr) (w : World) (he : SentS w ea eb) :
    Calls Tryd.prog 3 #[.int .i64 n] w (Yes w) := by
  have HE := Lib.hid he
  clear he
  by_cases hn : n < 1 ∨ 64 < n
  · have HN := Lib.hid hn
    clear hn
    go_enter Tryd.func3, Tryd.ntmps3
    go_wp2_with fail
    refine (shown_any ea eb w HE.out).mono ?_
    rintro e w1 ⟨rfl, hB⟩
    have B := Lib.hid hB
    clear hB
    go_wp2_with fail
    refine (New_bad n w1 HN.out).mono ?_
    rintro e w2 ⟨rfl, rfl⟩
    go_wp2_with fail
    go_ret
    exact ⟨rfl, B.out⟩
  · by_cases h3 : 3 < n
    · obtain ⟨m, rfl⟩ : ∃ m : Nat, n = m := ⟨n.toNat, by omega⟩
      have m1 : Hid (1 ≤ m) := Lib.hid (by omega)
      have m2 : Hid (m ≤ 64) := Lib.hid (by omega)
      have e3 : decide (3 < (m : Int)) = true := decide_eq_true h3
      clear hn h3
      go_enter Tryd.func3, Tryd.ntmps3
      go_wp2_with fail
      refine (shown_any ea eb w HE.out).mono ?_
      rintro e w1 ⟨rfl, hB⟩
      have B := Lib.hid hB
      clear hB
      go_wp2_with fail
      refine (New_w m w1 m1.out m2.out).mono ?_
      rintro e w2 ⟨sb, gb, tb, v, rfl, -, hB, -⟩
      have B2 := Lib.hid (below_call B.out hB)
      clear hB
      go_wp2_with fail
      go_ret
      exact ⟨rfl, B2.out⟩
    · obtain ⟨m, rfl⟩ : ∃ m : Nat, n = m := ⟨n.toNat, by omega⟩
      have m1 : Hid (1 ≤ m) := Lib.hid (by omega)
      have m2 : Hid (m ≤ 3) := Lib.hid (by omega)
      have e3 : decide (3 < (m : Int)) = false := decide_eq_false h3
      have e4 : IntKind.i64.wrap (1000 * (m : Int)) = 1000 * (m : Int) := by have := m2.out; simp [IntKind.wrap, IntKind.bits, IntKind.signed]; omega
      clear hn h3
      go_enter Tryd.func3, Tryd.ntmps3
      go_wp2_with fail
      refine (shown_any ea eb w HE.out).mono ?_
      rintro e w1 ⟨rfl, hB⟩
      have B := Lib.hid hB
      clear hB
      go_wp2_with fail
      refine (New_w m w1 m1.out (Nat.le_trans m2.out (by decide))).mono ?_
      rintro e w2 ⟨sb, gb, tb, v, rfl, hW, hB, h1, h2, h3⟩
      have B2 := Lib.hid (below_call B.out hB)
      have W2 := Lib.hid hW
      have hw := B.out.size
      have HM : Hid (w.heap.size ≤ sb ∧ w.heap.size ≤ gb ∧ w.heap.size ≤ tb ∧ w.heap.size ≤ w1.heap.size + 3) := Lib.hid ⟨by omega, by omega, by omega, by omega⟩
      obtain ⟨base, hbase⟩ : ∃ base, base = w1.heap.size + 3 := ⟨_, rfl⟩
      rw [← hbase] at W2 HM
      have HA : Hid (Above ea eb base sb gb tb) := Lib.hid ⟨w.heap.size, HE.out.lt, HM.out⟩
      clear hB hW h1 h2 h3 hw hbase
      go_wp2_with fail
      go_loopw [6] (fun iv wr => ∃ (i : Nat) (vr : Value), iv = .int .i64 i ∧ i ≤ 1000 * m ∧ Well base wr sb gb tb vr m (wornL m i) (List.replicate m false) ∧ Below w.heap.size w wr) (fun iv _ => (1000 * m - (intOf iv).toNat))
      case atStart => exact ⟨0, v, rfl, Nat.zero_le _, by rw [worn_zero]; exact W2.out, B2.out⟩
      case round =>
        obtain ⟨i, vr, rfl, hi, hW, hB⟩ := hrel
        have BR := Lib.hid hB
        have WR := Lib.hid hW
        clear hB hW
        by_cases h1 : i = 1000 * m
        · have f1 : decide ((i : Int) < 1000 * (m : Int)) = false := decide_eq_false (by omega)
          subst h1
          clear hi
          go_wp2_with fail
          refine (Take_w0 base sb gb tb vr m _ _ ea eb _ WR.out (HE.out.up BR.out) (worn_full _)).mono ?_
          rintro e w3 ⟨rfl, hB⟩
          have B3 := Lib.hid (below_call (w := w) BR.out hB)
          have W3 := Lib.hid (WR.out.after hB)
          clear hB
          go_wp2_with fail
          refine (Used_w base sb gb tb vr m _ _ _ (W3.out.alloc _)).mono ?_
          rintro e w4 ⟨rfl, rfl⟩
          have hc : (List.replicate m false).count true = 0 := by rw [List.count_replicate]; rfl
          rw [hc]
          go_wp2_with fail
          go_ret
          exact ⟨rfl, below_alloc B3.out _⟩
        · have hlt : i < 1000 * m := by omega
          have hm := m2.out
          have f1 : decide ((i : Int) < 1000 * (m : Int)) = true := decide_eq_true (by omega)
          have f2 : decide ((i : Int) < 3000) = true := decide_eq_true (by omega)
          obtain ⟨q, hq⟩ : ∃ q, q = i / 1000 := ⟨_, rfl⟩
          obtain ⟨r, hr⟩ : ∃ r, r = i % 1000 := ⟨_, rfl⟩
          have hqm : q < m := by omega
          have e5 : (i : Int).tdiv 1000 = (q : Int) := by rw [hq]; rfl
          have e6 : (i : Int).tmod 1000 = (r : Int) := by rw [hr]; rfl
          have hg : (wornL m i)[q]? = some (r : Int) := by rw [worn_get hqm]; congr 2; omega
          have e7 : IntKind.i64.wrap ((r : Int) + 1) = (r : Int) + 1 := by simp [IntKind.wrap, IntKind.bits, IntKind.signed]; omega
          have e8 : IntKind.i64.wrap ((q : Int)) = (q : Int) := by simp [IntKind.wrap, IntKind.bits, IntKind.signed]; omega
          have e9 : IntKind.i64.wrap ((r : Int)) = (r : Int) := by simp [IntKind.wrap, IntKind.bits, IntKind.signed]; omega
          have e10 : IntKind.i64.wrap ((i : Int) + 1) = ((i + 1 : Nat) : Int) := by simp [IntKind.wrap, IntKind.bits, IntKind.signed]; omega
          have hr1 : r < 1000 := by omega
          have hst : (wornL m i).set q ((r : Int) + 1) = wornL m (i + 1) := by rw [hq, hr]; exact worn_step (by omega)
          have hls : ∀ j, j < q → ¬ FreeAt (wornL m i) (List.replicate m false) j := by rw [hq]; exact worn_least (by omega) _
          have HF := Lib.hid (And.intro hlt (And.intro hqm (And.intro hg (And.intro hr1 (And.intro hst hls)))))
          have HQ := Lib.hid (And.intro hq hr)
          clear hlt hqm hg hr1 hst hls hq hr h1 hi hm
          go_wp2_with fail
          refine (Take_w base sb gb tb vr m _ _ q r ea eb _ WR.out (HE.out.up BR.out) HA.out (by rw [List.getElem?_replicate, if_pos HF.out.2.1]) HF.out.2.2.1 (by have := HF.out.2.2.2.1; omega) HF.out.2.2.2.2.2).mono ?_
          rintro e w3 ⟨rfl, v3, hW, -, hT⟩
          rw [HF.out.2.2.2.2.1] at hW
          have B3 := Lib.hid (WR.out.down hT BR.out HM.out)
          have W3 := Lib.hid hW
          clear hW hT
          have p0 := (Blk.new' (w := w3) (t := 28) (cs := #[.int .i64 q, .int .i64 ((r : Int) + 1)]) rfl).at_ (i := 0) (v := .int .i64 q) rfl
          have p1 := (Blk.new' (w := w3) (t := 28) (cs := #[.int .i64 q, .int .i64 ((r : Int) + 1)]) rfl).at_ (i := 1) (v := .int .i64 ((r : Int) + 1)) rfl
          go_wp2_with fail
          refine (Give_w base sb gb tb v3 m _ _ q ((r : Int) + 1) ea eb _ (W3.out.alloc _) (HE.out.up (below_alloc B3.out _)) HA.out (by rw [List.getElem?_set, if_pos rfl, List.length_replicate, if_pos HF.out.2.1]) (by rw [worn_get HF.out.2.1]; congr 1; have h1 := HQ.out.1; have h2 := HQ.out.2; have h3 := HF.out.2.2.2.1; omega)).mono ?_
          rintro e w4 ⟨rfl, v4, hW, -, hT⟩
          rw [free_back] at hW
          have B4 := Lib.hid ((W3.out.alloc _).down hT (below_alloc B3.out _) HM.out)
          have W4 := Lib.hid hW
          clear hW hT p0 p1
          go_wp2_with fail
          go_roundw
          case rel => exact ⟨i + 1, v4, rfl, HF.out.1, W4.out, B4.out⟩
          case measure => have := HF.out.1; simp [intOf]; omega
end Go.Proofs.YtgjnmpbahekbfaaDoor
