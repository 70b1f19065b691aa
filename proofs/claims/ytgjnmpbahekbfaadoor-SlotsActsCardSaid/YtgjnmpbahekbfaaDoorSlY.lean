/-
  STATEMENT SlotsFull: its walk.
-/
import Derived.Test.YtgjnmpbahekbfaaDoorSlX
import Derived.Test.YtgjnmpbahekbfaaDoorSlWb
namespace Go.Proofs.YtgjnmpbahekbfaaDoor
open Go.RowKit

theorem ownsRow_val {W : World} {base : Nat} {e : TypeId} {size : Nat} {v : Value} {k : Nat} {xs : List Value} (h : W.ownsRow base e size v k xs) : ∃ p cap, v = .slice p k cap := by
  rcases h.2 with ⟨h1, h2⟩ | ⟨g, cap, cur, h1, _⟩
  · exact ⟨none, 0, by rw [h1, h2]⟩
  · exact ⟨_, cap, h1⟩
theorem live_count {gen : List Int} {tk : List Bool} (hl : tk.length = gen.length) : ∀ k, k ≤ tk.length → (liveTo gen tk k).length = (tk.take k).count true
  | 0, _ => by unfold liveTo; rw [List.take_zero]; rfl
  | k + 1, hk => by
    have ih := live_count hl k (by omega)
    obtain ⟨b, hb⟩ : ∃ b, tk[k]? = some b := ⟨_, List.getElem?_eq_getElem (by omega)⟩
    obtain ⟨g, hg⟩ : ∃ g, gen[k]? = some g := ⟨_, List.getElem?_eq_getElem (by omega)⟩
    rw [List.take_add_one, hb, List.count_append]
    cases b
    · rw [liveTo_no hb, ih]; simp
    · rw [liveTo_yes hb hg, List.length_append, ih]; simp
theorem live_all {n : Nat} {gen : List Int} {tk : List Bool} (hg : gen.length = n) (ht : tk.length = n) : (liveTo gen tk n).length = tk.count true := by
  subst ht
  rw [live_count hg.symm _ (Nat.le_refl _), List.take_length]
def fullG (n i : Nat) : List Int := (List.range n).map fun j => if j < i then 1 else 0
def fullT (n i : Nat) : List Bool := (List.range n).map fun j => decide (j < i)
theorem range_map_get {α : Type} {f : Nat → α} {n j : Nat} (hj : j < n) : ((List.range n).map f)[j]? = some (f j) := by rw [List.getElem?_map, List.getElem?_range hj]; rfl
theorem range_map_set {α : Type} {f g : Nat → α} {n i : Nat} {x : α} (hx : g i = x) (hf : ∀ j, j ≠ i → g j = f j) : ((List.range n).map f).set i x = (List.range n).map g := by
  apply List.ext_getElem?
  intro j
  by_cases hj : j < n
  · rw [List.getElem?_set, range_map_get hj, range_map_get hj, List.length_map, List.length_range]
    split
    · rename_i e; subst e; rw [if_pos hj, hx]
    · rename_i e; rw [hf j (Ne.symm e)]
  · rw [List.getElem?_eq_none (by rw [List.length_set, List.length_map, List.length_range]; omega), List.getElem?_eq_none (by rw [List.length_map, List.length_range]; omega)]
theorem fullG_zero (n : Nat) : fullG n 0 = List.replicate n 0 := by
  apply List.ext_getElem?
  intro j
  rw [List.getElem?_replicate]
  split
  · rename_i h
    unfold fullG
    rw [range_map_get h]; simp
  · unfold fullG
    rw [List.getElem?_eq_none (by rw [List.length_map, List.length_range]; omega)]
theorem fullT_zero (n : Nat) : fullT n 0 = List.replicate n false := by
  apply List.ext_getElem?
  intro j
  rw [List.getElem?_replicate]
  split
  · rename_i h
    unfold fullT
    rw [range_map_get h]; simp
  · unfold fullT
    rw [List.getElem?_eq_none (by rw [List.length_map, List.length_range]; omega)]
theorem fullG_step (n i : Nat) : (fullG n i).set i 1 = fullG n (i + 1) := range_map_set (by simp) (fun j hj => by by_cases h : j < i <;> simp [h] <;> omega)
theorem fullT_step (n i : Nat) : (fullT n i).set i true = fullT n (i + 1) := range_map_set (by simp) (fun j hj => decide_eq_decide.2 (by omega))
theorem fullT_get {n i : Nat} (hi : i < n) : (fullT n i)[i]? = some false := by unfold fullT; rw [range_map_get hi]; simp
theorem fullG_get {n i : Nat} (hi : i < n) : (fullG n i)[i]? = some 0 := by unfold fullG; rw [range_map_get hi]; simp
theorem fullT_count {n : Nat} : ∀ i, i ≤ n → (fullT n i).count true = i
  | 0, _ => by rw [fullT_zero, List.count_replicate]; rfl
  | i + 1, hi => by rw [← fullT_step, count_up (fullT_get (by omega)), fullT_count i (by omega)]
theorem full_busy {n i j : Nat} (hj : j < i) (gen : List Int) : ¬ FreeAt gen (fullT n i) j := by
  rintro ⟨h, _⟩
  by_cases h0 : j < n
  · unfold fullT at h
    rw [range_map_get h0] at h
    simp at h; omega
  · unfold fullT at h
    rw [List.getElem?_eq_none (by rw [List.length_map, List.length_range]; omega)] at h; cases h
theorem full_none {n j : Nat} (gen : List Int) : ¬ FreeAt gen (fullT n n) j := by
  rintro ⟨h, _⟩
  by_cases h0 : j < n
  · unfold fullT at h
    rw [range_map_get h0] at h
    simp at h; omega
  · unfold fullT at h
    rw [List.getElem?_eq_none (by rw [List.length_map, List.length_range]; omega)] at h; cases h
/-- Take: a slot of no generation yet -/
theorem Take_1 (base sb gb tb : Nat) (v : Value) (n : Nat) (gen : List Int) (tk : List Bool) (i : Nat) (ea eb : Addr) (w : World) (H : Well base w sb gb tb v n gen tk) (he : SentS w ea eb) (hA : Above ea eb base sb gb tb)
    (ht : tk[i]? = some false) (hg : gen[i]? = some 0) (hl : ∀ j, j < i → ¬ FreeAt gen tk j) :
    Calls Tryd.prog 11 #[.pointer (some ⟨sb, 0, none⟩)] w fun e w' => e = .returned (.tuple #[.agg #[.int .i64 i, .int .i64 1], .int .i64 0]) ∧ ∃ v', Well base w' sb gb tb v' n (gen.set i 1) (tk.set i true) ∧ v'.ownBlock = v.ownBlock ∧ Turns (OwnS sb gb tb v w.heap.size) w w' := by
  have h := Take_w base sb gb tb v n gen tk i 0 ea eb w H he hA ht hg (by decide) hl
  simp only [Int.zero_add] at h
  exact h
set_option maxRecDepth 100000 in
set_option maxHeartbeats 8000000 in
theorem full_walk (n : Int) (ea eb : Addr) (w : World) (he : SentS w ea eb) :
    Calls Tryd.prog 5 #[.int .i64 n] w (Yes w) := by
  have HE := Lib.hid he
  clear he
  by_cases hn : n < 1 ∨ 64 < n
  · have HN := Lib.hid hn
    by_cases h1 : n < 1
    · have e1 : decide (n < 1) = true := decide_eq_true h1
      clear hn h1
      go_enter Tryd.func5, Tryd.ntmps5
      go_wp2_with fail
      refine (shown_any ea eb w HE.out).mono ?_
      rintro e w1 ⟨rfl, hB⟩
      have B := Lib.hid hB
      clear hB
      go_wp2_with fail
      refine (New_bad n w1 HN.out).mono ?_
      rintro e w2 ⟨rfl, rfl⟩
      go_wp2_with fail
      go_ret
      exact ⟨rfl, B.out⟩
    · have e1 : decide (n < 1) = false := decide_eq_false h1
      have e2 : decide (64 < n) = true := decide_eq_true (by omega)
      clear hn h1
      go_enter Tryd.func5, Tryd.ntmps5
      go_wp2_with fail
      refine (shown_any ea eb w HE.out).mono ?_
      rintro e w1 ⟨rfl, hB⟩
      have B := Lib.hid hB
      clear hB
      go_wp2_with fail
      refine (New_bad n w1 HN.out).mono ?_
      rintro e w2 ⟨rfl, rfl⟩
      go_wp2_with fail
      go_ret
      exact ⟨rfl, B.out⟩
  · obtain ⟨m, rfl⟩ : ∃ m : Nat, n = m := ⟨n.toNat, by omega⟩
    have m1 : Hid (1 ≤ m) := Lib.hid (by omega)
    have m2 : Hid (m ≤ 64) := Lib.hid (by omega)
    clear hn
    go_enter Tryd.func5, Tryd.ntmps5
    go_wp2_with fail
    refine (shown_any ea eb w HE.out).mono ?_
    rintro e w1 ⟨rfl, hB⟩
    have B := Lib.hid hB
    clear hB
    go_wp2_with fail
    refine (New_w m w1 m1.out m2.out).mono ?_
    rintro e w2 ⟨sb, gb, tb, v, rfl, hW, hB, h1, h2, h3⟩
    have B2 := Lib.hid (below_call B.out hB)
    have W2 := Lib.hid hW
    have hw := B.out.size
    have HM : Hid (w.heap.size ≤ sb ∧ w.heap.size ≤ gb ∧ w.heap.size ≤ tb ∧ w.heap.size ≤ w1.heap.size + 3) := Lib.hid ⟨by omega, by omega, by omega, by omega⟩
    obtain ⟨base, hbase⟩ : ∃ base, base = w1.heap.size + 3 := ⟨_, rfl⟩
    rw [← hbase] at W2 HM
    have HA : Hid (Above ea eb base sb gb tb) := Lib.hid ⟨w.heap.size, HE.out.lt, HM.out⟩
    clear hB hW h1 h2 h3 hw hbase
    go_wp2_with fail
    go_loopw [6] (fun iv wr => ∃ (i : Nat) (vr : Value), iv = .int .i64 i ∧ i ≤ m ∧ Well base wr sb gb tb vr m (fullG m i) (fullT m i) ∧ Below w.heap.size w wr) (fun iv _ => (m - (intOf iv).toNat))
    case atStart => exact ⟨0, v, rfl, Nat.zero_le _, by rw [fullG_zero, fullT_zero]; exact W2.out, B2.out⟩
    case round =>
      obtain ⟨i, vr, rfl, hi, hW, hB⟩ := hrel
      have BR := Lib.hid hB
      have WR := Lib.hid hW
      clear hB hW
      by_cases h1 : i = m
      · have f1 : decide ((i : Int) < (m : Int)) = false := decide_eq_false (by omega)
        subst h1
        have m1' := m1.out
        clear hi
        go_wp2_with fail
        refine (Take_w0 base sb gb tb vr i _ _ ea eb _ WR.out (HE.out.up BR.out) (fun _ => full_none _)).mono ?_
        rintro e w3 ⟨rfl, hB⟩
        have B3 := Lib.hid (below_call (w := w) BR.out hB)
        have W3 := Lib.hid (WR.out.after hB)
        clear hB
        go_wp2_with fail
        refine (All_w base sb gb tb vr i _ _ _ (W3.out.alloc _)).mono ?_
        rintro e w4 ⟨v4, rfl, hR, hB⟩
        obtain ⟨p, cap, rfl⟩ := ownsRow_val hR
        rw [live_all (by unfold fullG; rw [List.length_map, List.length_range]) (by unfold fullT; rw [List.length_map, List.length_range]), fullT_count i (Nat.le_refl _)]
        have B4 := Lib.hid (below_call (w := w) (below_alloc B3.out _) hB)
        clear hB hR
        go_wp2_with fail
        go_ret
        exact ⟨rfl, B4.out⟩
      · have hlt : i < m := by omega
        have hm := m2.out
        have f1 : decide ((i : Int) < (m : Int)) = true := decide_eq_true (by omega)
        have f2 : decide ((i : Int) < 64) = true := decide_eq_true (by omega)
        have e10 : IntKind.i64.wrap ((i : Int) + 1) = ((i + 1 : Nat) : Int) := by simp [IntKind.wrap, IntKind.bits, IntKind.signed]; omega
        have HF := Lib.hid hlt
        clear hlt h1 hi hm
        go_wp2_with fail
        refine (Take_1 base sb gb tb vr m _ _ i ea eb _ WR.out (HE.out.up BR.out) HA.out (fullT_get HF.out) (fullG_get HF.out) (fun j hj => full_busy hj _)).mono ?_
        rintro e w3 ⟨rfl, v3, hW, -, hT⟩
        rw [fullG_step, fullT_step] at hW
        have B3 := Lib.hid (WR.out.down hT BR.out HM.out)
        have W3 := Lib.hid hW
        clear hW hT
        have p0 := (Blk.new' (w := w3) (t := 28) (cs := #[.int .i64 i, .int .i64 1]) rfl).at_ (i := 0) (v := .int .i64 i) rfl
        have p1 := (Blk.new' (w := w3) (t := 28) (cs := #[.int .i64 i, .int .i64 1]) rfl).at_ (i := 1) (v := .int .i64 1) rfl
        go_wp2_with fail
        refine (Used_w base sb gb tb v3 m _ _ _ (W3.out.alloc _)).mono ?_
        rintro e w4 ⟨rfl, rfl⟩
        rw [fullT_count _ HF.out]
        clear p0 p1
        go_wp2_with fail
        go_roundw
        case rel => exact ⟨i + 1, v3, rfl, HF.out, W3.out.alloc _, below_alloc B3.out _⟩
        case measure => have := HF.out; simp [intOf]; omega
end Go.Proofs.YtgjnmpbahekbfaaDoor
