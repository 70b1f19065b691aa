/-
  container/heap's up, down over slots.numbers.
-/
import Derived.Test.YtgjnmpbahekbfaaDoorSlA
import Derived.LoopN
namespace Go.Proofs.YtgjnmpbahekbfaaDoor
open Go.RowKit

attribute [local go_sem] mLess mSwap mLen mPush mPop

def vI (n : Int) : Value := .int .i64 n
def at0 (h : List Int) (i : Nat) : Int := h[i]?.getD 0
def swapL (h : List Int) (i j : Nat) : List Int := (h.set i (at0 h j)).set j (at0 h i)
theorem swapL_len (h : List Int) (i j : Nat) : (swapL h i j).length = h.length := by unfold swapL; rw [List.length_set, List.length_set]
theorem get_at0 {h : List Int} {i : Nat} (hi : i < h.length) : h[i]? = some (at0 h i) := by unfold at0; rw [List.getElem?_eq_getElem hi]; rfl
theorem row_get {cs : Array Value} {h : List Int} {r : List Value} (hc : cs.toList = h.map vI ++ r) {i : Nat} (hi : i < h.length) : cs[i]? = some (.int .i64 (at0 h i)) := by
  rw [← Array.getElem?_toList, hc, List.getElem?_append_left (by rw [List.length_map]; exact hi), List.getElem?_map, get_at0 hi]; rfl
theorem row_swap {cs : Array Value} {h : List Int} {r : List Value} (hc : cs.toList = h.map vI ++ r) {i j : Nat} (hi : i < h.length) (hj : j < h.length) :
    (swapA cs i j (at0 h i) (at0 h j)).toList = (swapL h i j).map vI ++ r := by
  unfold swapA swapL
  rw [Array.toList_setIfInBounds, Array.toList_setIfInBounds, hc, List.set_append_left _ _ (by rw [List.length_map]; exact hi), List.set_append_left _ _ (by rw [List.length_set, List.length_map]; exact hj), List.map_set, List.map_set]; rfl
/-- what up does to a list -/
def upL (h : List Int) (j : Nat) : List Int := if _hlt : (j - 1) / 2 < j then (if at0 h j < at0 h ((j - 1) / 2) then upL (swapL h ((j - 1) / 2) j) ((j - 1) / 2) else h) else h
termination_by j
theorem upL_zero (h : List Int) : upL h 0 = h := by rw [upL]; rfl
theorem upL_yes {h : List Int} {k : Nat} (hl : at0 h (k + 1) < at0 h (k / 2)) : upL h (k + 1) = upL (swapL h (k / 2) (k + 1)) (k / 2) := by
  rw [upL, dif_pos (by rw [Nat.add_sub_cancel]; omega)]
  rw [Nat.add_sub_cancel, if_pos hl]
theorem upL_no {h : List Int} {k : Nat} (hl : ¬ at0 h (k + 1) < at0 h (k / 2)) : upL h (k + 1) = h := by
  rw [upL, dif_pos (by rw [Nat.add_sub_cancel]; omega)]
  rw [Nat.add_sub_cancel, if_neg hl]
/-- what down does to a list's first n -/
def leastC (h : List Int) (i n : Nat) : Nat := if 2 * i + 2 < n ∧ at0 h (2 * i + 2) < at0 h (2 * i + 1) then 2 * i + 2 else 2 * i + 1
def downL (h : List Int) (i n : Nat) : List Int := if _hlt : 2 * i + 1 < n then (if at0 h (leastC h i n) < at0 h i then downL (swapL h i (leastC h i n)) (leastC h i n) n else h) else h
termination_by n - i
decreasing_by unfold leastC; split <;> omega
theorem leastC_lt {h : List Int} {i n : Nat} (hl : 2 * i + 1 < n) : i < leastC h i n ∧ leastC h i n < n := by unfold leastC; split <;> omega
theorem downL_end {h : List Int} {i n : Nat} (hl : ¬ 2 * i + 1 < n) : downL h i n = h := by rw [downL, dif_neg hl]
theorem downL_no {h : List Int} {i n : Nat} (hl : 2 * i + 1 < n) (hn : ¬ at0 h (leastC h i n) < at0 h i) : downL h i n = h := by rw [downL, dif_pos hl, if_neg hn]
theorem downL_yes {h : List Int} {i n : Nat} (hl : 2 * i + 1 < n) (hn : at0 h (leastC h i n) < at0 h i) : downL h i n = downL (swapL h i (leastC h i n)) (leastC h i n) n := by rw [downL, dif_pos hl, if_pos hn]
theorem upL_len (h : List Int) (j : Nat) : (upL h j).length = h.length := by
  induction j using Nat.strongRecOn generalizing h with
  | _ j ih =>
    match j with
    | 0 => rw [upL_zero]
    | k + 1 =>
      by_cases hl : at0 h (k + 1) < at0 h (k / 2)
      · rw [upL_yes hl, ih _ (by omega), swapL_len]
      · rw [upL_no hl]
theorem Els.one {w : World} {b : Nat} {v : Value} (h : w.cell? ⟨b, 0, none⟩ = some v) : Els w b 0 #[v] := ⟨World.block_lt_of_cell? _ _ h, fun k u hv => by
  match k with
  | 0 => cases hv; exact h
  | k + 1 => simp at hv⟩
set_option maxRecDepth 100000 in
set_option maxHeartbeats 4000000 in
theorem up_any (sb g n cap : Nat) (h : List Int) (r : List Value) (cs : Array Value) (j : Nat) (w : World) (hs : Els w sb 0 #[.slice (some ⟨g, 0, none⟩) n cap]) (hg : Blk w g 3 cs) (hc : cs.toList = h.map vI ++ r) (hn : h.length = n) (hj : j < n) (hle : n ≤ 1000) (hne : sb ≠ g) :
    Calls Tryd.prog 29 #[heapV sb, .int .i64 j] w fun e w' => e = .returned (.tuple #[]) ∧ (∃ cs', Blk w' g 3 cs' ∧ cs'.toList = (upL h j).map vI ++ r) ∧ Turns (· = g) w w' := by
  have HS := Lib.hid hs
  have HG := Lib.hid hg
  have HC := Lib.hid hc
  clear hs hg hc
  go_enter Tryd.func29, Tryd.ntmps29
  go_wp2_with fail
  go_loopw [1] (fun jv wr => ∃ (j0 : Nat) (hk : List Int) (ck : Array Value), jv = .int .i64 j0 ∧ j0 < n ∧ hk.length = n ∧ upL hk j0 = upL h j ∧ Blk wr g 3 ck ∧ ck.toList = hk.map vI ++ r ∧ Turns (· = g) w wr) (fun jv _ => (intOf jv).toNat)
  case atStart => exact ⟨j, h, cs, rfl, hj, hn, rfl, HG.out, HC.out, Turns.refl _ _⟩
  case round =>
    obtain ⟨j0, hk, ck, rfl, hj0, hlen, hup, hb, hc, hT⟩ := hrel
    have HUP := Lib.hid hup
    have HB := Lib.hid hb
    have HCK := Lib.hid hc
    have HT := Lib.hid hT
    clear hup hb hc hT
    by_cases h0 : j0 = 0
    · subst h0
      go_wp2_with fail
      go_end0
      exact ⟨rfl, ⟨ck, HB.out, by rw [← HUP.out, upL_zero]; exact HCK.out⟩, HT.out⟩
    · obtain ⟨k, rfl⟩ : ∃ k, j0 = k + 1 := ⟨j0 - 1, by omega⟩
      obtain ⟨j1, hj1⟩ : ∃ j1, j1 = k + 1 := ⟨_, rfl⟩
      obtain ⟨i1, hi1⟩ : ∃ i1, i1 = k / 2 := ⟨_, rfl⟩
      rw [← hj1]
      have e1 : IntKind.i64.wrap ((j1 : Int) - 1) = (k : Int) := by have := hj1; simp [IntKind.wrap, IntKind.bits, IntKind.signed]; omega
      have e2 : wrap64 ((j1 : Int) - 1) = (k : Int) := by have := hj1; unfold wrap64; omega
      have e3 : (k : Int).tdiv 2 = (i1 : Int) := by rw [hi1]; rfl
      have e4 : ((i1 : Int) == (j1 : Int)) = false := beq_eq_false_iff_ne.2 (by omega)
      have hij : i1 < j1 := by omega
      have hik : i1 < n := by omega
      have hjk : j1 < n := by omega
      have HJ1 := Lib.hid hj1
      have HI1 := Lib.hid hi1
      have hslc : wr.cell? ⟨sb, 0, none⟩ = some (.slice (some ⟨g, 0, none⟩) n cap) := (HS.out.turned HT.out hne).at_ (i := 0) rfl
      have HSC := Lib.hid hslc
      clear hslc hj1 hi1 h0 hj0
      cases hl : decide (at0 hk j1 < at0 hk i1)
      · go_wp2_with fail
        refine (Less_any sb g n cap j1 i1 _ _ ck _ HSC.out HB.out (row_get HCK.out (by omega)) (row_get HCK.out (by omega)) hjk hik).mono ?_
        rintro e w1 ⟨rfl, hB⟩
        have HT1 := Lib.hid (HT.out.below hB)
        have HB1 := Lib.hid (HB.out.after hB)
        have HL := Lib.hid hl
        clear hB
        rw [HL.out]
        clear hl
        go_wp2_with fail
        go_end0
        exact ⟨rfl, ⟨ck, HB1.out, by rw [← HUP.out, upL_no (by have := of_decide_eq_false HL.out; rw [HJ1.out, HI1.out] at this; exact this)]; exact HCK.out⟩, HT1.out⟩
      · go_wp2_with fail
        refine (Less_any sb g n cap j1 i1 _ _ ck _ HSC.out HB.out (row_get HCK.out (by omega)) (row_get HCK.out (by omega)) hjk hik).mono ?_
        rintro e w1 ⟨rfl, hB⟩
        have HT1 := Lib.hid (HT.out.below hB)
        have HB1 := Lib.hid (HB.out.after hB)
        have hsl1 : w1.cell? ⟨sb, 0, none⟩ = some (.slice (some ⟨g, 0, none⟩) n cap) := (HS.out.turned HT1.out hne).at_ (i := 0) rfl
        have HSC1 := Lib.hid hsl1
        have HL := Lib.hid hl
        clear hB hsl1
        rw [HL.out]
        clear hl
        go_wp2_with fail
        refine (Swap_any sb g n cap i1 j1 _ _ ck _ HSC1.out HB1.out (row_get HCK.out (by omega)) (row_get HCK.out (by omega)) hik hjk hne).mono ?_
        rintro e w2 ⟨rfl, hb2, hT2⟩
        have HB2 := Lib.hid hb2
        have HT2 := Lib.hid (HT1.out.trans hT2)
        clear hb2 hT2
        go_wp2_with fail
        go_roundw
        case rel => exact ⟨i1, swapL hk i1 j1, _, rfl, hik, by rw [swapL_len]; exact hlen, by rw [← HUP.out, HI1.out, HJ1.out, upL_yes (by have := of_decide_eq_true HL.out; rw [HJ1.out, HI1.out] at this; exact this)], HB2.out, row_swap HCK.out (by omega) (by omega), HT2.out⟩
        case measure => simp [intOf]; omega
end Go.Proofs.YtgjnmpbahekbfaaDoor
