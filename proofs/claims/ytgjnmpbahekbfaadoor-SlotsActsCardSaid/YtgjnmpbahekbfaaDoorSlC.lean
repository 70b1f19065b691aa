/-
  container/heap's down over slots.numbers (printed by wip/gensl2.py).
-/
import Derived.Test.YtgjnmpbahekbfaaDoorSlB
import Derived.IntWalk
namespace Go.Proofs.YtgjnmpbahekbfaaDoor
open Go.RowKit

attribute [local go_sem] mLess mSwap mLen mPush mPop

theorem wrapIs (n : Int) : IntKind.i64.wrap n = wrap64 n := IntWalk.i64_left n
set_option maxRecDepth 100000 in
set_option maxHeartbeats 8000000 in
theorem down_any (sb g n cap m : Nat) (h : List Int) (r : List Value) (cs : Array Value) (i : Nat) (w : World) (hs : Els w sb 0 #[.slice (some ⟨g, 0, none⟩) n cap]) (hg : Blk w g 3 cs) (hc : cs.toList = h.map vI ++ r) (hn : h.length = n) (hi : i ≤ m) (hm : m ≤ n) (hle : n ≤ 1000) (hne : sb ≠ g) :
    Calls Tryd.prog 36 #[heapV sb, .int .i64 i, .int .i64 m] w fun e w' => ∃ v, e = .returned v ∧ (∃ cs', Blk w' g 3 cs' ∧ cs'.toList = (downL h i m).map vI ++ r) ∧ Turns (· = g) w w' := by
  have HS := Lib.hid hs
  have HG := Lib.hid hg
  have HC := Lib.hid hc
  clear hs hg hc
  go_enter Tryd.func36, Tryd.ntmps36
  go_wp2_with fail
  go_loopw [7] (fun iv wr => ∃ (i0 : Nat) (hk : List Int) (ck : Array Value), iv = .int .i64 i0 ∧ i0 ≤ m ∧ hk.length = n ∧ downL hk i0 m = downL h i m ∧ Blk wr g 3 ck ∧ ck.toList = hk.map vI ++ r ∧ Turns (· = g) w wr) (fun iv _ => m - (intOf iv).toNat)
  case atStart => exact ⟨i, h, cs, rfl, hi, hn, rfl, HG.out, HC.out, Turns.refl _ _⟩
  case round =>
    obtain ⟨i1, hk, ck, rfl, hi1, hlen, hd, hb, hc, hT⟩ := hrel
    have HD := Lib.hid hd
    have HB := Lib.hid hb
    have HCK := Lib.hid hc
    have HT := Lib.hid hT
    have hsl : wr.cell? ⟨sb, 0, none⟩ = some (.slice (some ⟨g, 0, none⟩) n cap) := (HS.out.turned HT.out hne).at_ (i := 0) rfl
    have HSC0 := Lib.hid hsl
    clear hd hb hc hT hsl
    obtain ⟨d1, hd1⟩ : ∃ d1, d1 = 2 * i1 := ⟨_, rfl⟩
    obtain ⟨j1, hj1⟩ : ∃ j1, j1 = 2 * i1 + 1 := ⟨_, rfl⟩
    obtain ⟨j2, hj2⟩ : ∃ j2, j2 = 2 * i1 + 2 := ⟨_, rfl⟩
    have e1 : wrap64 (2 * (i1 : Int)) = (d1 : Int) := by unfold wrap64; omega
    have e1' : IntKind.i64.wrap (2 * (i1 : Int)) = (d1 : Int) := by rw [wrapIs]; exact e1
    have e2 : wrap64 ((d1 : Int) + 1) = (j1 : Int) := by unfold wrap64; omega
    have e2' : IntKind.i64.wrap ((d1 : Int) + 1) = (j1 : Int) := by rw [wrapIs]; exact e2
    have e3 : wrap64 ((j1 : Int) + 1) = (j2 : Int) := by unfold wrap64; omega
    have e3' : IntKind.i64.wrap ((j1 : Int) + 1) = (j2 : Int) := by rw [wrapIs]; exact e3
    have c0 : ¬ (j1 : Int) < 0 := by omega
    have ij1 : i1 < j1 := by omega
    have ij2 : i1 < j2 := by omega
    have HJ1 := Lib.hid hj1
    have HJ2 := Lib.hid hj2
    clear hd1 hj1 hj2
    by_cases hjm : j1 < m
    rotate_left
    · have c1 : (m : Int) ≤ (j1 : Int) := by omega
      have HJM := Lib.hid (show ¬ 2 * i1 + 1 < m by rw [← HJ1.out]; exact hjm)
      go_wp2_with fail
      go_ret
      have FA := HB.out
      have FB : ck.toList = (downL h i m).map vI ++ r := by rw [← HD.out, downL_end HJM.out]; exact HCK.out
      first | exact ⟨⟨_, rfl⟩, ⟨ck, FA, FB⟩, HT.out⟩ | exact ⟨_, rfl, ⟨ck, FA, FB⟩, HT.out⟩
    have c1 : ¬ (m : Int) ≤ (j1 : Int) := by omega
    have HJM := Lib.hid (show 2 * i1 + 1 < m by rw [← HJ1.out]; exact hjm)
    by_cases hjm2 : j2 < m
    rotate_left
    · have c2 : ¬ (j2 : Int) < (m : Int) := by omega
      go_wp2_with fail
      have HLC := Lib.hid (show leastC hk i1 m = j1 by unfold leastC; rw [← HJ2.out, if_neg (fun x => hjm2 x.1)]; exact HJ1.out.symm)
      cases hl : decide (at0 hk j1 < at0 hk i1)
      · have HL := Lib.hid hl
        clear hl
        refine (Less_any sb g n cap j1 i1 _ _ ck _ HSC0.out HB.out (row_get HCK.out (by omega)) (row_get HCK.out (by omega)) (by omega) (by omega)).mono ?_
        rintro e w1 ⟨rfl, hB⟩
        have HT1 := Lib.hid (HT.out.below hB)
        have HB1 := Lib.hid (HB.out.after hB)
        have hsl : w1.cell? ⟨sb, 0, none⟩ = some (.slice (some ⟨g, 0, none⟩) n cap) := (HS.out.turned HT1.out hne).at_ (i := 0) rfl
        have HSC1 := Lib.hid hsl
        clear hB hsl
        rw [HL.out]
        go_wp2_with fail
        go_ret
        exact ⟨_, rfl, ⟨ck, HB1.out, by rw [← HD.out, downL_no HJM.out (by rw [HLC.out]; exact of_decide_eq_false HL.out)]; exact HCK.out⟩, HT1.out⟩
      · have HL := Lib.hid hl
        clear hl
        refine (Less_any sb g n cap j1 i1 _ _ ck _ HSC0.out HB.out (row_get HCK.out (by omega)) (row_get HCK.out (by omega)) (by omega) (by omega)).mono ?_
        rintro e w1 ⟨rfl, hB⟩
        have HT1 := Lib.hid (HT.out.below hB)
        have HB1 := Lib.hid (HB.out.after hB)
        have hsl : w1.cell? ⟨sb, 0, none⟩ = some (.slice (some ⟨g, 0, none⟩) n cap) := (HS.out.turned HT1.out hne).at_ (i := 0) rfl
        have HSC1 := Lib.hid hsl
        clear hB hsl
        rw [HL.out]
        go_wp2_with fail
        refine (Swap_any sb g n cap i1 j1 _ _ ck _ HSC1.out HB1.out (row_get HCK.out (by omega)) (row_get HCK.out (by omega)) (by omega) (by omega) hne).mono ?_
        rintro e w9 ⟨rfl, hb2, hT2⟩
        have HB9 := Lib.hid hb2
        have HT9 := Lib.hid (HT1.out.trans hT2)
        clear hb2 hT2
        go_wp2_with fail
        go_roundw
        case rel => exact ⟨j1, swapL hk i1 j1, _, rfl, by omega, by rw [swapL_len]; exact hlen, by rw [← HD.out, downL_yes HJM.out (by rw [HLC.out]; exact of_decide_eq_true HL.out), HLC.out], HB9.out, row_swap HCK.out (by omega) (by omega), HT9.out⟩
        case measure => simp [intOf]; omega
    have c2 : (j2 : Int) < (m : Int) := by omega
    cases hl2 : decide (at0 hk j2 < at0 hk j1)
    · have HL2 := Lib.hid hl2
      clear hl2
      go_wp2_with fail
      refine (Less_any sb g n cap j2 j1 _ _ ck _ HSC0.out HB.out (row_get HCK.out (by omega)) (row_get HCK.out (by omega)) (by omega) (by omega)).mono ?_
      rintro e w1 ⟨rfl, hB⟩
      have HT1 := Lib.hid (HT.out.below hB)
      have HB1 := Lib.hid (HB.out.after hB)
      have hsl : w1.cell? ⟨sb, 0, none⟩ = some (.slice (some ⟨g, 0, none⟩) n cap) := (HS.out.turned HT1.out hne).at_ (i := 0) rfl
      have HSC1 := Lib.hid hsl
      clear hB hsl
      rw [HL2.out]
      go_wp2_with fail
      have HLC := Lib.hid (show leastC hk i1 m = j1 by unfold leastC; rw [← HJ2.out, ← HJ1.out, if_neg (fun x => of_decide_eq_false HL2.out x.2)])
      cases hl : decide (at0 hk j1 < at0 hk i1)
      · have HL := Lib.hid hl
        clear hl
        refine (Less_any sb g n cap j1 i1 _ _ ck _ HSC1.out HB1.out (row_get HCK.out (by omega)) (row_get HCK.out (by omega)) (by omega) (by omega)).mono ?_
        rintro e w2 ⟨rfl, hB⟩
        have HT2 := Lib.hid (HT1.out.below hB)
        have HB2 := Lib.hid (HB1.out.after hB)
        have hsl : w2.cell? ⟨sb, 0, none⟩ = some (.slice (some ⟨g, 0, none⟩) n cap) := (HS.out.turned HT2.out hne).at_ (i := 0) rfl
        have HSC2 := Lib.hid hsl
        clear hB hsl
        rw [HL.out]
        go_wp2_with fail
        go_ret
        exact ⟨_, rfl, ⟨ck, HB2.out, by rw [← HD.out, downL_no HJM.out (by rw [HLC.out]; exact of_decide_eq_false HL.out)]; exact HCK.out⟩, HT2.out⟩
      · have HL := Lib.hid hl
        clear hl
        refine (Less_any sb g n cap j1 i1 _ _ ck _ HSC1.out HB1.out (row_get HCK.out (by omega)) (row_get HCK.out (by omega)) (by omega) (by omega)).mono ?_
        rintro e w2 ⟨rfl, hB⟩
        have HT2 := Lib.hid (HT1.out.below hB)
        have HB2 := Lib.hid (HB1.out.after hB)
        have hsl : w2.cell? ⟨sb, 0, none⟩ = some (.slice (some ⟨g, 0, none⟩) n cap) := (HS.out.turned HT2.out hne).at_ (i := 0) rfl
        have HSC2 := Lib.hid hsl
        clear hB hsl
        rw [HL.out]
        go_wp2_with fail
        refine (Swap_any sb g n cap i1 j1 _ _ ck _ HSC2.out HB2.out (row_get HCK.out (by omega)) (row_get HCK.out (by omega)) (by omega) (by omega) hne).mono ?_
        rintro e w9 ⟨rfl, hb2, hT2⟩
        have HB9 := Lib.hid hb2
        have HT9 := Lib.hid (HT2.out.trans hT2)
        clear hb2 hT2
        go_wp2_with fail
        go_roundw
        case rel => exact ⟨j1, swapL hk i1 j1, _, rfl, by omega, by rw [swapL_len]; exact hlen, by rw [← HD.out, downL_yes HJM.out (by rw [HLC.out]; exact of_decide_eq_true HL.out), HLC.out], HB9.out, row_swap HCK.out (by omega) (by omega), HT9.out⟩
        case measure => simp [intOf]; omega
    · have HL2 := Lib.hid hl2
      clear hl2
      go_wp2_with fail
      refine (Less_any sb g n cap j2 j1 _ _ ck _ HSC0.out HB.out (row_get HCK.out (by omega)) (row_get HCK.out (by omega)) (by omega) (by omega)).mono ?_
      rintro e w1 ⟨rfl, hB⟩
      have HT1 := Lib.hid (HT.out.below hB)
      have HB1 := Lib.hid (HB.out.after hB)
      have hsl : w1.cell? ⟨sb, 0, none⟩ = some (.slice (some ⟨g, 0, none⟩) n cap) := (HS.out.turned HT1.out hne).at_ (i := 0) rfl
      have HSC1 := Lib.hid hsl
      clear hB hsl
      rw [HL2.out]
      go_wp2_with fail
      have HLC := Lib.hid (show leastC hk i1 m = j2 by unfold leastC; rw [← HJ2.out, ← HJ1.out, if_pos ⟨hjm2, of_decide_eq_true HL2.out⟩])
      cases hl : decide (at0 hk j2 < at0 hk i1)
      · have HL := Lib.hid hl
        clear hl
        refine (Less_any sb g n cap j2 i1 _ _ ck _ HSC1.out HB1.out (row_get HCK.out (by omega)) (row_get HCK.out (by omega)) (by omega) (by omega)).mono ?_
        rintro e w2 ⟨rfl, hB⟩
        have HT2 := Lib.hid (HT1.out.below hB)
        have HB2 := Lib.hid (HB1.out.after hB)
        have hsl : w2.cell? ⟨sb, 0, none⟩ = some (.slice (some ⟨g, 0, none⟩) n cap) := (HS.out.turned HT2.out hne).at_ (i := 0) rfl
        have HSC2 := Lib.hid hsl
        clear hB hsl
        rw [HL.out]
        go_wp2_with fail
        go_ret
        exact ⟨_, rfl, ⟨ck, HB2.out, by rw [← HD.out, downL_no HJM.out (by rw [HLC.out]; exact of_decide_eq_false HL.out)]; exact HCK.out⟩, HT2.out⟩
      · have HL := Lib.hid hl
        clear hl
        refine (Less_any sb g n cap j2 i1 _ _ ck _ HSC1.out HB1.out (row_get HCK.out (by omega)) (row_get HCK.out (by omega)) (by omega) (by omega)).mono ?_
        rintro e w2 ⟨rfl, hB⟩
        have HT2 := Lib.hid (HT1.out.below hB)
        have HB2 := Lib.hid (HB1.out.after hB)
        have hsl : w2.cell? ⟨sb, 0, none⟩ = some (.slice (some ⟨g, 0, none⟩) n cap) := (HS.out.turned HT2.out hne).at_ (i := 0) rfl
        have HSC2 := Lib.hid hsl
        clear hB hsl
        rw [HL.out]
        go_wp2_with fail
        refine (Swap_any sb g n cap i1 j2 _ _ ck _ HSC2.out HB2.out (row_get HCK.out (by omega)) (row_get HCK.out (by omega)) (by omega) (by omega) hne).mono ?_
        rintro e w9 ⟨rfl, hb2, hT2⟩
        have HB9 := Lib.hid hb2
        have HT9 := Lib.hid (HT2.out.trans hT2)
        clear hb2 hT2
        go_wp2_with fail
        go_roundw
        case rel => exact ⟨j2, swapL hk i1 j2, _, rfl, by omega, by rw [swapL_len]; exact hlen, by rw [← HD.out, downL_yes HJM.out (by rw [HLC.out]; exact of_decide_eq_true HL.out), HLC.out], HB9.out, row_swap HCK.out (by omega) (by omega), HT9.out⟩
        case measure => simp [intOf]; omega
end Go.Proofs.YtgjnmpbahekbfaaDoor
