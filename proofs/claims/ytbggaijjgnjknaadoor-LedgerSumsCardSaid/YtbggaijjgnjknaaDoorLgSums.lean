/-
  STATEMENT LedgerSums: its walk.
-/
import Derived.Test.YtbggaijjgnjknaaDoorLgO
namespace Go.Proofs.YtbggaijjgnjknaaDoor
open Go.RowKit

theorem right_at (v : Value) (l : List Ln) (w : World) (hl : LnsAt w v l) :
    Calls Tryd.prog 19 #[v] w fun e w' => ∃ r, e = .returned (.bool r) ∧ Hid (r = rightLn l) ∧ Below w.heap.size w w' :=
  (LRight_w v l w hl).mono (fun _ _ k => ⟨_, k.1, Lib.hid rfl, k.2⟩)
set_option maxRecDepth 100000 in
set_option maxHeartbeats 16000000 in
theorem sums_walk (v : Value) (l : List Ln) (a : Lab) (w : World) (hh : Handle w) (hl : LnsAt w v l) :
    Calls Tryd.prog 10 #[v, .agg #[.int .i64 a.lv, .int .u64 (u a.c), .int .i64 a.ig]] w (Yes w) := by
  have HH := Lib.hid hh
  have HL := Lib.hid hl
  obtain ⟨A, c, rfl, _, _, _⟩ := hl.slice
  clear hh hl
  go_enter Tryd.func10, Tryd.ntmps10
  go_wp2_with fail
  refine (shown_any _ (HH.out.up (below_alloc (Below.refl _ _) _))).mono ?_
  rintro e w1 ⟨rfl, hB⟩
  have B1 := Lib.hid (below_call (w := w) (below_alloc (Below.refl _ _) _) hB)
  have LA := Lib.hid ((Blk.new' rfl : Blk (w.alloc (.cells #[.int .i64 a.lv, .int .u64 (u a.c), .int .i64 a.ig] 25)) w.heap.size 25 #[.int .i64 a.lv, .int .u64 (u a.c), .int .i64 a.ig]).after hB)
  clear hB
  go_wp2_with fail
  refine (few_at _ l _ (HL.out.later B1.out B1.out.size)).mono ?_
  rintro e w2 ⟨p, c, L, rfl, H42, hT, rfl⟩
  have HT := Lib.hid hT
  have HLE := Lib.hid (Nat.le_trans H42.out (by decide : (42 : Nat) ≤ 900))
  clear hT HL
  go_wp2_with fail
  refine (right_at _ L _ HT.out).mono ?_
  rintro e w2 ⟨r, rfl, R, hB⟩
  have B2 := Lib.hid (below_call (w := w) B1.out hB)
  replace LA := Lib.hid (LA.out.after hB)
  replace HT := Lib.hid (HT.out.after hB)
  clear hB
  cases r
  · go_wp2_with fail
    refine (total_at _ L _ HT.out).mono ?_
    rintro e w3 ⟨t, rfl, ht, hB⟩
    obtain rfl : t = 0 := by rw [ht.out, total_wrong R.out.symm]
    clear ht
    have B3 := Lib.hid (below_call (w := w) B2.out hB)
    replace HT := Lib.hid (HT.out.after hB)
    clear hB
    go_wp2_with fail
    go_ret
    exact ⟨rfl, B3.out⟩
  · have x0 := LA.out.at_ (i := 0) (v := .int .i64 a.lv) rfl
    have x1 := LA.out.at_ (i := 1) (v := .int .u64 (u a.c)) rfl
    have x2 := LA.out.at_ (i := 2) (v := .int .i64 a.ig) rfl
    go_wp2_with fail
    refine (seen_at L _ a _ HT.out HLE.out).mono ?_
    rintro e w3 ⟨p3, c3, S, rfl, FS, hO, hB⟩
    have B3 := Lib.hid (below_call (w := w) B2.out hB)
    replace LA := Lib.hid (LA.out.after hB)
    replace HT := Lib.hid (HT.out.after hB)
    have OS := Lib.hid hO
    clear hO x0 x1 x2
    clear hB
    obtain ⟨g1, g2, g3⟩ := sums_law R.out.symm a
    have hSL : S.length ≤ L.length := by rw [FS.out]; exact List.length_filter_le _ _
    have hmem : ∀ x, x ∈ S → usedLn L x.a = x.n := fun x hx => by
      rw [FS.out] at hx
      exact used_of (right_iff.1 R.out.symm).1 (List.mem_filter.1 hx).1
    rw [← FS.out] at g2 g3
    have G1 := Lib.hid g1
    have G2 := Lib.hid g2
    have G3 := Lib.hid g3
    have GO := Lib.hid (right_iff.1 g2).2.1
    have HM := Lib.hid hmem
    have HSL := Lib.hid (show S.length ≤ 42 from Nat.le_trans hSL H42.out)
    clear g1 g2 g3 hSL hmem FS
    go_wp2_with fail
    go_loopw [7, 8] (fun nv s wr => ∃ (k : Nat) (N : Int), nv = .int .i64 N ∧ N = sumLn (S.take k) ∧ s = .int .i64 k ∧ k ≤ S.length ∧ Below w3.heap.size w3 wr) (fun _ s _ => S.length - (intOf s).toNat)
    case atStart => exact ⟨0, 0, rfl, rfl, rfl, Nat.zero_le _, Below.refl _ _⟩
    case round =>
      obtain ⟨k, N, rfl, hN, rfl, hk, hB⟩ := hrel
      have BR := Lib.hid hB
      have HN := Lib.hid hN
      have B4 := Lib.hid (below_call (w := w) B3.out hB)
      replace HT := Lib.hid (HT.out.after hB)
      replace OS := Lib.hid (OS.out.after hB)
      clear hB hN
      by_cases hkl : k < S.length
      · obtain ⟨x, hx⟩ : ∃ x, S[k]? = some x := ⟨_, List.getElem?_eq_getElem hkl⟩
        obtain ⟨b, off, rfl, _, he⟩ := OS.out.lns.el hx (Nat.le_refl _)
        have hs := sum_le (l := S.take (k + 1)) (fun y hy => GO.out y (List.mem_of_mem_take hy))
        have hlen := HSL.out
        have hN := HN.out
        rw [List.length_take, sum_next hx] at hs
        have HX := Lib.hid hx
        have HU := Lib.hid (HM.out x (List.mem_of_getElem? hx))
        have HLT := Lib.hid hkl
        have kk0 : (0 : Int) ≤ (k : Int) := by omega
        have kk1 : (k : Int) < (S.length : Int) := by omega
        have e10 : IntKind.i64.wrap ((k : Int) + 1) = ((k + 1 : Nat) : Int) := wrapI _ (by omega)
        have e11 : IntKind.i64.wrap (N + x.n) = N + x.n := wrapI _ (by omega)
        have q0 : wr.cell? ⟨b, off + k * 4, none⟩ = some (.int .i64 x.a.lv) := he.at_ (i := 0) rfl
        have q1 : wr.cell? ⟨b, off + k * 4 + 1, none⟩ = some (.int .u64 (u x.a.c)) := he.at_ (i := 1) rfl
        have q2 : wr.cell? ⟨b, off + k * 4 + 2, none⟩ = some (.int .i64 x.a.ig) := he.at_ (i := 2) rfl
        clear he hx hkl hk hs hlen hN
        go_wp2_with fail
        refine (used_at L _ x.a _ HT.out).mono ?_
        rintro e wn ⟨rr, rfl, hrr, hB⟩
        obtain rfl : rr = x.n := by rw [hrr.out, HU.out]
        have BN := Lib.hid (below_call BR.out hB)
        clear hrr hB
        go_wp2_with fail
        go_roundw
        case rel => exact ⟨k + 1, N + x.n, by first | rfl | go_num, by rw [sum_next HX.out, HN.out], by first | rfl | go_num, HLT.out, BN.out⟩
        case measure => have := HLT.out; simp [intOf]; omega
      · obtain rfl : k = S.length := by omega
        have HN2 : Hid (N = sumLn S) := Lib.hid (by rw [HN.out, List.take_length])
        have kk1 : ¬ ((S.length : Int) < (S.length : Int)) := by omega
        clear hk hkl
        go_wp2_with fail
        refine (Top_any _).mono ?_
        rintro e w5 ⟨rfl, hB⟩
        have B5 := Lib.hid (below_call (w := w) B4.out hB)
        replace HT := Lib.hid (HT.out.after hB)
        replace OS := Lib.hid (OS.out.after hB)
        clear hB
        go_wp2_with fail
        refine (seen_at L _ topL _ HT.out HLE.out).mono ?_
        rintro e w6 ⟨p5, c5, T, rfl, FT, hO, hB⟩
        have B6 := Lib.hid (below_call (w := w) B5.out hB)
        replace HT := Lib.hid (HT.out.after hB)
        replace OS := Lib.hid (OS.out.after hB)
        have OT := Lib.hid hO
        clear hO
        clear hB
        go_wp2_with fail
        refine (same_yes _ _ T L _ OT.out.lns HT.out (FT.out.trans G1.out)).mono ?_
        rintro e w7 ⟨rfl, hB⟩
        have B7 := Lib.hid (below_call (w := w) B6.out hB)
        replace HT := Lib.hid (HT.out.after hB)
        replace OS := Lib.hid (OS.out.after hB)
        replace OT := Lib.hid (OT.out.after hB)
        clear hB
        go_wp2_with fail
        refine (right_yes _ S _ OS.out.lns G2.out).mono ?_
        rintro e w8 ⟨rfl, hB⟩
        have B8 := Lib.hid (below_call (w := w) B7.out hB)
        replace HT := Lib.hid (HT.out.after hB)
        replace OS := Lib.hid (OS.out.after hB)
        replace OT := Lib.hid (OT.out.after hB)
        clear hB
        go_wp2_with fail
        refine (total_at _ S _ OS.out.lns).mono ?_
        rintro e w9 ⟨t1, rfl, ht1, hB⟩
        obtain rfl : t1 = N := by rw [ht1.out, HN2.out, total_right G2.out]
        clear ht1
        have B9 := Lib.hid (below_call (w := w) B8.out hB)
        replace HT := Lib.hid (HT.out.after hB)
        replace OS := Lib.hid (OS.out.after hB)
        replace OT := Lib.hid (OT.out.after hB)
        clear hB
        go_wp2_with fail
        refine (total_at _ L _ HT.out).mono ?_
        rintro e w10 ⟨t2, rfl, ht2, hB⟩
        have HLEQ := Lib.hid (show t1 ≤ t2 by have := G3.out; have e1 := ht2.out; have e2 := HN2.out; rw [total_right R.out.symm] at e1; omega)
        have l1 : t1 ≤ t2 := HLEQ.out
        have l2 : decide (t1 ≤ t2) = true := decide_eq_true HLEQ.out
        clear ht2
        have B10 := Lib.hid (below_call (w := w) B9.out hB)
        replace HT := Lib.hid (HT.out.after hB)
        replace OS := Lib.hid (OS.out.after hB)
        replace OT := Lib.hid (OT.out.after hB)
        clear hB
        go_wp2_with fail
        go_ret
        exact ⟨rfl, B10.out⟩
end Go.Proofs.YtbggaijjgnjknaaDoor
