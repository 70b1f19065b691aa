/-
  STATEMENT LedgerBooks: its walk.
-/
import Derived.Test.YtbggaijjgnjknaaDoorLgRC
namespace Go.Proofs.YtbggaijjgnjknaaDoor
open Go.RowKit

theorem rcharge_at (v : Value) (l : List Ln) (q : Int) (a : Lab) (n : Int) (w : World) (hl : LnsAt w v l) (hle : l.length ≤ 900) :
    Calls Tryd.prog 14 #[v, .int .i64 q, .agg #[.int .i64 a.lv, .int .u64 (u a.c), .int .i64 a.ig], .int .i64 n] w fun e w' => ∃ v' e' L', e = .returned (.tuple #[v', .int .i64 e']) ∧ Hid (e' = chargeE l q a n) ∧ Hid (L' = chargeL l q a n) ∧ OwnL w.heap.size w' v' L' ∧ Below w.heap.size w w' :=
  (rCharge_w v l q a n w hl hle).mono (fun _ _ ⟨v', h1, h2, h3⟩ => ⟨v', _, _, h1, Lib.hid rfl, Lib.hid rfl, h2, h3⟩)
theorem rrefund_at (v : Value) (l : List Ln) (a : Lab) (n : Int) (w : World) (hl : LnsAt w v l) (hle : l.length ≤ 900) :
    Calls Tryd.prog 16 #[v, .agg #[.int .i64 a.lv, .int .u64 (u a.c), .int .i64 a.ig], .int .i64 n] w fun e w' => ∃ v' e' L', e = .returned (.tuple #[v', .int .i64 e']) ∧ Hid (e' = refundE l a n) ∧ Hid (L' = refundL l a n) ∧ OwnL w.heap.size w' v' L' ∧ Below w.heap.size w w' :=
  (rRefund_w v l a n w hl hle).mono (fun _ _ ⟨v', h1, h2, h3⟩ => ⟨v', _, _, h1, Lib.hid rfl, Lib.hid rfl, h2, h3⟩)
set_option maxRecDepth 100000 in
set_option maxHeartbeats 16000000 in
theorem books_walk (v : Value) (l : List Ln) (q : Int) (a : Lab) (n : Int) (w : World) (hh : Handle w) (hl : LnsAt w v l) :
    Calls Tryd.prog 3 #[v, .int .i64 q, .agg #[.int .i64 a.lv, .int .u64 (u a.c), .int .i64 a.ig], .int .i64 n] w (Yes w) := by
  have HH := Lib.hid hh
  have HL := Lib.hid hl
  obtain ⟨A, c, rfl, _, _, _⟩ := hl.slice
  clear hh hl
  go_enter Tryd.func3, Tryd.ntmps3
  go_wp2_with fail
  refine (shown_any _ (HH.out.up (below_alloc (Below.refl _ _) _))).mono ?_
  rintro e w1 ⟨rfl, hB⟩
  have B1 := Lib.hid (below_call (w := w) (below_alloc (Below.refl _ _) _) hB)
  have LA := Lib.hid ((Blk.new' rfl : Blk (w.alloc (.cells #[.int .i64 a.lv, .int .u64 (u a.c), .int .i64 a.ig] 25)) w.heap.size 25 #[.int .i64 a.lv, .int .u64 (u a.c), .int .i64 a.ig]).after hB)
  clear hB
  go_wp2_with fail
  refine (few_at _ l _ (HL.out.later B1.out B1.out.size)).mono ?_
  rintro e w2 ⟨p, c, L, rfl, H42, hT, rfl⟩
  have HT := Lib.hid hT
  have HLE := Lib.hid (Nat.le_trans H42.out (by decide : (42 : Nat) ≤ 900))
  clear hT HL
  have x0 := LA.out.at_ (i := 0) (v := .int .i64 a.lv) rfl
  have x1 := LA.out.at_ (i := 1) (v := .int .u64 (u a.c)) rfl
  have x2 := LA.out.at_ (i := 2) (v := .int .i64 a.ig) rfl
  go_wp2_with fail
  refine (charge_at _ L q a n _ HT.out HLE.out (HH.out.up B1.out)).mono ?_
  rintro e w2 ⟨v2, e2, L2, rfl, E2, F2, hO, hB⟩
  obtain ⟨p2, c2, rfl⟩ := hO.val
  have B2 := Lib.hid (below_call (w := w) B1.out hB)
  replace LA := Lib.hid (LA.out.after hB)
  replace HT := Lib.hid (HT.out.after hB)
  have O2 := Lib.hid hO
  clear hO x0 x1 x2
  clear hB
  have x0 := LA.out.at_ (i := 0) (v := .int .i64 a.lv) rfl
  have x1 := LA.out.at_ (i := 1) (v := .int .u64 (u a.c)) rfl
  have x2 := LA.out.at_ (i := 2) (v := .int .i64 a.ig) rfl
  go_wp2_with fail
  refine (rcharge_at _ L q a n _ HT.out HLE.out).mono ?_
  rintro e w3 ⟨v3, e3, L3, rfl, E3, F3, hO, hB⟩
  obtain ⟨p3, c3, rfl⟩ := hO.val
  obtain rfl : e3 = e2 := by rw [E3.out, E2.out]
  have B3 := Lib.hid (below_call (w := w) B2.out hB)
  replace LA := Lib.hid (LA.out.after hB)
  replace HT := Lib.hid (HT.out.after hB)
  replace O2 := Lib.hid (O2.out.after hB)
  have O3 := Lib.hid hO
  clear hO x0 x1 x2
  clear hB
  have x0 := LA.out.at_ (i := 0) (v := .int .i64 a.lv) rfl
  have x1 := LA.out.at_ (i := 1) (v := .int .u64 (u a.c)) rfl
  have x2 := LA.out.at_ (i := 2) (v := .int .i64 a.ig) rfl
  go_wp2_with fail
  refine (refund_at _ L a n _ HT.out HLE.out (HH.out.up B3.out)).mono ?_
  rintro e w4 ⟨v4, e4, L4, rfl, E4, F4, hO, hB⟩
  obtain ⟨p4, c4, rfl⟩ := hO.val
  have B4 := Lib.hid (below_call (w := w) B3.out hB)
  replace LA := Lib.hid (LA.out.after hB)
  replace HT := Lib.hid (HT.out.after hB)
  replace O2 := Lib.hid (O2.out.after hB)
  replace O3 := Lib.hid (O3.out.after hB)
  have O4 := Lib.hid hO
  clear hO x0 x1 x2
  clear hB
  have x0 := LA.out.at_ (i := 0) (v := .int .i64 a.lv) rfl
  have x1 := LA.out.at_ (i := 1) (v := .int .u64 (u a.c)) rfl
  have x2 := LA.out.at_ (i := 2) (v := .int .i64 a.ig) rfl
  go_wp2_with fail
  refine (rrefund_at _ L a n _ HT.out HLE.out).mono ?_
  rintro e w5 ⟨v5, e5, L5, rfl, E5, F5, hO, hB⟩
  obtain ⟨p5, c5, rfl⟩ := hO.val
  obtain rfl : e5 = e4 := by rw [E5.out, E4.out]
  have B5 := Lib.hid (below_call (w := w) B4.out hB)
  replace LA := Lib.hid (LA.out.after hB)
  replace HT := Lib.hid (HT.out.after hB)
  replace O2 := Lib.hid (O2.out.after hB)
  replace O3 := Lib.hid (O3.out.after hB)
  replace O4 := Lib.hid (O4.out.after hB)
  have O5 := Lib.hid hO
  clear hO x0 x1 x2
  clear hB
  go_wp2_with fail
  refine (rsame_yes _ _ L2 L3 _ O2.out.lns O3.out.lns (by rw [F2.out, F3.out])).mono ?_
  rintro e w6 ⟨rfl, hB⟩
  have B6 := Lib.hid (below_call (w := w) B5.out hB)
  replace LA := Lib.hid (LA.out.after hB)
  replace HT := Lib.hid (HT.out.after hB)
  replace O2 := Lib.hid (O2.out.after hB)
  replace O3 := Lib.hid (O3.out.after hB)
  replace O4 := Lib.hid (O4.out.after hB)
  replace O5 := Lib.hid (O5.out.after hB)
  clear hB
  go_wp2_with fail
  refine (rsame_yes _ _ L4 L5 _ O4.out.lns O5.out.lns (by rw [F4.out, F5.out])).mono ?_
  rintro e w7 ⟨rfl, hB⟩
  have B7 := Lib.hid (below_call (w := w) B6.out hB)
  replace LA := Lib.hid (LA.out.after hB)
  replace HT := Lib.hid (HT.out.after hB)
  replace O2 := Lib.hid (O2.out.after hB)
  replace O3 := Lib.hid (O3.out.after hB)
  replace O4 := Lib.hid (O4.out.after hB)
  replace O5 := Lib.hid (O5.out.after hB)
  clear hB
  go_wp2_with fail
  go_ret
  exact ⟨rfl, B7.out⟩
end Go.Proofs.YtbggaijjgnjknaaDoor
