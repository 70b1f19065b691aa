/-
  STATEMENT LedgerTurns: its walk.
-/
import Derived.Test.YtbggaijjgnjknaaDoorLgN
namespace Go.Proofs.YtbggaijjgnjknaaDoor
open Go.RowKit

theorem cut30 {w : World} {A : Option Addr} {c : Nat} {l : List Ln} (hl : LnsAt w (.slice A l.length c) l) (h : ¬ l.length ≤ 30) : LnsAt w (.slice A 30 c) (l.take 30) ∧ (l.take 30).length = 30 := by
  obtain ⟨A', c', e, hc, _⟩ := hl.slice
  cases e
  have ht : (l.take 30).length = 30 := by rw [List.length_take]; omega
  exact ⟨RowsAt.take hl 30 ht (Nat.le_refl c) (by omega), ht⟩
theorem charge_at (v : Value) (l : List Ln) (q : Int) (a : Lab) (n : Int) (w : World) (hl : LnsAt w v l) (hle : l.length ≤ 900) (hh : Handle w) :
    Calls Tryd.prog 13 #[v, .int .i64 q, .agg #[.int .i64 a.lv, .int .u64 (u a.c), .int .i64 a.ig], .int .i64 n] w fun e w' => ∃ v' e' L', e = .returned (.tuple #[v', .int .i64 e']) ∧ Hid (e' = chargeE l q a n) ∧ Hid (L' = chargeL l q a n) ∧ OwnL w.heap.size w' v' L' ∧ Below w.heap.size w w' :=
  (Charge_w v l q a n w hl hle hh).mono (fun _ _ ⟨v', h1, h2, h3⟩ => ⟨v', _, _, h1, Lib.hid rfl, Lib.hid rfl, h2, h3⟩)
theorem refund_at (v : Value) (l : List Ln) (a : Lab) (n : Int) (w : World) (hl : LnsAt w v l) (hle : l.length ≤ 900) (hh : Handle w) :
    Calls Tryd.prog 15 #[v, .agg #[.int .i64 a.lv, .int .u64 (u a.c), .int .i64 a.ig], .int .i64 n] w fun e w' => ∃ v' e' L', e = .returned (.tuple #[v', .int .i64 e']) ∧ Hid (e' = refundE l a n) ∧ Hid (L' = refundL l a n) ∧ OwnL w.heap.size w' v' L' ∧ Below w.heap.size w w' :=
  (Refund_w v l a n w hl hle hh).mono (fun _ _ ⟨v', h1, h2, h3⟩ => ⟨v', _, _, h1, Lib.hid rfl, Lib.hid rfl, h2, h3⟩)
theorem len_one {l m : List Ln} {q : Int} {a : Lab} {n : Int} (e : m = chargeL l q a n) (h : l.length ≤ 42) : m.length ≤ 900 := by rw [e]; have := charge_len l q a n; omega
theorem turns_end {l L2 L3 L4 L5 : List Ln} {q n m e2 e3 e4 e5 : Int} {a b : Lab} (hl : l.length ≤ 900)
    (E2 : e2 = chargeE l q a n) (F2 : L2 = chargeL l q a n) (E3 : e3 = chargeE L2 q b m) (F3 : L3 = chargeL L2 q b m)
    (E4 : e4 = chargeE l q b m) (F4 : L4 = chargeL l q b m) (E5 : e5 = chargeE L4 q a n) (F5 : L5 = chargeL L4 q a n) :
    (e2 = 0 → e3 = 0 → e4 = 0 ∧ e5 = 0 ∧ L3 = L5) ∧ (e4 = 0 → e5 = 0 → e2 = 0 ∧ e3 = 0) := by
  subst E2 F2 E3 F3 E4 F4 E5 F5
  refine ⟨fun h1 h2 => ?_, fun h1 h2 => ?_⟩
  · exact turns_law hl h1 h2
  · obtain ⟨g1, g2, _⟩ := turns_law hl h1 h2
    exact ⟨g1, g2⟩
set_option maxRecDepth 100000 in
set_option maxHeartbeats 16000000 in
theorem turns_walk (v : Value) (l : List Ln) (q : Int) (a b : Lab) (n m : Int) (w : World) (hh : Handle w) (hl : LnsAt w v l) :
    Calls Tryd.prog 5 #[v, .int .i64 q, .agg #[.int .i64 a.lv, .int .u64 (u a.c), .int .i64 a.ig], .agg #[.int .i64 b.lv, .int .u64 (u b.c), .int .i64 b.ig], .int .i64 n, .int .i64 m] w (Yes w) := by
  have HH := Lib.hid hh
  obtain ⟨A, c, rfl, hc, h63, _⟩ := hl.slice
  have HL := Lib.hid hl
  clear hh hl
  have s0 : (0 : Int) ≤ (l.length : Int) := by omega
  have s1 : (l.length : Int) ≤ (c : Int) := by omega
  by_cases h : l.length ≤ 30
  · have f1 : min (l.length : Int) 30 = (l.length : Int) := by omega
    have f2 : (l.length : Int) ≤ 30 := by omega
    have ht := Lib.hid (show LnsAt w (.slice A l.length c) l ∧ l.length ≤ 42 from ⟨HL.out, by omega⟩)
    go_enter Tryd.func5, Tryd.ntmps5
    go_wp2_with fail
    refine (shown_any _ (HH.out.up (below_alloc (below_alloc (Below.refl _ _) _) _))).mono ?_
    rintro e w1 ⟨rfl, hB⟩
    have B1 := Lib.hid (below_call (w := w) (below_alloc (below_alloc (Below.refl _ _) _) _) hB)
    have LA1 := Lib.hid (((Blk.new' rfl : Blk (w.alloc (.cells #[.int .i64 a.lv, .int .u64 (u a.c), .int .i64 a.ig] 25)) w.heap.size 25 #[.int .i64 a.lv, .int .u64 (u a.c), .int .i64 a.ig]).alloc (.cells #[.int .i64 b.lv, .int .u64 (u b.c), .int .i64 b.ig] 25)).after hB)
    have LB1 := Lib.hid ((Blk.new' (by simp) : Blk ((w.alloc (.cells #[.int .i64 a.lv, .int .u64 (u a.c), .int .i64 a.ig] 25)).alloc (.cells #[.int .i64 b.lv, .int .u64 (u b.c), .int .i64 b.ig] 25)) (w.heap.size + 1) 25 #[.int .i64 b.lv, .int .u64 (u b.c), .int .i64 b.ig]).after hB)
    clear hB
    have x0 := LA1.out.at_ (i := 0) (v := .int .i64 a.lv) rfl
    have x1 := LA1.out.at_ (i := 1) (v := .int .u64 (u a.c)) rfl
    have x2 := LA1.out.at_ (i := 2) (v := .int .i64 a.ig) rfl
    go_wp2_with fail
    refine (charge_at _ l q a n _ (ht.out.1.later B1.out B1.out.size) (Nat.le_trans ht.out.2 (by decide)) (HH.out.up B1.out)).mono ?_
    rintro e w2 ⟨v2, e2, L2, rfl, E2, F2, hO, hB⟩
    obtain ⟨p2, c2, rfl⟩ := hO.val
    have B2 := Lib.hid (below_call (w := w) B1.out hB)
    have O2 := Lib.hid hO
    have LA2 := Lib.hid (LA1.out.after hB)
    have LB2 := Lib.hid (LB1.out.after hB)
    clear s0 s1 f1 f2 hc h63 h hO hB x0 x1 x2
    have x0 := LB2.out.at_ (i := 0) (v := .int .i64 b.lv) rfl
    have x1 := LB2.out.at_ (i := 1) (v := .int .u64 (u b.c)) rfl
    have x2 := LB2.out.at_ (i := 2) (v := .int .i64 b.ig) rfl
    go_wp2_with fail
    refine (charge_at _ L2 q b m _ (O2.out.lns) (len_one F2.out ht.out.2) (HH.out.up B2.out)).mono ?_
    rintro e w3 ⟨v3, e3, L3, rfl, E3, F3, hO, hB⟩
    obtain ⟨p3, c3, rfl⟩ := hO.val
    have B3 := Lib.hid (below_call (w := w) B2.out hB)
    have O3 := Lib.hid hO
    have LA3 := Lib.hid (LA2.out.after hB)
    have LB3 := Lib.hid (LB2.out.after hB)
    replace O2 := Lib.hid (O2.out.after hB)
    clear hO hB x0 x1 x2
    have x0 := LB3.out.at_ (i := 0) (v := .int .i64 b.lv) rfl
    have x1 := LB3.out.at_ (i := 1) (v := .int .u64 (u b.c)) rfl
    have x2 := LB3.out.at_ (i := 2) (v := .int .i64 b.ig) rfl
    go_wp2_with fail
    refine (charge_at _ l q b m _ (ht.out.1.later B3.out B3.out.size) (Nat.le_trans ht.out.2 (by decide)) (HH.out.up B3.out)).mono ?_
    rintro e w4 ⟨v4, e4, L4, rfl, E4, F4, hO, hB⟩
    obtain ⟨p4, c4, rfl⟩ := hO.val
    have B4 := Lib.hid (below_call (w := w) B3.out hB)
    have O4 := Lib.hid hO
    have LA4 := Lib.hid (LA3.out.after hB)
    have LB4 := Lib.hid (LB3.out.after hB)
    replace O2 := Lib.hid (O2.out.after hB)
    replace O3 := Lib.hid (O3.out.after hB)
    clear hO hB x0 x1 x2
    have x0 := LA4.out.at_ (i := 0) (v := .int .i64 a.lv) rfl
    have x1 := LA4.out.at_ (i := 1) (v := .int .u64 (u a.c)) rfl
    have x2 := LA4.out.at_ (i := 2) (v := .int .i64 a.ig) rfl
    go_wp2_with fail
    refine (charge_at _ L4 q a n _ (O4.out.lns) (len_one F4.out ht.out.2) (HH.out.up B4.out)).mono ?_
    rintro e w5 ⟨v5, e5, L5, rfl, E5, F5, hO, hB⟩
    obtain ⟨p5, c5, rfl⟩ := hO.val
    have B5 := Lib.hid (below_call (w := w) B4.out hB)
    have O5 := Lib.hid hO
    have LA5 := Lib.hid (LA4.out.after hB)
    have LB5 := Lib.hid (LB4.out.after hB)
    replace O2 := Lib.hid (O2.out.after hB)
    replace O3 := Lib.hid (O3.out.after hB)
    replace O4 := Lib.hid (O4.out.after hB)
    clear hO hB x0 x1 x2
    obtain ⟨hok, hno⟩ := turns_end (Nat.le_trans ht.out.2 (by decide)) E2.out F2.out E3.out F3.out E4.out F4.out E5.out F5.out
    clear ht E2 F2 E3 F3 E4 F4 E5 F5 HL
    by_cases z1 : e2 = 0
    · by_cases z2 : e3 = 0
      · obtain ⟨g1, g2, g3⟩ := hok z1 z2
        subst z1 z2 g1 g2
        have HS := Lib.hid g3
        clear hok hno g3
        go_wp2_with fail
        refine (LSame_w _ _ _ _ _ O3.out.lns O5.out.lns).mono ?_
        rintro e w6 ⟨rfl, hB⟩
        rw [decide_eq_true HS.out]
        have B6 := Lib.hid (below_call (w := w) B5.out hB)
        clear hB
        go_wp2_with fail
        go_ret
        exact ⟨rfl, B6.out⟩
      · subst z1
        have d2 : (e3 == 0) = false := beq_eq_false_iff_ne.2 z2
        by_cases z3 : e4 = 0
        · have z4 : ¬ e5 = 0 := fun e => z2 (hno z3 e).2
          subst z3
          have d4 : (e5 == 0) = false := beq_eq_false_iff_ne.2 z4
          have c4 : (e5 != 0) = true := bne_iff_ne.2 z4
          clear hok hno z2 z4
          go_wp2_with fail
          go_ret
          exact ⟨rfl, B5.out⟩
        · have d3 : (e4 == 0) = false := beq_eq_false_iff_ne.2 z3
          have c3 : (e4 != 0) = true := bne_iff_ne.2 z3
          clear hok hno z2 z3
          go_wp2_with fail
          go_ret
          exact ⟨rfl, B5.out⟩
    · have d1 : (e2 == 0) = false := beq_eq_false_iff_ne.2 z1
      by_cases z3 : e4 = 0
      · have z4 : ¬ e5 = 0 := fun e => z1 (hno z3 e).1
        subst z3
        have d4 : (e5 == 0) = false := beq_eq_false_iff_ne.2 z4
        have c4 : (e5 != 0) = true := bne_iff_ne.2 z4
        clear hok hno z1 z4
        go_wp2_with fail
        go_ret
        exact ⟨rfl, B5.out⟩
      · have d3 : (e4 == 0) = false := beq_eq_false_iff_ne.2 z3
        have c3 : (e4 != 0) = true := bne_iff_ne.2 z3
        clear hok hno z1 z3
        go_wp2_with fail
        go_ret
        exact ⟨rfl, B5.out⟩
  · have f1 : min (l.length : Int) 30 = 30 := by omega
    have f2 : ¬ ((l.length : Int) ≤ 30) := by omega
    have f3 : (30 : Int) ≤ (l.length : Int) := by omega
    have f4 : 30 ≤ l.length := by omega
    have f5 : (30 : Int) ≤ (c : Int) := by omega
    have ht := Lib.hid (show LnsAt w (.slice A 30 c) (l.take 30) ∧ (l.take 30).length ≤ 42 from ⟨(cut30 HL.out h).1, by rw [(cut30 HL.out h).2]; omega⟩)
    go_enter Tryd.func5, Tryd.ntmps5
    go_wp2_with fail
    refine (shown_any _ (HH.out.up (below_alloc (below_alloc (Below.refl _ _) _) _))).mono ?_
    rintro e w1 ⟨rfl, hB⟩
    have B1 := Lib.hid (below_call (w := w) (below_alloc (below_alloc (Below.refl _ _) _) _) hB)
    have LA1 := Lib.hid (((Blk.new' rfl : Blk (w.alloc (.cells #[.int .i64 a.lv, .int .u64 (u a.c), .int .i64 a.ig] 25)) w.heap.size 25 #[.int .i64 a.lv, .int .u64 (u a.c), .int .i64 a.ig]).alloc (.cells #[.int .i64 b.lv, .int .u64 (u b.c), .int .i64 b.ig] 25)).after hB)
    have LB1 := Lib.hid ((Blk.new' (by simp) : Blk ((w.alloc (.cells #[.int .i64 a.lv, .int .u64 (u a.c), .int .i64 a.ig] 25)).alloc (.cells #[.int .i64 b.lv, .int .u64 (u b.c), .int .i64 b.ig] 25)) (w.heap.size + 1) 25 #[.int .i64 b.lv, .int .u64 (u b.c), .int .i64 b.ig]).after hB)
    clear hB
    have x0 := LA1.out.at_ (i := 0) (v := .int .i64 a.lv) rfl
    have x1 := LA1.out.at_ (i := 1) (v := .int .u64 (u a.c)) rfl
    have x2 := LA1.out.at_ (i := 2) (v := .int .i64 a.ig) rfl
    go_wp2_with fail
    refine (charge_at _ (l.take 30) q a n _ (ht.out.1.later B1.out B1.out.size) (Nat.le_trans ht.out.2 (by decide)) (HH.out.up B1.out)).mono ?_
    rintro e w2 ⟨v2, e2, L2, rfl, E2, F2, hO, hB⟩
    obtain ⟨p2, c2, rfl⟩ := hO.val
    have B2 := Lib.hid (below_call (w := w) B1.out hB)
    have O2 := Lib.hid hO
    have LA2 := Lib.hid (LA1.out.after hB)
    have LB2 := Lib.hid (LB1.out.after hB)
    clear s0 s1 f1 f2 f3 f4 f5 hc h63 h hO hB x0 x1 x2
    have x0 := LB2.out.at_ (i := 0) (v := .int .i64 b.lv) rfl
    have x1 := LB2.out.at_ (i := 1) (v := .int .u64 (u b.c)) rfl
    have x2 := LB2.out.at_ (i := 2) (v := .int .i64 b.ig) rfl
    go_wp2_with fail
    refine (charge_at _ L2 q b m _ (O2.out.lns) (len_one F2.out ht.out.2) (HH.out.up B2.out)).mono ?_
    rintro e w3 ⟨v3, e3, L3, rfl, E3, F3, hO, hB⟩
    obtain ⟨p3, c3, rfl⟩ := hO.val
    have B3 := Lib.hid (below_call (w := w) B2.out hB)
    have O3 := Lib.hid hO
    have LA3 := Lib.hid (LA2.out.after hB)
    have LB3 := Lib.hid (LB2.out.after hB)
    replace O2 := Lib.hid (O2.out.after hB)
    clear hO hB x0 x1 x2
    have x0 := LB3.out.at_ (i := 0) (v := .int .i64 b.lv) rfl
    have x1 := LB3.out.at_ (i := 1) (v := .int .u64 (u b.c)) rfl
    have x2 := LB3.out.at_ (i := 2) (v := .int .i64 b.ig) rfl
    go_wp2_with fail
    refine (charge_at _ (l.take 30) q b m _ (ht.out.1.later B3.out B3.out.size) (Nat.le_trans ht.out.2 (by decide)) (HH.out.up B3.out)).mono ?_
    rintro e w4 ⟨v4, e4, L4, rfl, E4, F4, hO, hB⟩
    obtain ⟨p4, c4, rfl⟩ := hO.val
    have B4 := Lib.hid (below_call (w := w) B3.out hB)
    have O4 := Lib.hid hO
    have LA4 := Lib.hid (LA3.out.after hB)
    have LB4 := Lib.hid (LB3.out.after hB)
    replace O2 := Lib.hid (O2.out.after hB)
    replace O3 := Lib.hid (O3.out.after hB)
    clear hO hB x0 x1 x2
    have x0 := LA4.out.at_ (i := 0) (v := .int .i64 a.lv) rfl
    have x1 := LA4.out.at_ (i := 1) (v := .int .u64 (u a.c)) rfl
    have x2 := LA4.out.at_ (i := 2) (v := .int .i64 a.ig) rfl
    go_wp2_with fail
    refine (charge_at _ L4 q a n _ (O4.out.lns) (len_one F4.out ht.out.2) (HH.out.up B4.out)).mono ?_
    rintro e w5 ⟨v5, e5, L5, rfl, E5, F5, hO, hB⟩
    obtain ⟨p5, c5, rfl⟩ := hO.val
    have B5 := Lib.hid (below_call (w := w) B4.out hB)
    have O5 := Lib.hid hO
    have LA5 := Lib.hid (LA4.out.after hB)
    have LB5 := Lib.hid (LB4.out.after hB)
    replace O2 := Lib.hid (O2.out.after hB)
    replace O3 := Lib.hid (O3.out.after hB)
    replace O4 := Lib.hid (O4.out.after hB)
    clear hO hB x0 x1 x2
    obtain ⟨hok, hno⟩ := turns_end (Nat.le_trans ht.out.2 (by decide)) E2.out F2.out E3.out F3.out E4.out F4.out E5.out F5.out
    clear ht E2 F2 E3 F3 E4 F4 E5 F5 HL
    by_cases z1 : e2 = 0
    · by_cases z2 : e3 = 0
      · obtain ⟨g1, g2, g3⟩ := hok z1 z2
        subst z1 z2 g1 g2
        have HS := Lib.hid g3
        clear hok hno g3
        go_wp2_with fail
        refine (LSame_w _ _ _ _ _ O3.out.lns O5.out.lns).mono ?_
        rintro e w6 ⟨rfl, hB⟩
        rw [decide_eq_true HS.out]
        have B6 := Lib.hid (below_call (w := w) B5.out hB)
        clear hB
        go_wp2_with fail
        go_ret
        exact ⟨rfl, B6.out⟩
      · subst z1
        have d2 : (e3 == 0) = false := beq_eq_false_iff_ne.2 z2
        by_cases z3 : e4 = 0
        · have z4 : ¬ e5 = 0 := fun e => z2 (hno z3 e).2
          subst z3
          have d4 : (e5 == 0) = false := beq_eq_false_iff_ne.2 z4
          have c4 : (e5 != 0) = true := bne_iff_ne.2 z4
          clear hok hno z2 z4
          go_wp2_with fail
          go_ret
          exact ⟨rfl, B5.out⟩
        · have d3 : (e4 == 0) = false := beq_eq_false_iff_ne.2 z3
          have c3 : (e4 != 0) = true := bne_iff_ne.2 z3
          clear hok hno z2 z3
          go_wp2_with fail
          go_ret
          exact ⟨rfl, B5.out⟩
    · have d1 : (e2 == 0) = false := beq_eq_false_iff_ne.2 z1
      by_cases z3 : e4 = 0
      · have z4 : ¬ e5 = 0 := fun e => z1 (hno z3 e).1
        subst z3
        have d4 : (e5 == 0) = false := beq_eq_false_iff_ne.2 z4
        have c4 : (e5 != 0) = true := bne_iff_ne.2 z4
        clear hok hno z1 z4
        go_wp2_with fail
        go_ret
        exact ⟨rfl, B5.out⟩
      · have d3 : (e4 == 0) = false := beq_eq_false_iff_ne.2 z3
        have c3 : (e4 != 0) = true := bne_iff_ne.2 z3
        clear hok hno z1 z3
        go_wp2_with fail
        go_ret
        exact ⟨rfl, B5.out⟩
end Go.Proofs.YtbggaijjgnjknaaDoor
