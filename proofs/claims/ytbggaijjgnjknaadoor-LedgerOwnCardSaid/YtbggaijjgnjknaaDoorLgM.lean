/-
  PACKAGE ledger: Same; the reference's Same; the statements' shown, Few.
-/
import Derived.Test.YtbggaijjgnjknaaDoorLgL
import Derived.Test.YtbggaijjgnjknaaDoorClose
namespace Go.Proofs.YtbggaijjgnjknaaDoor
open Go.RowKit

attribute [local go_sem] u_and u_or u_andNot u_add u_sub u_bit u_eq_zero u_beq

theorem below_drewN {B : Nat} {a w : World} (h : Below B a w) (n : Nat) : Below B a (w.drewN n) := h.trans ⟨rfl, rfl, rfl, Nat.le_refl _, fun _ _ => rfl⟩
theorem neq_ln (x y : Ln) (w : World) : (binOp .neq 42 (.agg #[.int .i64 x.a.lv, .int .u64 (u x.a.c), .int .i64 x.a.ig, .int .i64 x.n]) (.agg #[.int .i64 y.a.lv, .int .u64 (u y.a.c), .int .i64 y.a.ig, .int .i64 y.n])).run Tryd.prog w = .ok (.bool (!decide (x = y))) w := by
  have e : decide (x = y) = eqLn x y := by
    by_cases h : x = y
    · rw [decide_eq_true h, (eqLn_iff.2 h)]
    · rw [decide_eq_false h]; cases hq : eqLn x y
      · rfl
      · exact absurd (eqLn_iff.1 hq) h
  rw [e]
  obtain ⟨a, n⟩ := x
  obtain ⟨b, m⟩ := y
  by_cases h1 : a.lv = b.lv <;> by_cases h2 : a.c = b.c <;> by_cases h3 : a.ig = b.ig <;> by_cases h4 : n = m <;> go_simp <;> simp [eqLn, eqL, h1, h2, h3, h4]
set_option maxRecDepth 100000 in
set_option maxHeartbeats 8000000 in
theorem Equal_w (v0 v1 : Value) (a b : List Ln) (w : World) (ha : LnsAt w v0 a) (hb : LnsAt w v1 b) :
    Calls Tryd.prog 35 #[v0, v1] w fun e w' => e = .returned (.bool (decide (a = b))) ∧ Below w.heap.size w w' := by
  obtain ⟨p0, c0, rfl, h0, h0', _⟩ := ha.slice
  obtain ⟨p1, c1, rfl, _, _, _⟩ := hb.slice
  have HA := Lib.hid ha
  have HB := Lib.hid hb
  clear ha hb
  by_cases hlen : a.length = b.length
  · go_enter Tryd.func35, Tryd.ntmps35
    have HL := Lib.hid hlen
    rw [← hlen]
    clear hlen
    go_wp2_with fail
    go_loopw [13] (fun s wr => ∃ (j : Nat), s = .int .i64 j ∧ j ≤ a.length ∧ (∀ k, k < j → a[k]? = b[k]?) ∧ Below w.heap.size w wr) (fun s _ => a.length - (intOf s).toNat)
    case atStart => exact ⟨0, rfl, Nat.zero_le _, fun k hk => absurd hk (by omega), Below.refl _ _⟩
    case round =>
      obtain ⟨j, rfl, hj, hk, hB⟩ := hrel
      have B := Lib.hid hB
      have HK := Lib.hid hk
      clear hB hk
      by_cases hjn : j < a.length
      · obtain ⟨x, hx⟩ : ∃ x, a[j]? = some x := ⟨_, List.getElem?_eq_getElem hjn⟩
        obtain ⟨y, hy⟩ : ∃ y, b[j]? = some y := ⟨_, List.getElem?_eq_getElem (by have := HL.out; omega)⟩
        obtain ⟨g0, o0, rfl, _, e0⟩ := (HA.out.later B.out B.out.size).el hx (Nat.le_refl _)
        obtain ⟨g1, o1, rfl, _, e1⟩ := (HB.out.later B.out B.out.size).el hy (Nat.le_refl _)
        have q0 : wr.cell? ⟨g0, o0 + j * 4, none⟩ = some (.int .i64 x.a.lv) := e0.at_ (i := 0) rfl
        have q1 : wr.cell? ⟨g0, o0 + j * 4 + 1, none⟩ = some (.int .u64 (u x.a.c)) := e0.at_ (i := 1) rfl
        have q2 : wr.cell? ⟨g0, o0 + j * 4 + 2, none⟩ = some (.int .i64 x.a.ig) := e0.at_ (i := 2) rfl
        have q3 : wr.cell? ⟨g0, o0 + j * 4 + 3, none⟩ = some (.int .i64 x.n) := e0.at_ (i := 3) rfl
        have r0 : wr.cell? ⟨g1, o1 + j * 4, none⟩ = some (.int .i64 y.a.lv) := e1.at_ (i := 0) rfl
        have r1 : wr.cell? ⟨g1, o1 + j * 4 + 1, none⟩ = some (.int .u64 (u y.a.c)) := e1.at_ (i := 1) rfl
        have r2 : wr.cell? ⟨g1, o1 + j * 4 + 2, none⟩ = some (.int .i64 y.a.ig) := e1.at_ (i := 2) rfl
        have r3 : wr.cell? ⟨g1, o1 + j * 4 + 3, none⟩ = some (.int .i64 y.n) := e1.at_ (i := 3) rfl
        have k0 : (0 : Int) ≤ (j : Int) := by omega
        have k1 : (j : Int) < (a.length : Int) := by omega
        have e10 : IntKind.i64.wrap ((j : Int) + 1) = ((j + 1 : Nat) : Int) := wrapI _ (by omega)
        have hE := neq_ln x y
        have HLT := Lib.hid hjn
        have HX := Lib.hid hx
        have HY := Lib.hid hy
        clear e0 e1 hx hy hjn hj
        by_cases hxy : x = y
        · rw [decide_eq_true hxy] at hE
          have HXY := Lib.hid hxy
          clear hxy
          go_wp2_with fail
          go_quiet (fail)
          go_wp2_with fail
          go_roundw
          case rel => exact ⟨j + 1, by first | rfl | go_num, HLT.out, fun k hk => by
            by_cases h : k = j
            · subst h; rw [HX.out, HY.out, HXY.out]
            · exact HK.out k (by omega), below_drewN B.out _⟩
          case measure => have := HLT.out; simp [intOf]; omega
        · rw [decide_eq_false hxy] at hE
          have hr : decide (a = b) = false := decide_eq_false (by
            rintro rfl
            exact hxy (Option.some.inj (HX.out.symm.trans HY.out)))
          have HR := Lib.hid hr
          clear hr hxy
          go_wp2_with fail
          go_quiet (fail)
          go_wp2_with fail
          go_ret
          exact ⟨by rw [HR.out]; rfl, below_drewN B.out _⟩
      · obtain rfl : j = a.length := by omega
        have hr : decide (a = b) = true := decide_eq_true (List.ext_getElem? (fun k => by
          by_cases h : k < a.length
          · exact HK.out k h
          · rw [List.getElem?_eq_none (by omega), List.getElem?_eq_none (by have := HL.out; omega)]))
        have HR := Lib.hid hr
        clear hr hjn hj
        go_wp2_with fail
        go_ret
        exact ⟨by rw [HR.out]; rfl, B.out⟩
  · have hr : decide (a = b) = false := decide_eq_false (fun e => hlen (by rw [e]))
    have h1 : ((a.length : Int) == (b.length : Int)) = false := beq_eq_false_iff_ne.2 (by omega)
    rw [hr]
    clear hr
    go_enter Tryd.func35, Tryd.ntmps35
    go_wp2_with fail
    go_ret
    exact ⟨rfl, Below.refl _ _⟩
set_option maxRecDepth 100000 in
set_option maxHeartbeats 8000000 in
theorem rSame_w (v0 v1 : Value) (a b : List Ln) (w : World) (ha : LnsAt w v0 a) (hb : LnsAt w v1 b) :
    Calls Tryd.prog 17 #[v0, v1] w fun e w' => e = .returned (.bool (decide (a = b))) ∧ Below w.heap.size w w' := by
  obtain ⟨p0, c0, rfl, h0, h0', _⟩ := ha.slice
  obtain ⟨p1, c1, rfl, _, _, _⟩ := hb.slice
  have HA := Lib.hid ha
  have HB := Lib.hid hb
  clear ha hb
  by_cases hlen : a.length = b.length
  · go_enter Tryd.func17, Tryd.ntmps17
    have HL := Lib.hid hlen
    rw [← hlen]
    clear hlen
    go_wp2_with fail
    go_loopw [5] (fun s wr => ∃ (j : Nat), s = .int .i64 j ∧ j ≤ a.length ∧ (∀ k, k < j → a[k]? = b[k]?) ∧ Below w.heap.size w wr) (fun s _ => a.length - (intOf s).toNat)
    case atStart => exact ⟨0, rfl, Nat.zero_le _, fun k hk => absurd hk (by omega), Below.refl _ _⟩
    case round =>
      obtain ⟨j, rfl, hj, hk, hB⟩ := hrel
      have B := Lib.hid hB
      have HK := Lib.hid hk
      clear hB hk
      by_cases hjn : j < a.length
      · obtain ⟨x, hx⟩ : ∃ x, a[j]? = some x := ⟨_, List.getElem?_eq_getElem hjn⟩
        obtain ⟨y, hy⟩ : ∃ y, b[j]? = some y := ⟨_, List.getElem?_eq_getElem (by have := HL.out; omega)⟩
        obtain ⟨g0, o0, rfl, _, e0⟩ := (HA.out.later B.out B.out.size).el hx (Nat.le_refl _)
        obtain ⟨g1, o1, rfl, _, e1⟩ := (HB.out.later B.out B.out.size).el hy (Nat.le_refl _)
        have q0 : wr.cell? ⟨g0, o0 + j * 4, none⟩ = some (.int .i64 x.a.lv) := e0.at_ (i := 0) rfl
        have q1 : wr.cell? ⟨g0, o0 + j * 4 + 1, none⟩ = some (.int .u64 (u x.a.c)) := e0.at_ (i := 1) rfl
        have q2 : wr.cell? ⟨g0, o0 + j * 4 + 2, none⟩ = some (.int .i64 x.a.ig) := e0.at_ (i := 2) rfl
        have q3 : wr.cell? ⟨g0, o0 + j * 4 + 3, none⟩ = some (.int .i64 x.n) := e0.at_ (i := 3) rfl
        have r0 : wr.cell? ⟨g1, o1 + j * 4, none⟩ = some (.int .i64 y.a.lv) := e1.at_ (i := 0) rfl
        have r1 : wr.cell? ⟨g1, o1 + j * 4 + 1, none⟩ = some (.int .u64 (u y.a.c)) := e1.at_ (i := 1) rfl
        have r2 : wr.cell? ⟨g1, o1 + j * 4 + 2, none⟩ = some (.int .i64 y.a.ig) := e1.at_ (i := 2) rfl
        have r3 : wr.cell? ⟨g1, o1 + j * 4 + 3, none⟩ = some (.int .i64 y.n) := e1.at_ (i := 3) rfl
        have k0 : (0 : Int) ≤ (j : Int) := by omega
        have k1 : (j : Int) < (a.length : Int) := by omega
        have e10 : IntKind.i64.wrap ((j : Int) + 1) = ((j + 1 : Nat) : Int) := wrapI _ (by omega)
        have hE := neq_ln x y
        have HLT := Lib.hid hjn
        have HX := Lib.hid hx
        have HY := Lib.hid hy
        clear e0 e1 hx hy hjn hj
        by_cases hxy : x = y
        · rw [decide_eq_true hxy] at hE
          have HXY := Lib.hid hxy
          clear hxy
          go_wp2_with fail
          go_quiet (fail)
          go_wp2_with fail
          go_roundw
          case rel => exact ⟨j + 1, by first | rfl | go_num, HLT.out, fun k hk => by
            by_cases h : k = j
            · subst h; rw [HX.out, HY.out, HXY.out]
            · exact HK.out k (by omega), below_drewN B.out _⟩
          case measure => have := HLT.out; simp [intOf]; omega
        · rw [decide_eq_false hxy] at hE
          have hr : decide (a = b) = false := decide_eq_false (by
            rintro rfl
            exact hxy (Option.some.inj (HX.out.symm.trans HY.out)))
          have HR := Lib.hid hr
          clear hr hxy
          go_wp2_with fail
          go_quiet (fail)
          go_wp2_with fail
          go_ret
          exact ⟨by rw [HR.out]; rfl, below_drewN B.out _⟩
      · obtain rfl : j = a.length := by omega
        have hr : decide (a = b) = true := decide_eq_true (List.ext_getElem? (fun k => by
          by_cases h : k < a.length
          · exact HK.out k h
          · rw [List.getElem?_eq_none (by omega), List.getElem?_eq_none (by have := HL.out; omega)]))
        have HR := Lib.hid hr
        clear hr hjn hj
        go_wp2_with fail
        go_ret
        exact ⟨by rw [HR.out]; rfl, B.out⟩
  · have hr : decide (a = b) = false := decide_eq_false (fun e => hlen (by rw [e]))
    have h1 : ((a.length : Int) == (b.length : Int)) = false := beq_eq_false_iff_ne.2 (by omega)
    rw [hr]
    clear hr
    go_enter Tryd.func17, Tryd.ntmps17
    go_wp2_with fail
    go_ret
    exact ⟨rfl, Below.refl _ _⟩
theorem LSame_w (v0 v1 : Value) (a b : List Ln) (w : World) (ha : LnsAt w v0 a) (hb : LnsAt w v1 b) :
    Calls Tryd.prog 18 #[v0, v1] w fun e w' => e = .returned (.bool (decide (a = b))) ∧ Below w.heap.size w w' := by
  have HA := Lib.hid ha
  have HB := Lib.hid hb
  clear ha hb
  go_enter Tryd.func18, Tryd.ntmps18
  go_wp2_with fail
  refine (Equal_w v0 v1 a b w HA.out HB.out).mono ?_
  rintro e w' ⟨rfl, hB⟩
  have B := Lib.hid hB
  clear hB
  go_wp2_with fail
  go_ret
  exact ⟨rfl, B.out⟩
theorem few_w (v : Value) (l : List Ln) (w : World) (hl : LnsAt w v l) :
    Calls Tryd.prog 12 #[v] w fun e w' => ∃ v', e = .returned v' ∧ LnsAt w v' (l.take 42) ∧ w = w' := by
  obtain ⟨A, c, rfl, hc, h63, _⟩ := hl.slice
  by_cases h : l.length ≤ 42
  · have hm : (42 : Int) < (l.length : Int) → False := by omega
    have hT : LnsAt w (.slice A l.length c) (l.take 42) := by rw [List.take_of_length_le (by omega)]; exact hl
    have HT := Lib.hid hT
    have e1 : min (l.length : Int) 42 = (l.length : Int) := by omega
    have e3 : (l.length : Int) ≤ 42 := by omega
    have e4 : l.length ≤ 42 := by omega
    have s0 : (0 : Int) ≤ (l.length : Int) := by omega
    have s1 : (l.length : Int) ≤ (c : Int) := by omega
    clear hl hT hm
    go_enter Tryd.func12, Tryd.ntmps12
    go_wp2_with fail
    go_ret
    exact ⟨_, rfl, HT.out, rfl⟩
  · have ht : (l.take 42).length = 42 := by rw [List.length_take]; omega
    have hT : LnsAt w (.slice A 42 c) (l.take 42) := RowsAt.take hl 42 ht (Nat.le_refl c) (by omega)
    have HT := Lib.hid hT
    have e1 : min (l.length : Int) 42 = 42 := by omega
    have e2 : ¬ ((l.length : Int) ≤ 42) := by omega
    have e3 : (42 : Int) ≤ (l.length : Int) := by omega
    have e5 : 42 ≤ l.length := by omega
    have s1 : (42 : Int) ≤ (c : Int) := by omega
    clear hl hT ht h
    go_enter Tryd.func12, Tryd.ntmps12
    go_wp2_with fail
    go_ret
    exact ⟨_, rfl, HT.out, rfl⟩
theorem right_nil : rightLn [] = true := right_iff.2 ⟨trivial, (fun x h => by cases h), Nat.zero_le _⟩
theorem right_one {n : Int} (h : 1 ≤ n ∧ n ≤ 100000) : rightLn [⟨botL, n⟩] = true := by
  refine right_iff.2 ⟨⟨(fun y h => by cases h), trivial⟩, (fun x hx => ?_), by simp⟩
  obtain rfl := List.mem_singleton.1 hx
  unfold okLn
  rw [show okL botL = true from rfl, decide_eq_true h.1, decide_eq_true h.2]; rfl
theorem used_one (n : Int) : usedLn [⟨botL, n⟩] botL = n := rfl
theorem set_nil (a : Lab) {n : Int} (h : n ≠ 0) : setLn [] a n = [⟨a, n⟩] := by unfold setLn lineL; rw [if_neg h]; rfl
theorem set_one (a : Lab) (n m : Int) : setLn [⟨a, n⟩] a m = lineL a m := by
  unfold setLn aheadL behindL
  rw [List.filter_cons, List.filter_cons]
  simp [cmp_self]
theorem sh1 : chargeE [] 9 botL 5 = 0 ∧ chargeL [] 9 botL 5 = [⟨botL, 5⟩] := by
  have h : chargeE [] 9 botL 5 = 0 := by unfold chargeE; rw [if_pos ⟨right_nil, rfl⟩]; decide
  exact ⟨h, by unfold chargeL; rw [if_pos h]; exact set_nil _ (by decide)⟩
theorem sh2 : chargeE [⟨botL, 5⟩] 9 botL 3 = 0 ∧ chargeL [⟨botL, 5⟩] 9 botL 3 = [⟨botL, 8⟩] := by
  have h : chargeE [⟨botL, 5⟩] 9 botL 3 = 0 := by unfold chargeE; rw [if_pos ⟨right_one (by decide), rfl⟩, used_one]; decide
  exact ⟨h, by unfold chargeL; rw [if_pos h, used_one, set_one]; rfl⟩
theorem sh3 : chargeE [⟨botL, 8⟩] 9 botL 2 = 70 := by unfold chargeE; rw [if_pos ⟨right_one (by decide), rfl⟩, used_one]; decide
theorem sh4 : refundE [⟨botL, 8⟩] botL 8 = 0 ∧ refundL [⟨botL, 8⟩] botL 8 = [] := by
  have h : refundE [⟨botL, 8⟩] botL 8 = 0 := by unfold refundE; rw [if_pos ⟨right_one (by decide), rfl⟩, used_one]; decide
  exact ⟨h, by unfold refundL; rw [if_pos h, used_one, set_one]; rfl⟩
theorem sh5 : totalLn [⟨botL, 8⟩] = 8 := by unfold totalLn; rw [if_pos (right_one (by decide))]; rfl
set_option maxRecDepth 100000 in
set_option maxHeartbeats 8000000 in
theorem shown_any (w : World) (hh : Handle w) : Calls Tryd.prog 11 #[] w (Yes w) := by
  have HH := Lib.hid hh
  clear hh
  go_enter Tryd.func11, Tryd.ntmps11
  go_wp2_with fail
  refine (Bottom_any _).mono ?_
  rintro e w1 ⟨rfl, hB⟩
  have B1 := Lib.hid hB
  clear hB
  go_wp2_with fail
  refine (Charge_w _ [] 9 botL 5 _ (RowsAt.nil _ _) (by decide) (HH.out.up B1.out)).mono ?_
  rintro e w2 ⟨v2, rfl, hO, hB⟩
  rw [sh1.1]
  rw [sh1.2] at hO
  obtain ⟨p2, c2, rfl⟩ := hO.val
  have B2 := Lib.hid (below_call (w := w) B1.out hB)
  have O2 := Lib.hid hO
  clear hO hB
  go_wp2_with fail
  refine (Bottom_any _).mono ?_
  rintro e w3 ⟨rfl, hB⟩
  have B3 := Lib.hid (below_call (w := w) B2.out hB)
  have O3 := Lib.hid (O2.out.after hB)
  clear hB
  go_wp2_with fail
  refine (Charge_w _ [⟨botL, 5⟩] 9 botL 3 _ O3.out.lns (by decide) (HH.out.up B3.out)).mono ?_
  rintro e w4 ⟨v4, rfl, hO, hB⟩
  rw [sh2.1]
  rw [sh2.2] at hO
  obtain ⟨p4, c4, rfl⟩ := hO.val
  have B4 := Lib.hid (below_call (w := w) B3.out hB)
  have O4 := Lib.hid hO
  clear hO hB
  go_wp2_with fail
  refine (Bottom_any _).mono ?_
  rintro e w5 ⟨rfl, hB⟩
  have B5 := Lib.hid (below_call (w := w) B4.out hB)
  have O5 := Lib.hid (O4.out.after hB)
  clear hB
  go_wp2_with fail
  refine (Charge_w _ [⟨botL, 8⟩] 9 botL 2 _ O5.out.lns (by decide) (HH.out.up B5.out)).mono ?_
  rintro e w6 ⟨v6, rfl, hO, hB⟩
  rw [sh3]
  have B6 := Lib.hid (below_call (w := w) B5.out hB)
  have O6 := Lib.hid (O5.out.after hB)
  clear hO hB
  go_wp2_with fail
  refine (Bottom_any _).mono ?_
  rintro e w7 ⟨rfl, hB⟩
  have B7 := Lib.hid (below_call (w := w) B6.out hB)
  have O7 := Lib.hid (O6.out.after hB)
  clear hB
  go_wp2_with fail
  refine (Refund_w _ [⟨botL, 8⟩] botL 8 _ O7.out.lns (by decide) (HH.out.up B7.out)).mono ?_
  rintro e w8 ⟨v8, rfl, hO, hB⟩
  rw [sh4.1]
  rw [sh4.2] at hO
  obtain ⟨p8, c8, rfl⟩ := hO.val
  have B8 := Lib.hid (below_call (w := w) B7.out hB)
  have O8 := Lib.hid (O7.out.after hB)
  clear hO hB
  obtain ⟨g, cap, cur, hv, hbg, hrow⟩ := O8.out.open (by simp)
  cases hv
  have q3 := (hrow.cell (k := 0) (x := ⟨botL, 8⟩) rfl).at_ (i := 3) (v := .int .i64 8) rfl
  simp only [Nat.zero_mul, Nat.zero_add] at q3
  clear hrow
  go_wp2_with fail
  refine (LTotal_w _ [⟨botL, 8⟩] _ O8.out.lns).mono ?_
  rintro e w9 ⟨rfl, hB⟩
  rw [sh5]
  have B9 := Lib.hid (below_call (w := w) B8.out hB)
  clear hB q3
  go_wp2_with fail
  go_ret
  exact ⟨rfl, B9.out⟩
end Go.Proofs.YtbggaijjgnjknaaDoor
