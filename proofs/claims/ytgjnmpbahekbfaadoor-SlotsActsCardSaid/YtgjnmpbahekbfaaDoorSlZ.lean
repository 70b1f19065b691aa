/-
  STATEMENT SlotsLeast: plain laws on what is live; its walk.
-/
import Derived.Test.YtgjnmpbahekbfaaDoorSlRd
import Derived.Test.YtgjnmpbahekbfaaDoorOpenI
namespace Go.Proofs.YtgjnmpbahekbfaaDoor
open Go.RowKit

theorem live_prefix (gen : List Int) (tk : List Bool) (k : Nat) : ∀ d, ∃ r, liveTo gen tk (k + d) = liveTo gen tk k ++ r
  | 0 => ⟨[], by simp⟩
  | d + 1 => by
    obtain ⟨r, hr⟩ := live_prefix gen tk k d
    refine ⟨r ++ [k + d].filterMap (liveAt gen tk), ?_⟩
    have : liveTo gen tk (k + (d + 1)) = liveTo gen tk (k + d) ++ [k + d].filterMap (liveAt gen tk) := by
      unfold liveTo; rw [← Nat.add_assoc, List.range_succ, List.filterMap_append]
    rw [this, hr, List.append_assoc]
theorem lead_self {gen : List Int} {tk : List Bool} : ∀ q, q ≤ gen.length → (∀ j, j < q → tk[j]? = some true) → (liveTo gen tk q).length = q ∧ ∀ j, j < q → ∃ g, (liveTo gen tk q)[j]? = some ⟨j, g⟩
  | 0, _, _ => ⟨rfl, fun j h => absurd h (by omega)⟩
  | q + 1, hq, h => by
    obtain ⟨h1, h2⟩ := lead_self (gen := gen) (tk := tk) q (by omega) (fun j hj => h j (by omega))
    obtain ⟨g, hg⟩ : ∃ g, gen[q]? = some g := ⟨_, List.getElem?_eq_getElem (by omega)⟩
    rw [liveTo_yes (h q (by omega)) hg]
    refine ⟨by rw [List.length_append, h1]; rfl, fun j hj => ?_⟩
    by_cases e : j < q
    · rw [List.getElem?_append_left (show j < (liveTo gen tk q).length by omega)]; exact h2 j e
    · obtain rfl : j = q := by omega
      exact ⟨g, by rw [List.getElem?_append_right (show (liveTo gen tk j).length ≤ j by omega), h1, Nat.sub_self]; rfl⟩
theorem lead_get {gen : List Int} {tk : List Bool} {q m : Nat} (hq : q ≤ m) (hm : m ≤ gen.length) (h : ∀ j, j < q → tk[j]? = some true) {j : Nat} (hj : j < q) : ∃ g, (liveTo gen tk m)[j]? = some ⟨j, g⟩ := by
  obtain ⟨h1, h2⟩ := lead_self (gen := gen) (tk := tk) q (by omega) h
  obtain ⟨r, hr⟩ := live_prefix gen tk q (m - q)
  rw [show q + (m - q) = m by omega] at hr
  rw [hr, List.getElem?_append_left (show j < (liveTo gen tk q).length by omega)]
  exact h2 j hj
theorem lead_more {tk : List Bool} {q : Nat} (h : ∀ j, j < q → tk[j]? = some true) (hb : tk[q]? = some true) : ∀ j, j < q + 1 → tk[j]? = some true := by
  intro j hj
  by_cases e : j < q
  · exact h j e
  · obtain rfl : j = q := by omega
    exact hb
theorem repl_le (m : Nat) : ∀ (j : Nat) (g : Int), (List.replicate m (0 : Int))[j]? = some g → g ≤ ((0 : Nat) : Int) := by
  intro j g h
  rw [List.getElem?_replicate] at h
  split at h
  · cases h; decide
  · cases h
theorem up_le {gen : List Int} {i : Nat} (h : ∀ (j : Nat) (g : Int), gen[j]? = some g → g ≤ (i : Int)) : ∀ (j : Nat) (g : Int), gen[j]? = some g → g ≤ ((i + 1 : Nat) : Int) := fun j g e => by have := h j g e; omega
theorem set_le {gen : List Int} {i q : Nat} {x : Int} (h : ∀ (j : Nat) (g : Int), gen[j]? = some g → g ≤ (i : Int)) (hx : x ≤ (i : Int)) : ∀ (j : Nat) (g : Int), (gen.set q (x + 1))[j]? = some g → g ≤ ((i + 1 : Nat) : Int) := by
  intro j g e
  rw [List.getElem?_set] at e
  split at e
  · split at e
    · cases e; omega
    · cases e
  · exact up_le h j g e
theorem row_cell1 {B : Nat} {w : World} {b off m c : Nat} {l : List Int} (h : RowsAt encI 1 B w (.slice (some ⟨b, off, none⟩) m c) l) {k : Nat} {x : Int} (hx : l[k]? = some x) (hB : B ≤ w.heap.size) : w.cell? ⟨b, off + k, none⟩ = some (.int .i64 x) := by
  obtain ⟨b', off', e, _, he⟩ := h.el hx hB
  cases e
  have := he.at_ (i := 0) (v := .int .i64 x) rfl
  rwa [Nat.mul_one] at this
set_option maxRecDepth 100000 in
set_option maxHeartbeats 16000000 in
theorem least_walk (n : Int) (l : List Int) (v0 : Value) (ea eb : Addr) (w : World) (he : SentS w ea eb) (hl : RowsAt encI 1 w.heap.size w v0 l) :
    Calls Tryd.prog 4 #[.int .i64 n, v0] w (Yes w) := by
  have HE := Lib.hid he
  obtain ⟨A, cA, rfl, _, hsc, _⟩ := hl.slice
  have HL := Lib.hid hl
  clear he hl
  by_cases hn : n < 1 ∨ 64 < n
  · have HN := Lib.hid hn
    clear hn
    go_enter Tryd.func4, Tryd.ntmps4
    go_wp2_with fail
    refine (shown_any ea eb w HE.out).mono ?_
    rintro e w1 ⟨rfl, hB⟩
    have B := Lib.hid hB
    clear hB
    go_wp2_with fail
    refine (New_bad n w1 HN.out).mono ?_
    rintro e w2 ⟨rfl, rfl⟩
    go_wp2_with fail
    go_ret
    exact ⟨rfl, B.out⟩
  · obtain ⟨m, rfl⟩ : ∃ m : Nat, n = m := ⟨n.toNat, by omega⟩
    have m1 : Hid (1 ≤ m) := Lib.hid (by omega)
    have m2 : Hid (m ≤ 64) := Lib.hid (by omega)
    clear hn
    go_enter Tryd.func4, Tryd.ntmps4
    go_wp2_with fail
    refine (shown_any ea eb w HE.out).mono ?_
    rintro e w1 ⟨rfl, hB⟩
    have B := Lib.hid hB
    clear hB
    go_wp2_with fail
    refine (New_w m w1 m1.out m2.out).mono ?_
    rintro e w2 ⟨sb, gb, tb, v, rfl, hW, hB, h1, h2, h3⟩
    have B2 := Lib.hid (below_call B.out hB)
    have W2 := Lib.hid hW
    have hw := B.out.size
    have HM : Hid (w.heap.size ≤ sb ∧ w.heap.size ≤ gb ∧ w.heap.size ≤ tb ∧ w.heap.size ≤ w1.heap.size + 3) := Lib.hid ⟨by omega, by omega, by omega, by omega⟩
    obtain ⟨base, hbase⟩ : ∃ base, base = w1.heap.size + 3 := ⟨_, rfl⟩
    rw [← hbase] at W2 HM
    have HA : Hid (Above ea eb base sb gb tb) := Lib.hid ⟨w.heap.size, HE.out.lt, HM.out⟩
    clear hB hW h1 h2 h3 hw hbase
    go_wp2_with fail
    go_loopw [8] (fun iv wr => ∃ (i : Nat) (vr : Value) (gen : List Int) (tk : List Bool), iv = .int .i64 i ∧ i ≤ l.length ∧ i ≤ 100 ∧ Well base wr sb gb tb vr m gen tk ∧ (∀ (j : Nat) (g : Int), gen[j]? = some g → g ≤ (i : Int)) ∧ Below w.heap.size w wr) (fun iv _ => (l.length - (intOf iv).toNat))
    case atStart => exact ⟨0, v, _, _, rfl, Nat.zero_le _, by omega, W2.out, repl_le m, B2.out⟩
    case round =>
      obtain ⟨i, vr, gen, tk, rfl, hi, hi1, hW, hG, hB⟩ := hrel
      have BR := Lib.hid hB
      have WR := Lib.hid hW
      have HGB := Lib.hid hG
      have hlw : gen.length = m ∧ tk.length = m := by obtain ⟨_, _, _, G⟩ := hW; exact ⟨G.gl, G.tl⟩
      have HLW := Lib.hid hlw
      clear hB hW hG hlw
      by_cases hil : i < l.length
      · by_cases h100 : i = 100
        · subst h100
          have f1 : decide (((100 : Nat) : Int) < (l.length : Int)) = true := decide_eq_true (by omega)
          have f2 : (100 : Int) < (l.length : Int) := by omega
          clear hi hi1 hil
          go_wp2_with fail
          go_ret
          exact ⟨rfl, BR.out⟩
        · have f0 : (0 : Int) ≤ (i : Int) := by omega
          have f1 : (i : Int) < (l.length : Int) := by omega
          have f2 : decide ((i : Int) < 100) = true := decide_eq_true (by omega)
          have e10 : IntKind.i64.wrap ((i : Int) + 1) = ((i + 1 : Nat) : Int) := by simp [IntKind.wrap, IntKind.bits, IntKind.signed]; omega
          have HI : Hid (i + 1 ≤ l.length ∧ i + 1 ≤ 100) := Lib.hid ⟨by omega, by omega⟩
          obtain ⟨z, hz⟩ : ∃ z, l[i]? = some z := ⟨_, List.getElem?_eq_getElem hil⟩
          have HZ := Lib.hid hz
          obtain ⟨lb, off, rfl, _, _⟩ := HL.out.el hz (Nat.le_refl _)
          clear hi hi1 hil h100 hz
          go_wp2_with fail
          refine (All_w base sb gb tb vr m gen tk _ WR.out).mono ?_
          rintro e w3 ⟨v3, rfl, hR, hB⟩
          have D3 := Lib.hid (HdsAt.of hR)
          obtain ⟨p3, c3, rfl⟩ := ownsRow_val hR
          have B3 := Lib.hid (below_call (w := w) BR.out hB)
          have W3 := Lib.hid (WR.out.after hB)
          have hlen := liveTo_len gen tk m
          have HLN := Lib.hid hlen
          clear hR hB hlen
          go_wp2_with fail
          go_loopw [10] (fun qv wx => ∃ q : Nat, qv = .int .i64 q ∧ q ≤ m ∧ (∀ j, j < q → tk[j]? = some true) ∧ w3 = wx) (fun qv _ => (m - (intOf qv).toNat))
          case atStart => exact ⟨0, rfl, Nat.zero_le _, fun j h => absurd h (by omega), rfl⟩
          case round =>
            obtain ⟨q, rfl, hq, hT, rfl⟩ := hrel
            have HQ := Lib.hid hT
            have g0 : (0 : Int) ≤ (q : Int) := by omega
            clear hT
            by_cases hqm : q < m
            · obtain ⟨b, hb⟩ : ∃ b, tk[q]? = some b := ⟨_, List.getElem?_eq_getElem (by have := HLW.out; omega)⟩
              obtain ⟨x, hx⟩ : ∃ x, gen[q]? = some x := ⟨_, List.getElem?_eq_getElem (by have := HLW.out; omega)⟩
              cases b
              · have HX := Lib.hid (HGB.out q x hx)
                have HT : Hid (tk[q]? = some false ∧ gen[q]? = some x ∧ x < 1000 ∧ ∀ j, j < q → ¬ FreeAt gen tk j) := Lib.hid ⟨hb, hx, (by have := HX.out; have := HI.out; omega), fun j hj hf => by have := hf.1; rw [HQ.out j hj] at this; cases this⟩
                by_cases hql : q < (liveTo gen tk m).length
                · obtain ⟨y, hy⟩ : ∃ y, (liveTo gen tk m)[q]? = some y := ⟨_, List.getElem?_eq_getElem hql⟩
                  obtain ⟨g3, d3, e3, y0, y1⟩ := D3.out.get hy
                  obtain ⟨rfl, rfl⟩ : p3 = some ⟨g3, 0, none⟩ ∧ c3 = d3 := by cases e3; exact ⟨rfl, rfl⟩
                  have hne : y.slot ≠ (q : Int) := fun e => by
                    obtain ⟨a, _, h1, h2, _⟩ := live_mem_iff.1 (List.mem_of_getElem? hy)
                    obtain rfl : a = q := by omega
                    rw [hb] at h2; cases h2
                  have k0 : (y.slot == (q : Int)) = false := beq_eq_false_iff_ne.2 hne
                  have k1 : (q : Int) < ((liveTo gen tk m).length : Int) := by omega
                  generalize liveTo gen tk m = L3 at *
                  clear hb hx hq hqm hql hy e3 hne
                  go_wp2_with fail
                  refine (Take_w base sb gb tb vr m gen tk q x ea eb _ W3.out (HE.out.up B3.out) HA.out HT.out.1 HT.out.2.1 HT.out.2.2.1 HT.out.2.2.2).mono ?_
                  rintro e w4 ⟨rfl, v4, hW, -, hT⟩
                  have B4 := Lib.hid (W3.out.down hT B3.out HM.out)
                  have W4 := Lib.hid hW
                  clear hW hT
                  have p0 := (Blk.new' (w := w4) (t := 28) (cs := #[.int .i64 q, .int .i64 (x + 1)]) rfl).at_ (i := 0) (v := .int .i64 q) rfl
                  have p1 := (Blk.new' (w := w4) (t := 28) (cs := #[.int .i64 q, .int .i64 (x + 1)]) rfl).at_ (i := 1) (v := .int .i64 (x + 1)) rfl
                  go_wp2_with fail
                  clear p0 p1
                  refine (All_w base sb gb tb v4 m _ _ _ (W4.out.alloc _)).mono ?_
                  rintro e w5 ⟨v5, rfl, hR, hB⟩
                  have D5 := Lib.hid (HdsAt.of hR)
                  obtain ⟨p5, c5, rfl⟩ := ownsRow_val hR
                  have B5 := Lib.hid (below_call (w := w) (below_alloc B4.out _) hB)
                  have W5 := Lib.hid ((W4.out.alloc _).after hB)
                  have HG4 : Hid (∀ (j : Nat) (g : Int), (gen.set q (x + 1))[j]? = some g → g ≤ ((i + 1 : Nat) : Int)) := Lib.hid (set_le HGB.out HX.out)
                  clear hR hB
                  have c0 : w5.cell? ⟨lb, off + i, none⟩ = some (.int .i64 z) := row_cell1 (HL.out.later B5.out B5.out.size) HZ.out (Nat.le_refl _)
                  by_cases z0 : 0 ≤ z
                  · have d0 : decide (0 ≤ z) = true := decide_eq_true z0
                    by_cases z1 : z < ((liveTo (gen.set q (x + 1)) (tk.set q true) m).length : Int)
                    · have d1 : decide (z < ((liveTo (gen.set q (x + 1)) (tk.set q true) m).length : Int)) = true := decide_eq_true z1
                      obtain ⟨k, hk⟩ : ∃ k : Nat, z = k := ⟨z.toNat, by omega⟩
                      obtain ⟨y, hy⟩ : ∃ y, (liveTo (gen.set q (x + 1)) (tk.set q true) m)[k]? = some y := ⟨_, List.getElem?_eq_getElem (by omega)⟩
                      obtain ⟨g5, d5, e5, y0, y1⟩ := D5.out.get hy
                      obtain ⟨rfl, rfl⟩ : p5 = some ⟨g5, 0, none⟩ ∧ c5 = d5 := by cases e5; exact ⟨rfl, rfl⟩
                      obtain ⟨a, _, ha0, ha1, ha2⟩ := live_mem_iff.1 (List.mem_of_getElem? hy)
                      have ht : z.toNat = k := by omega
                      generalize liveTo (gen.set q (x + 1)) (tk.set q true) m = L at *
                      rw [ha0] at y0
                      subst hk
                      clear hy e5 z0 ha0
                      go_wp2_with fail
                      refine (Give_w base sb gb tb v4 m _ _ a y.gen ea eb _ W5.out (HE.out.up B5.out) HA.out ha1 ha2).mono ?_
                      rintro e w6 ⟨rfl, v6, hW, -, hT⟩
                      have B6 := Lib.hid (W5.out.down hT B5.out HM.out)
                      have W6 := Lib.hid hW
                      clear hW hT
                      go_wp2_with fail
                      go_roundw
                      case rel => exact ⟨i + 1, v6, _, _, rfl, HI.out.1, HI.out.2, W6.out, HG4.out, B6.out⟩
                      case measure => have := HI.out.1; simp [intOf]; omega
                    · have d1 : decide (z < ((liveTo (gen.set q (x + 1)) (tk.set q true) m).length : Int)) = false := decide_eq_false z1
                      generalize liveTo (gen.set q (x + 1)) (tk.set q true) m = L at *
                      clear z0 z1
                      go_wp2_with fail
                      go_roundw
                      case rel => exact ⟨i + 1, v4, _, _, rfl, HI.out.1, HI.out.2, W5.out, HG4.out, B5.out⟩
                      case measure => have := HI.out.1; simp [intOf]; omega
                  · have d0 : decide (0 ≤ z) = false := decide_eq_false z0
                    clear z0
                    go_wp2_with fail
                    go_roundw
                    case rel => exact ⟨i + 1, v4, _, _, rfl, HI.out.1, HI.out.2, W5.out, HG4.out, B5.out⟩
                    case measure => have := HI.out.1; simp [intOf]; omega
                · have k1 : decide ((q : Int) < ((liveTo gen tk m).length : Int)) = false := decide_eq_false (by omega)
                  have k2 : ¬ ((q : Int) < ((liveTo gen tk m).length : Int)) := by omega
                  have k3 : decide (q < (liveTo gen tk m).length) = false := decide_eq_false hql
                  generalize liveTo gen tk m = L3 at *
                  clear hb hx hq hqm hql
                  go_wp2_with fail
                  refine (Take_w base sb gb tb vr m gen tk q x ea eb _ W3.out (HE.out.up B3.out) HA.out HT.out.1 HT.out.2.1 HT.out.2.2.1 HT.out.2.2.2).mono ?_
                  rintro e w4 ⟨rfl, v4, hW, -, hT⟩
                  have B4 := Lib.hid (W3.out.down hT B3.out HM.out)
                  have W4 := Lib.hid hW
                  clear hW hT
                  have p0 := (Blk.new' (w := w4) (t := 28) (cs := #[.int .i64 q, .int .i64 (x + 1)]) rfl).at_ (i := 0) (v := .int .i64 q) rfl
                  have p1 := (Blk.new' (w := w4) (t := 28) (cs := #[.int .i64 q, .int .i64 (x + 1)]) rfl).at_ (i := 1) (v := .int .i64 (x + 1)) rfl
                  go_wp2_with fail
                  clear p0 p1
                  refine (All_w base sb gb tb v4 m _ _ _ (W4.out.alloc _)).mono ?_
                  rintro e w5 ⟨v5, rfl, hR, hB⟩
                  have D5 := Lib.hid (HdsAt.of hR)
                  obtain ⟨p5, c5, rfl⟩ := ownsRow_val hR
                  have B5 := Lib.hid (below_call (w := w) (below_alloc B4.out _) hB)
                  have W5 := Lib.hid ((W4.out.alloc _).after hB)
                  have HG4 : Hid (∀ (j : Nat) (g : Int), (gen.set q (x + 1))[j]? = some g → g ≤ ((i + 1 : Nat) : Int)) := Lib.hid (set_le HGB.out HX.out)
                  clear hR hB
                  have c0 : w5.cell? ⟨lb, off + i, none⟩ = some (.int .i64 z) := row_cell1 (HL.out.later B5.out B5.out.size) HZ.out (Nat.le_refl _)
                  by_cases z0 : 0 ≤ z
                  · have d0 : decide (0 ≤ z) = true := decide_eq_true z0
                    by_cases z1 : z < ((liveTo (gen.set q (x + 1)) (tk.set q true) m).length : Int)
                    · have d1 : decide (z < ((liveTo (gen.set q (x + 1)) (tk.set q true) m).length : Int)) = true := decide_eq_true z1
                      obtain ⟨k, hk⟩ : ∃ k : Nat, z = k := ⟨z.toNat, by omega⟩
                      obtain ⟨y, hy⟩ : ∃ y, (liveTo (gen.set q (x + 1)) (tk.set q true) m)[k]? = some y := ⟨_, List.getElem?_eq_getElem (by omega)⟩
                      obtain ⟨g5, d5, e5, y0, y1⟩ := D5.out.get hy
                      obtain ⟨rfl, rfl⟩ : p5 = some ⟨g5, 0, none⟩ ∧ c5 = d5 := by cases e5; exact ⟨rfl, rfl⟩
                      obtain ⟨a, _, ha0, ha1, ha2⟩ := live_mem_iff.1 (List.mem_of_getElem? hy)
                      have ht : z.toNat = k := by omega
                      generalize liveTo (gen.set q (x + 1)) (tk.set q true) m = L at *
                      rw [ha0] at y0
                      subst hk
                      clear hy e5 z0 ha0
                      go_wp2_with fail
                      refine (Give_w base sb gb tb v4 m _ _ a y.gen ea eb _ W5.out (HE.out.up B5.out) HA.out ha1 ha2).mono ?_
                      rintro e w6 ⟨rfl, v6, hW, -, hT⟩
                      have B6 := Lib.hid (W5.out.down hT B5.out HM.out)
                      have W6 := Lib.hid hW
                      clear hW hT
                      go_wp2_with fail
                      go_roundw
                      case rel => exact ⟨i + 1, v6, _, _, rfl, HI.out.1, HI.out.2, W6.out, HG4.out, B6.out⟩
                      case measure => have := HI.out.1; simp [intOf]; omega
                    · have d1 : decide (z < ((liveTo (gen.set q (x + 1)) (tk.set q true) m).length : Int)) = false := decide_eq_false z1
                      generalize liveTo (gen.set q (x + 1)) (tk.set q true) m = L at *
                      clear z0 z1
                      go_wp2_with fail
                      go_roundw
                      case rel => exact ⟨i + 1, v4, _, _, rfl, HI.out.1, HI.out.2, W5.out, HG4.out, B5.out⟩
                      case measure => have := HI.out.1; simp [intOf]; omega
                  · have d0 : decide (0 ≤ z) = false := decide_eq_false z0
                    clear z0
                    go_wp2_with fail
                    go_roundw
                    case rel => exact ⟨i + 1, v4, _, _, rfl, HI.out.1, HI.out.2, W5.out, HG4.out, B5.out⟩
                    case measure => have := HI.out.1; simp [intOf]; omega
              · obtain ⟨g, hy⟩ := lead_get (gen := gen) (tk := tk) (q := q + 1) (m := m) hqm (by have := HLW.out; omega) (lead_more HQ.out hb) (j := q) (by omega)
                obtain ⟨g3, d3, e3, y0, y1⟩ := D3.out.get hy
                obtain ⟨rfl, rfl⟩ : p3 = some ⟨g3, 0, none⟩ ∧ c3 = d3 := by cases e3; exact ⟨rfl, rfl⟩
                have hql := (List.getElem?_eq_some_iff.1 hy).1
                have k1 : (q : Int) < ((liveTo gen tk m).length : Int) := by omega
                have HB := Lib.hid (And.intro hqm hb)
                have e11 : IntKind.i64.wrap ((q : Int) + 1) = ((q + 1 : Nat) : Int) := by have := m2.out; simp [IntKind.wrap, IntKind.bits, IntKind.signed]; omega
                generalize liveTo gen tk m = L3 at *
                clear hb hx hq hqm hql hy e3
                go_wp2_with fail
                go_roundw
                case rel => exact ⟨q + 1, by first | rfl | go_num, HB.out.1, lead_more HQ.out HB.out.2, by first | exact trivial | rfl⟩
                case measure => have := HB.out.1; simp [intOf]; omega
            · obtain rfl : q = m := by omega
              have HT : Hid (∀ j, ¬ FreeAt gen tk j) := Lib.hid (fun j hf => by
                by_cases h : j < q
                · have := hf.1; rw [HQ.out j h] at this; cases this
                · have := hf.1; rw [List.getElem?_eq_none (by have := HLW.out; omega)] at this; cases this)
              have hll : (liveTo gen tk q).length = q := (lead_self q (by have := HLW.out; omega) HQ.out).1
              have k2 : ((liveTo gen tk q).length : Int) = (q : Int) := by rw [hll]
              rw [hll] at *
              clear hq hqm hll
              go_wp2_with fail
              refine (Take_w0 base sb gb tb vr q gen tk ea eb _ W3.out (HE.out.up B3.out) HT.out).mono ?_
              rintro e w4 ⟨rfl, hB⟩
              have B4 := Lib.hid (below_call (w := w) B3.out hB)
              have W4 := Lib.hid (W3.out.after hB)
              obtain ⟨v4, hv4⟩ : ∃ v4, v4 = vr := ⟨_, rfl⟩
              subst hv4
              clear hB
              have p0 := (Blk.new' (w := w4) (t := 28) (cs := #[.int .i64 0, .int .i64 0]) rfl).at_ (i := 0) (v := .int .i64 0) rfl
              have p1 := (Blk.new' (w := w4) (t := 28) (cs := #[.int .i64 0, .int .i64 0]) rfl).at_ (i := 1) (v := .int .i64 0) rfl
              go_wp2_with fail
              clear p0 p1
              refine (All_w base sb gb tb v4 q _ _ _ (W4.out.alloc _)).mono ?_
              rintro e w5 ⟨v5, rfl, hR, hB⟩
              have D5 := Lib.hid (HdsAt.of hR)
              obtain ⟨p5, c5, rfl⟩ := ownsRow_val hR
              have B5 := Lib.hid (below_call (w := w) (below_alloc B4.out _) hB)
              have W5 := Lib.hid ((W4.out.alloc _).after hB)
              have HG4 : Hid (∀ (j : Nat) (g : Int), (gen)[j]? = some g → g ≤ ((i + 1 : Nat) : Int)) := Lib.hid (up_le HGB.out)
              clear hR hB
              have c0 : w5.cell? ⟨lb, off + i, none⟩ = some (.int .i64 z) := row_cell1 (HL.out.later B5.out B5.out.size) HZ.out (Nat.le_refl _)
              by_cases z0 : 0 ≤ z
              · have d0 : decide (0 ≤ z) = true := decide_eq_true z0
                by_cases z1 : z < ((liveTo (gen) (tk) q).length : Int)
                · have d1 : decide (z < ((liveTo (gen) (tk) q).length : Int)) = true := decide_eq_true z1
                  obtain ⟨k, hk⟩ : ∃ k : Nat, z = k := ⟨z.toNat, by omega⟩
                  obtain ⟨y, hy⟩ : ∃ y, (liveTo (gen) (tk) q)[k]? = some y := ⟨_, List.getElem?_eq_getElem (by omega)⟩
                  obtain ⟨g5, d5, e5, y0, y1⟩ := D5.out.get hy
                  obtain ⟨rfl, rfl⟩ : p5 = some ⟨g5, 0, none⟩ ∧ c5 = d5 := by cases e5; exact ⟨rfl, rfl⟩
                  obtain ⟨a, _, ha0, ha1, ha2⟩ := live_mem_iff.1 (List.mem_of_getElem? hy)
                  have ht : z.toNat = k := by omega
                  generalize liveTo (gen) (tk) q = L at *
                  rw [ha0] at y0
                  subst hk
                  clear hy e5 z0 ha0
                  go_wp2_with fail
                  refine (Give_w base sb gb tb v4 q _ _ a y.gen ea eb _ W5.out (HE.out.up B5.out) HA.out ha1 ha2).mono ?_
                  rintro e w6 ⟨rfl, v6, hW, -, hT⟩
                  have B6 := Lib.hid (W5.out.down hT B5.out HM.out)
                  have W6 := Lib.hid hW
                  clear hW hT
                  go_wp2_with fail
                  go_roundw
                  case rel => exact ⟨i + 1, v6, _, _, rfl, HI.out.1, HI.out.2, W6.out, HG4.out, B6.out⟩
                  case measure => have := HI.out.1; simp [intOf]; omega
                · have d1 : decide (z < ((liveTo (gen) (tk) q).length : Int)) = false := decide_eq_false z1
                  generalize liveTo (gen) (tk) q = L at *
                  clear z0 z1
                  go_wp2_with fail
                  go_roundw
                  case rel => exact ⟨i + 1, v4, _, _, rfl, HI.out.1, HI.out.2, W5.out, HG4.out, B5.out⟩
                  case measure => have := HI.out.1; simp [intOf]; omega
              · have d0 : decide (0 ≤ z) = false := decide_eq_false z0
                clear z0
                go_wp2_with fail
                go_roundw
                case rel => exact ⟨i + 1, v4, _, _, rfl, HI.out.1, HI.out.2, W5.out, HG4.out, B5.out⟩
                case measure => have := HI.out.1; simp [intOf]; omega
      · have f1 : ¬ ((i : Int) < (l.length : Int)) := by omega
        obtain rfl : i = l.length := by omega
        clear hi hi1 hil f1
        go_wp2_with fail
        go_ret
        exact ⟨rfl, BR.out⟩
end Go.Proofs.YtgjnmpbahekbfaaDoor
