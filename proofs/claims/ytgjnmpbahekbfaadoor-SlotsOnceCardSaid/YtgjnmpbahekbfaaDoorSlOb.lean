/-
  STATEMENT SlotsOnce: its walk.
-/
import Derived.Test.YtgjnmpbahekbfaaDoorSlOa
namespace Go.Proofs.YtgjnmpbahekbfaaDoor
open Go.RowKit

set_option maxRecDepth 100000 in
set_option maxHeartbeats 32000000 in
theorem once_walk (n : Int) (l : List Int) (v0 : Value) (ea eb : Addr) (w : World) (he : SentS w ea eb) (hl : RowsAt encI 1 w.heap.size w v0 l) :
    Calls Tryd.prog 7 #[.int .i64 n, v0] w (Yes w) := by
  have HE := Lib.hid he
  obtain ⟨A, cA, rfl, _, hsc, _⟩ := hl.slice
  have HL := Lib.hid hl
  clear he hl
  obtain ⟨i0, hi, hz0, hz1, hz2⟩ := info_parts infoHd
  by_cases hn : n < 1 ∨ 64 < n
  · have HN := Lib.hid hn
    clear hn
    go_enter Tryd.func7, Tryd.ntmps7
    go_wp2_with fail
    refine (shown_any ea eb w HE.out).mono ?_
    rintro e w1 ⟨rfl, hB⟩
    have B := Lib.hid hB
    clear hB
    go_wp2_with fail
    refine (New_bad n w1 HN.out).mono ?_
    rintro e w2 ⟨rfl, rfl⟩
    go_wp2_with fail
    go_ret
    exact ⟨rfl, B.out⟩
  · obtain ⟨m, rfl⟩ : ∃ m : Nat, n = m := ⟨n.toNat, by omega⟩
    have m1 : Hid (1 ≤ m) := Lib.hid (by omega)
    have m2 : Hid (m ≤ 64) := Lib.hid (by omega)
    clear hn
    go_enter Tryd.func7, Tryd.ntmps7
    go_wp2_with fail
    refine (shown_any ea eb w HE.out).mono ?_
    rintro e w1 ⟨rfl, hB⟩
    have B := Lib.hid hB
    clear hB
    go_wp2_with fail
    refine (New_w m w1 m1.out m2.out).mono ?_
    rintro e w2 ⟨sb, gb, tb, v, rfl, hW, hB, h1, h2, h3⟩
    have B2 := Lib.hid (below_call B.out hB)
    have W2 := Lib.hid hW
    have hw := B.out.size
    have HM : Hid (w.heap.size ≤ sb ∧ w.heap.size ≤ gb ∧ w.heap.size ≤ tb ∧ w.heap.size ≤ w1.heap.size + 3) := Lib.hid ⟨by omega, by omega, by omega, by omega⟩
    obtain ⟨base, hbase⟩ : ∃ base, base = w1.heap.size + 3 := ⟨_, rfl⟩
    rw [← hbase] at W2 HM
    have HA : Hid (Above ea eb base sb gb tb) := Lib.hid ⟨w.heap.size, HE.out.lt, HM.out⟩
    clear hB hW h1 h2 h3 hw hbase
    go_wp2_with fail
    go_loopw [8, 9, 10] (fun tv kv iv wr => ∃ (i : Nat) (vr vt vk : Value) (gen : List Int) (tk : List Bool) (T K : List Hd), tv = vt ∧ kv = vk ∧ iv = .int .i64 i ∧ i ≤ l.length ∧ i ≤ 100 ∧ OnceM w wr base sb gb tb vr vt vk m gen tk T K ∧ ToldOk gen T ∧ GoneOk gen tk K ∧ T.length = K.length + tk.count true ∧ T.length ≤ i ∧ K.length ≤ i) (fun _ _ iv _ => (l.length - (intOf iv).toNat))
    case atStart => exact ⟨0, v, _, _, _, _, [], [], rfl, rfl, rfl, Nat.zero_le _, by omega, ⟨W2.out, World.ownsRow_nil _ _ _ _, World.ownsRow_nil _ _ _ _, (fun g h => by cases h), B2.out⟩, (fun y h => by cases h), (fun y h => by cases h), (by rw [List.count_replicate]; rfl), Nat.le_refl _, Nat.le_refl _⟩
    case round =>
      obtain ⟨i, vr, vt, vk, gen, tk, T, K, rfl, rfl, rfl, hi0, hi1, hM, hTO, hGO, hCT, hTI, hKI⟩ := hrel
      have MR := Lib.hid hM
      have HTO0 := Lib.hid hTO
      have HGO0 := Lib.hid hGO
      have HCT0 := Lib.hid hCT
      have HTI0 := Lib.hid hTI
      have HKI0 := Lib.hid hKI
      obtain ⟨pt, ct, rfl⟩ := ownsRow_val hM.rt
      obtain ⟨pk, ck, rfl⟩ := ownsRow_val hM.rk
      have hlw : gen.length = m ∧ tk.length = m := by obtain ⟨_, _, _, G⟩ := hM.sl; exact ⟨G.gl, G.tl⟩
      have HLW := Lib.hid hlw
      clear hM hTO hGO hCT hTI hKI hlw
      by_cases hgo : i < l.length ∧ i ≠ 100
      · obtain ⟨hil, h100⟩ := hgo
        have f0 : (0 : Int) ≤ (i : Int) := by omega
        have f1 : (i : Int) < (l.length : Int) := by omega
        have f2 : decide ((i : Int) < 100) = true := decide_eq_true (by omega)
        have e10 : IntKind.i64.wrap ((i : Int) + 1) = ((i + 1 : Nat) : Int) := by simp [IntKind.wrap, IntKind.bits, IntKind.signed]; omega
        have HI : Hid (i + 1 ≤ l.length ∧ i + 1 ≤ 100) := Lib.hid ⟨by omega, by omega⟩
        obtain ⟨z, hz⟩ : ∃ z, l[i]? = some z := ⟨_, List.getElem?_eq_getElem hil⟩
        have HZ := Lib.hid hz
        obtain ⟨lb, off, rfl, _, _⟩ := HL.out.el hz (Nat.le_refl _)
        clear hi0 hi1 hil h100 hz
        go_wp2_with fail
        rcases least_free gen tk with ⟨q, hf, hlst⟩ | hf
        · obtain ⟨ht, x, hg, hx⟩ := hf
          have HX : Hid (tk[q]? = some false ∧ gen[q]? = some x ∧ x < 1000 ∧ ∀ j, j < q → ¬ FreeAt gen tk j) := Lib.hid ⟨ht, hg, hx, hlst⟩
          have HFR := Lib.hid (HTO0.out.fresh hg)
          clear ht hg hx hlst
          refine (Take_w base sb gb tb vr m gen tk q x ea eb _ MR.out.sl (HE.out.up MR.out.bl) HA.out HX.out.1 HX.out.2.1 HX.out.2.2.1 HX.out.2.2.2).mono ?_
          rintro e w4 ⟨rfl, v4, hW, -, hT⟩
          have M4 := Lib.hid (MR.out.turn hT HM.out hW)
          clear hW hT
          have H5' : Blk (w4.alloc (.cells #[.int .i64 q, .int .i64 (x + 1)] 28)) w4.heap.size 28 #[.int .i64 q, .int .i64 (x + 1)] := Blk.new' rfl
          have M5' := M4.out.alloc (.cells #[.int .i64 q, .int .i64 (x + 1)] 28)
          generalize hw5 : w4.alloc (.cells #[.int .i64 q, .int .i64 (x + 1)] 28) = w5 at H5' M5'
          have H5 := Lib.hid H5'
          have M5 := Lib.hid M5'
          have W5 := Lib.hid hw5
          clear H5' M5' hw5
          go_wp2_with fail
          rw [W5.out]
          go_wp2_with fail
          go_loopw [13] (fun sv wr5 => ∃ k : Nat, sv = .int .i64 k ∧ k ≤ T.length ∧ Below w5.heap.size w5 wr5) (fun sv _ => (T.length - (intOf sv).toNat))
          case atStart => exact ⟨0, rfl, Nat.zero_le _, Below.refl _ _⟩
          case round =>
            obtain ⟨k, rfl, hk, hB⟩ := hrel
            have BX := Lib.hid hB
            have c2 := (H5.out.after hB).at_ (i := 0) (v := .int .i64 (q : Int)) rfl
            have c3 := (H5.out.after hB).at_ (i := 1) (v := .int .i64 (x + 1)) rfl
            clear hB
            by_cases hkl : k < T.length
            · obtain ⟨y, hy⟩ : ∃ y, T[k]? = some y := ⟨_, List.getElem?_eq_getElem hkl⟩
              obtain ⟨gx, dx, ex, x0, x1⟩ := (M5.out.after BX.out).rt.hds.get hy
              obtain ⟨rfl, rfl⟩ : pt = some ⟨gx, 0, none⟩ ∧ ct = dx := by cases ex; exact ⟨rfl, rfl⟩
              have HK := Lib.hid hkl
              have k0 : (0 : Int) ≤ (k : Int) := by omega
              have k1 : (k : Int) < (T.length : Int) := by omega
              have e11 : IntKind.i64.wrap ((k : Int) + 1) = ((k + 1 : Nat) : Int) := by have := HTI0.out; have := HI.out; simp [IntKind.wrap, IntKind.bits, IntKind.signed]; omega
              have hyx : y ≠ (⟨q, x + 1⟩ : Hd) := fun e => HFR.out (e ▸ List.mem_of_getElem? hy)
              by_cases h0 : y.slot = (q : Int)
              · have h1 : ¬ y.gen = x + 1 := fun e => hyx (by cases y; simp at h0 e; simp [h0, e])
                have h2 : (y.gen == x + 1) = false := beq_eq_false_iff_ne.2 h1
                clear hyx hy hkl hk ex
                go_wp2_with fail
                go_quiet (fail)
                go_wp2_with fail
                go_roundw
                case rel => exact ⟨k + 1, by first | rfl | go_num, HK.out, below_drewN BX.out _⟩
                case measure => have := HK.out; simp [intOf]; omega
              · have h2 : (y.slot == (q : Int)) = false := beq_eq_false_iff_ne.2 h0
                clear hyx hy hkl hk ex
                go_wp2_with fail
                go_quiet (fail)
                go_wp2_with fail
                go_roundw
                case rel => exact ⟨k + 1, by first | rfl | go_num, HK.out, below_drewN BX.out _⟩
                case measure => have := HK.out; simp [intOf]; omega
            · have M6' := M5.out.after BX.out
              have hown : wr.ownsRow w.heap.size 28 2 (.slice pt T.length ct) T.length (hcells T) := M6'.rt
              have hsz := M6'.bl.size
              have hti := HTI0.out
              have hi100 := HI.out.2
              have k2 : ¬ ((k : Int) < (T.length : Int)) := by omega
              have k3 : decide (k < T.length) = false := decide_eq_false hkl
              have MM := Lib.hid M6'
              clear M6' hkl hk
              go_wp2_with (at_builtin; refine wpList_append_src _ rfl _ _ 35 rfl w.heap.size 28 i0 (.agg #[.int .i64 0, .int .i64 0]) 2 16 Tryd.underlying35 hi hz0 hz1 hz2 rfl (by decide) _ _ _ rfl (hown.alloc _) _ 1 1 [.int .i64 (q : Int), .int .i64 (x + 1)] rfl ⟨rfl, (fun h => by cases h), fun ad ha => by cases ha; exact cell_two_new _ _ _ _⟩ (by simp [Value.oneCell']) (by unfold maxLen; omega) (by omega) (by simp; omega) ?_; intro vt' w6 hown' hgrow ho)
              have M6 := Lib.hid (MM.out.told (x := ⟨q, x + 1⟩) hown' hgrow ho)
              have HTO6 : Hid (ToldOk (gen.set q (x + 1)) (T ++ [⟨q, x + 1⟩])) := Lib.hid (HTO0.out.take HX.out.2.1)
              have HGO6 : Hid (GoneOk (gen.set q (x + 1)) (tk.set q true) K) := Lib.hid (HGO0.out.take HX.out.2.1)
              have HCT6 : Hid ((T ++ [(⟨q, x + 1⟩ : Hd)]).length = K.length + (tk.set q true).count true) := Lib.hid (by rw [List.length_append, List.length_singleton, count_up HX.out.1, HCT0.out]; omega)
              have HTI6 : Hid ((T ++ [(⟨q, x + 1⟩ : Hd)]).length ≤ i + 1) := Lib.hid (by have := HTI0.out; rw [List.length_append, List.length_singleton]; omega)
              clear hown hown' hgrow ho hsz hti hi100 k2 k3 c2 c3
              refine (All_w base sb gb tb v4 m _ _ _ M6.out.sl).mono ?_
              rintro e w7 ⟨v7, rfl, hR, hB⟩
              have R7 : Hid (RowH w6.heap.size w7 v7 (liveTo (gen.set q (x + 1)) (tk.set q true) m)) := Lib.hid hR
              obtain ⟨p7, c7, rfl⟩ := ownsRow_val hR
              have M7 := Lib.hid (M6.out.after hB)
              clear hR hB
              have c0 : w7.cell? ⟨lb, off + i, none⟩ = some (.int .i64 z) := row_cell1 (HL.out.later M7.out.bl M7.out.bl.size) HZ.out (Nat.le_refl _)
              by_cases z0 : 0 ≤ z
              · have d0 : decide (0 ≤ z) = true := decide_eq_true z0
                by_cases z1 : z < ((liveTo (gen.set q (x + 1)) (tk.set q true) m).length : Int)
                · have d1 : decide (z < ((liveTo (gen.set q (x + 1)) (tk.set q true) m).length : Int)) = true := decide_eq_true z1
                  obtain ⟨kz, hkz⟩ : ∃ k : Nat, z = k := ⟨z.toNat, by omega⟩
                  obtain ⟨y, hy⟩ : ∃ y, (liveTo (gen.set q (x + 1)) (tk.set q true) m)[kz]? = some y := ⟨_, List.getElem?_eq_getElem (by omega)⟩
                  obtain ⟨g7, d7, e7, y0, y1⟩ := R7.out.hds.get hy
                  obtain ⟨rfl, rfl⟩ : p7 = some ⟨g7, 0, none⟩ ∧ c7 = d7 := by cases e7; exact ⟨rfl, rfl⟩
                  obtain ⟨a, _, ha0, ha1, ha2⟩ := live_mem_iff.1 (List.mem_of_getElem? hy)
                  have HY := Lib.hid hy
                  rw [ha0] at y0
                  subst hkz
                  clear hy e7
                  go_wp2_with fail
                  refine (Give_w base sb gb tb v4 m _ _ a y.gen ea eb _ M7.out.sl (HE.out.up M7.out.bl) HA.out ha1 ha2).mono ?_
                  rintro e w8 ⟨rfl, v8, hW, -, hT⟩
                  have M8 := Lib.hid (M7.out.turn hT HM.out hW)
                  have D8 : HdsAt w8 (.slice (some ⟨g7, 0, none⟩) (liveTo (gen.set q (x + 1)) (tk.set q true) m).length c7) (liveTo (gen.set q (x + 1)) (tk.set q true) m) := (R7.out.keepT hT (fun g hg => by
                    obtain ⟨_, cs, hb⟩ := R7.out.blk hg
                    obtain ⟨a1, a2, a3, a4⟩ := M7.out.sl.apart hb
                    have hl := hb.lt
                    rintro (e | e | e | e | e)
                    · exact a1 e
                    · exact a2 e
                    · exact a3 e
                    · exact a4 e
                    · omega)).hds
                  obtain ⟨g8, d8, e8, z2, z3⟩ := D8.get HY.out
                  obtain ⟨rfl, rfl⟩ : g7 = g8 ∧ c7 = d8 := by cases e8; exact ⟨rfl, rfl⟩
                  rw [ha0] at z2
                  have c1 : w8.cell? ⟨lb, off + i, none⟩ = some (.int .i64 (kz : Int)) := row_cell1 (HL.out.later M8.out.bl M8.out.bl.size) HZ.out (Nat.le_refl _)
                  have hown : w8.ownsRow w.heap.size 28 2 (.slice pk K.length ck) K.length (hcells K) := M8.out.rk
                  have hsz := M8.out.bl.size
                  have HGO : Hid (GoneOk (gen.set q (x + 1)) ((tk.set q true).set a false) (K ++ [⟨a, y.gen⟩])) := Lib.hid (HGO6.out.give ha1 ha2)
                  have HCT : Hid (((T ++ [(⟨q, x + 1⟩ : Hd)])).length = (K ++ [(⟨a, y.gen⟩ : Hd)]).length + ((tk.set q true).set a false).count true) := Lib.hid (by have h1 := HCT6.out; have h2 := count_down ha1; have h3 : (K ++ [(⟨a, y.gen⟩ : Hd)]).length = K.length + 1 := (by rw [List.length_append]; rfl); omega)
                  have HTO := HTO6
                  have HTI := HTI6
                  have HKI : Hid ((K ++ [(⟨a, y.gen⟩ : Hd)]).length ≤ i + 1) := Lib.hid (by have := HKI0.out; rw [List.length_append, List.length_singleton]; omega)
                  have hki := HKI0.out
                  have hi100 := HI.out.2
                  have ha1h := Lib.hid ha1
                  have ha2h := Lib.hid ha2
                  clear hW hT e8 y0 y1 c0 ha1 ha2 D8
                  generalize liveTo (gen.set q (x + 1)) (tk.set q true) m = L7 at *
                  go_wp2_with (at_builtin; refine wpList_append_src _ rfl _ _ 35 rfl w.heap.size 28 i0 (.agg #[.int .i64 0, .int .i64 0]) 2 16 Tryd.underlying35 hi hz0 hz1 hz2 rfl (by decide) _ _ _ rfl (hown.alloc _) _ 1 1 [.int .i64 (a : Int), .int .i64 y.gen] rfl ⟨rfl, (fun h => by cases h), fun ad ha => by cases ha; exact cell_two_new _ _ _ _⟩ (by simp [Value.oneCell']) (by unfold maxLen; omega) (by omega) (by simp; omega) ?_; intro vk' w9 hown' hgrow ho)
                  have M9 := Lib.hid (M8.out.gone (x := ⟨a, y.gen⟩) hown' hgrow ho)
                  obtain ⟨pk9, ck9, hv9⟩ := ownsRow_val hown'
                  rw [show K.length + 1 = (K ++ [(⟨a, y.gen⟩ : Hd)]).length by rw [List.length_append]; rfl] at hv9
                  subst hv9
                  clear hown hown' hgrow ho hsz hki hi100 c1 z2 z3
                  generalize hK9 : K ++ [(⟨a, y.gen⟩ : Hd)] = K9 at *
                  go_wp2_with fail
                  go_loopw [15] (fun sv wx => ∃ k : Nat, sv = .int .i64 k ∧ k ≤ (K9).length ∧ Below w9.heap.size w9 wx) (fun sv _ => ((K9).length - (intOf sv).toNat))
                  case atStart => exact ⟨0, rfl, Nat.zero_le _, Below.refl _ _⟩
                  case round =>
                    obtain ⟨k, rfl, hk, hB⟩ := hrel
                    have MX := Lib.hid (M9.out.after hB)
                    have BX := Lib.hid hB
                    clear hB
                    by_cases hkl : k < (K9).length
                    · obtain ⟨y, hy⟩ : ∃ y, (K9)[k]? = some y := ⟨_, List.getElem?_eq_getElem hkl⟩
                      obtain ⟨gx, dx, ex, x0, x1⟩ := MX.out.rk.hds.get hy
                      obtain ⟨rfl, rfl⟩ : pk9 = some ⟨gx, 0, none⟩ ∧ ck9 = dx := by cases ex; exact ⟨rfl, rfl⟩
                      have hd : decide (y ∈ liveTo (gen.set q (x + 1)) ((tk.set q true).set a false) m) = false := decide_eq_false (HGO.out.dead (List.mem_of_getElem? hy) m)
                      have HD := Lib.hid hd
                      have HK := Lib.hid hkl
                      have k0 : (0 : Int) ≤ (k : Int) := by omega
                      have k1 : (k : Int) < ((K9).length : Int) := by omega
                      have e11 : IntKind.i64.wrap ((k : Int) + 1) = ((k + 1 : Nat) : Int) := by have := HKI.out; have := HI.out; simp [IntKind.wrap, IntKind.bits, IntKind.signed]; omega
                      clear hd hy hkl hk ex
                      go_wp2_with fail
                      refine (Live_w base sb gb tb _ m _ _ y _ MX.out.sl).mono ?_
                      rintro e wy ⟨rfl, hB⟩
                      rw [HD.out]
                      have BY := Lib.hid (below_call (w := w9) BX.out hB)
                      clear hB x0 x1
                      go_wp2_with fail
                      go_roundw
                      case rel => exact ⟨k + 1, by first | rfl | go_num, HK.out, BY.out⟩
                      case measure => have := HK.out; simp [intOf]; omega
                    · have k1 : k = (K9).length := by omega
                      have k2 : ¬ ((k : Int) < ((K9).length : Int)) := by omega
                      have k3 : decide (k < (K9).length) = false := decide_eq_false hkl
                      have e11 : IntKind.i64.wrap ((k : Int) + 1) = ((k + 1 : Nat) : Int) := by have := HKI.out; have := HI.out; simp [IntKind.wrap, IntKind.bits, IntKind.signed]; omega
                      clear hkl hk k1
                      go_wp2_with fail
                      go_roundw
                      case rel => exact ⟨i + 1, _, _, _, gen.set q (x + 1), (tk.set q true).set a false, (T ++ [(⟨q, x + 1⟩ : Hd)]), K9, rfl, rfl, rfl, HI.out.1, HI.out.2, MX.out, HTO.out, HGO.out, HCT.out, HTI.out, HKI.out⟩
                      case measure => have := HI.out.1; simp [intOf]; omega
                · have d1 : decide (z < ((liveTo (gen.set q (x + 1)) (tk.set q true) m).length : Int)) = false := decide_eq_false z1
                  clear z0 z1 R7
                  have hgl : Hid (GoneOk (gen.set q (x + 1)) (tk.set q true) K) := HGO6
                  have HTO := HTO6
                  have HGO := HGO6
                  have HCT := HCT6
                  have HTI := HTI6
                  have HKI : Hid (K.length ≤ i + 1) := Lib.hid (by have := HKI0.out; omega)
                  go_wp2_with fail
                  go_loopw [15] (fun sv wx => ∃ k : Nat, sv = .int .i64 k ∧ k ≤ (K).length ∧ Below w7.heap.size w7 wx) (fun sv _ => ((K).length - (intOf sv).toNat))
                  case atStart => exact ⟨0, rfl, Nat.zero_le _, Below.refl _ _⟩
                  case round =>
                    obtain ⟨k, rfl, hk, hB⟩ := hrel
                    have MX := Lib.hid (M7.out.after hB)
                    have BX := Lib.hid hB
                    clear hB
                    by_cases hkl : k < (K).length
                    · obtain ⟨y, hy⟩ : ∃ y, (K)[k]? = some y := ⟨_, List.getElem?_eq_getElem hkl⟩
                      obtain ⟨gx, dx, ex, x0, x1⟩ := MX.out.rk.hds.get hy
                      obtain ⟨rfl, rfl⟩ : pk = some ⟨gx, 0, none⟩ ∧ ck = dx := by cases ex; exact ⟨rfl, rfl⟩
                      have hd : decide (y ∈ liveTo (gen.set q (x + 1)) (tk.set q true) m) = false := decide_eq_false (HGO.out.dead (List.mem_of_getElem? hy) m)
                      have HD := Lib.hid hd
                      have HK := Lib.hid hkl
                      have k0 : (0 : Int) ≤ (k : Int) := by omega
                      have k1 : (k : Int) < ((K).length : Int) := by omega
                      have e11 : IntKind.i64.wrap ((k : Int) + 1) = ((k + 1 : Nat) : Int) := by have := HKI.out; have := HI.out; simp [IntKind.wrap, IntKind.bits, IntKind.signed]; omega
                      clear hd hy hkl hk ex
                      go_wp2_with fail
                      refine (Live_w base sb gb tb _ m _ _ y _ MX.out.sl).mono ?_
                      rintro e wy ⟨rfl, hB⟩
                      rw [HD.out]
                      have BY := Lib.hid (below_call (w := w7) BX.out hB)
                      clear hB x0 x1
                      go_wp2_with fail
                      go_roundw
                      case rel => exact ⟨k + 1, by first | rfl | go_num, HK.out, BY.out⟩
                      case measure => have := HK.out; simp [intOf]; omega
                    · have k1 : k = (K).length := by omega
                      have k2 : ¬ ((k : Int) < ((K).length : Int)) := by omega
                      have k3 : decide (k < (K).length) = false := decide_eq_false hkl
                      have e11 : IntKind.i64.wrap ((k : Int) + 1) = ((k + 1 : Nat) : Int) := by have := HKI.out; have := HI.out; simp [IntKind.wrap, IntKind.bits, IntKind.signed]; omega
                      clear hkl hk k1
                      go_wp2_with fail
                      go_roundw
                      case rel => exact ⟨i + 1, _, _, _, gen.set q (x + 1), tk.set q true, (T ++ [(⟨q, x + 1⟩ : Hd)]), K, rfl, rfl, rfl, HI.out.1, HI.out.2, MX.out, HTO.out, HGO.out, HCT.out, HTI.out, HKI.out⟩
                      case measure => have := HI.out.1; simp [intOf]; omega
              · have d0 : decide (0 ≤ z) = false := decide_eq_false z0
                clear z0 R7
                have HTO := HTO6
                have HGO := HGO6
                have HCT := HCT6
                have HTI := HTI6
                have HKI : Hid (K.length ≤ i + 1) := Lib.hid (by have := HKI0.out; omega)
                go_wp2_with fail
                go_loopw [15] (fun sv wx => ∃ k : Nat, sv = .int .i64 k ∧ k ≤ (K).length ∧ Below w7.heap.size w7 wx) (fun sv _ => ((K).length - (intOf sv).toNat))
                case atStart => exact ⟨0, rfl, Nat.zero_le _, Below.refl _ _⟩
                case round =>
                  obtain ⟨k, rfl, hk, hB⟩ := hrel
                  have MX := Lib.hid (M7.out.after hB)
                  have BX := Lib.hid hB
                  clear hB
                  by_cases hkl : k < (K).length
                  · obtain ⟨y, hy⟩ : ∃ y, (K)[k]? = some y := ⟨_, List.getElem?_eq_getElem hkl⟩
                    obtain ⟨gx, dx, ex, x0, x1⟩ := MX.out.rk.hds.get hy
                    obtain ⟨rfl, rfl⟩ : pk = some ⟨gx, 0, none⟩ ∧ ck = dx := by cases ex; exact ⟨rfl, rfl⟩
                    have hd : decide (y ∈ liveTo (gen.set q (x + 1)) (tk.set q true) m) = false := decide_eq_false (HGO.out.dead (List.mem_of_getElem? hy) m)
                    have HD := Lib.hid hd
                    have HK := Lib.hid hkl
                    have k0 : (0 : Int) ≤ (k : Int) := by omega
                    have k1 : (k : Int) < ((K).length : Int) := by omega
                    have e11 : IntKind.i64.wrap ((k : Int) + 1) = ((k + 1 : Nat) : Int) := by have := HKI.out; have := HI.out; simp [IntKind.wrap, IntKind.bits, IntKind.signed]; omega
                    clear hd hy hkl hk ex
                    go_wp2_with fail
                    refine (Live_w base sb gb tb _ m _ _ y _ MX.out.sl).mono ?_
                    rintro e wy ⟨rfl, hB⟩
                    rw [HD.out]
                    have BY := Lib.hid (below_call (w := w7) BX.out hB)
                    clear hB x0 x1
                    go_wp2_with fail
                    go_roundw
                    case rel => exact ⟨k + 1, by first | rfl | go_num, HK.out, BY.out⟩
                    case measure => have := HK.out; simp [intOf]; omega
                  · have k1 : k = (K).length := by omega
                    have k2 : ¬ ((k : Int) < ((K).length : Int)) := by omega
                    have k3 : decide (k < (K).length) = false := decide_eq_false hkl
                    have e11 : IntKind.i64.wrap ((k : Int) + 1) = ((k + 1 : Nat) : Int) := by have := HKI.out; have := HI.out; simp [IntKind.wrap, IntKind.bits, IntKind.signed]; omega
                    clear hkl hk k1
                    go_wp2_with fail
                    go_roundw
                    case rel => exact ⟨i + 1, _, _, _, gen.set q (x + 1), tk.set q true, (T ++ [(⟨q, x + 1⟩ : Hd)]), K, rfl, rfl, rfl, HI.out.1, HI.out.2, MX.out, HTO.out, HGO.out, HCT.out, HTI.out, HKI.out⟩
                    case measure => have := HI.out.1; simp [intOf]; omega
        · have HF := Lib.hid hf
          clear hf
          refine (Take_w0 base sb gb tb vr m gen tk ea eb _ MR.out.sl (HE.out.up MR.out.bl) HF.out).mono ?_
          rintro e w4 ⟨rfl, hB⟩
          have M4 := Lib.hid (MR.out.after hB)
          obtain ⟨v4, hv4⟩ : ∃ v4, v4 = vr := ⟨_, rfl⟩
          subst hv4
          clear hB
          have H5' : Blk (w4.alloc (.cells #[.int .i64 0, .int .i64 0] 28)) w4.heap.size 28 #[.int .i64 0, .int .i64 0] := Blk.new' rfl
          have M5' := M4.out.alloc (.cells #[.int .i64 0, .int .i64 0] 28)
          generalize hw5 : w4.alloc (.cells #[.int .i64 0, .int .i64 0] 28) = w5 at H5' M5'
          have H5 := Lib.hid H5'
          have M5 := Lib.hid M5'
          have W5 := Lib.hid hw5
          clear H5' M5' hw5
          go_wp2_with fail
          rw [W5.out]
          go_wp2_with fail
          go_loopw [13] (fun sv wr5 => ∃ k : Nat, sv = .int .i64 k ∧ k ≤ T.length ∧ Below w5.heap.size w5 wr5) (fun sv _ => (T.length - (intOf sv).toNat))
          case atStart => exact ⟨0, rfl, Nat.zero_le _, Below.refl _ _⟩
          case round =>
            obtain ⟨k, rfl, hk, hB⟩ := hrel
            have BX := Lib.hid hB
            have c2 := (H5.out.after hB).at_ (i := 0) (v := .int .i64 0) rfl
            have c3 := (H5.out.after hB).at_ (i := 1) (v := .int .i64 0) rfl
            clear hB
            by_cases hkl : k < T.length
            · obtain ⟨y, hy⟩ : ∃ y, T[k]? = some y := ⟨_, List.getElem?_eq_getElem hkl⟩
              obtain ⟨gx, dx, ex, x0, x1⟩ := (M5.out.after BX.out).rt.hds.get hy
              obtain ⟨rfl, rfl⟩ : pt = some ⟨gx, 0, none⟩ ∧ ct = dx := by cases ex; exact ⟨rfl, rfl⟩
              have HK := Lib.hid hkl
              have k0 : (0 : Int) ≤ (k : Int) := by omega
              have k1 : (k : Int) < (T.length : Int) := by omega
              have e11 : IntKind.i64.wrap ((k : Int) + 1) = ((k + 1 : Nat) : Int) := by have := HTI0.out; have := HI.out; simp [IntKind.wrap, IntKind.bits, IntKind.signed]; omega
              clear hy hkl hk ex
              go_wp2_with fail
              go_quiet (fail)
              go_wp2_with fail
              go_roundw
              case rel => exact ⟨k + 1, by first | rfl | go_num, HK.out, below_drewN BX.out _⟩
              case measure => have := HK.out; simp [intOf]; omega
            · have k2 : ¬ ((k : Int) < (T.length : Int)) := by omega
              have k3 : decide (k < T.length) = false := decide_eq_false hkl
              have M6 := Lib.hid (M5.out.after BX.out)
              have HTO6 := HTO0
              have HGO6 := HGO0
              have HCT6 := HCT0
              have HTI6 : Hid (T.length ≤ i + 1) := Lib.hid (by have := HTI0.out; omega)
              clear hkl hk
              go_wp2_with fail
              clear k2 k3 c2 c3
              obtain ⟨w6, hw6⟩ : ∃ W, W = wr := ⟨_, rfl⟩
              subst hw6
              refine (All_w base sb gb tb v4 m _ _ _ M6.out.sl).mono ?_
              rintro e w7 ⟨v7, rfl, hR, hB⟩
              have R7 : Hid (RowH w6.heap.size w7 v7 (liveTo (gen) (tk) m)) := Lib.hid hR
              obtain ⟨p7, c7, rfl⟩ := ownsRow_val hR
              have M7 := Lib.hid (M6.out.after hB)
              clear hR hB
              have c0 : w7.cell? ⟨lb, off + i, none⟩ = some (.int .i64 z) := row_cell1 (HL.out.later M7.out.bl M7.out.bl.size) HZ.out (Nat.le_refl _)
              by_cases z0 : 0 ≤ z
              · have d0 : decide (0 ≤ z) = true := decide_eq_true z0
                by_cases z1 : z < ((liveTo (gen) (tk) m).length : Int)
                · have d1 : decide (z < ((liveTo (gen) (tk) m).length : Int)) = true := decide_eq_true z1
                  obtain ⟨kz, hkz⟩ : ∃ k : Nat, z = k := ⟨z.toNat, by omega⟩
                  obtain ⟨y, hy⟩ : ∃ y, (liveTo (gen) (tk) m)[kz]? = some y := ⟨_, List.getElem?_eq_getElem (by omega)⟩
                  obtain ⟨g7, d7, e7, y0, y1⟩ := R7.out.hds.get hy
                  obtain ⟨rfl, rfl⟩ : p7 = some ⟨g7, 0, none⟩ ∧ c7 = d7 := by cases e7; exact ⟨rfl, rfl⟩
                  obtain ⟨a, _, ha0, ha1, ha2⟩ := live_mem_iff.1 (List.mem_of_getElem? hy)
                  have HY := Lib.hid hy
                  rw [ha0] at y0
                  subst hkz
                  clear hy e7
                  go_wp2_with fail
                  refine (Give_w base sb gb tb v4 m _ _ a y.gen ea eb _ M7.out.sl (HE.out.up M7.out.bl) HA.out ha1 ha2).mono ?_
                  rintro e w8 ⟨rfl, v8, hW, -, hT⟩
                  have M8 := Lib.hid (M7.out.turn hT HM.out hW)
                  have D8 : HdsAt w8 (.slice (some ⟨g7, 0, none⟩) (liveTo (gen) (tk) m).length c7) (liveTo (gen) (tk) m) := (R7.out.keepT hT (fun g hg => by
                    obtain ⟨_, cs, hb⟩ := R7.out.blk hg
                    obtain ⟨a1, a2, a3, a4⟩ := M7.out.sl.apart hb
                    have hl := hb.lt
                    rintro (e | e | e | e | e)
                    · exact a1 e
                    · exact a2 e
                    · exact a3 e
                    · exact a4 e
                    · omega)).hds
                  obtain ⟨g8, d8, e8, z2, z3⟩ := D8.get HY.out
                  obtain ⟨rfl, rfl⟩ : g7 = g8 ∧ c7 = d8 := by cases e8; exact ⟨rfl, rfl⟩
                  rw [ha0] at z2
                  have c1 : w8.cell? ⟨lb, off + i, none⟩ = some (.int .i64 (kz : Int)) := row_cell1 (HL.out.later M8.out.bl M8.out.bl.size) HZ.out (Nat.le_refl _)
                  have hown : w8.ownsRow w.heap.size 28 2 (.slice pk K.length ck) K.length (hcells K) := M8.out.rk
                  have hsz := M8.out.bl.size
                  have HGO : Hid (GoneOk (gen) ((tk).set a false) (K ++ [⟨a, y.gen⟩])) := Lib.hid (HGO6.out.give ha1 ha2)
                  have HCT : Hid ((T).length = (K ++ [(⟨a, y.gen⟩ : Hd)]).length + ((tk).set a false).count true) := Lib.hid (by have h1 := HCT6.out; have h2 := count_down ha1; have h3 : (K ++ [(⟨a, y.gen⟩ : Hd)]).length = K.length + 1 := (by rw [List.length_append]; rfl); omega)
                  have HTO := HTO6
                  have HTI := HTI6
                  have HKI : Hid ((K ++ [(⟨a, y.gen⟩ : Hd)]).length ≤ i + 1) := Lib.hid (by have := HKI0.out; rw [List.length_append, List.length_singleton]; omega)
                  have hki := HKI0.out
                  have hi100 := HI.out.2
                  have ha1h := Lib.hid ha1
                  have ha2h := Lib.hid ha2
                  clear hW hT e8 y0 y1 c0 ha1 ha2 D8
                  generalize liveTo (gen) (tk) m = L7 at *
                  go_wp2_with (at_builtin; refine wpList_append_src _ rfl _ _ 35 rfl w.heap.size 28 i0 (.agg #[.int .i64 0, .int .i64 0]) 2 16 Tryd.underlying35 hi hz0 hz1 hz2 rfl (by decide) _ _ _ rfl (hown.alloc _) _ 1 1 [.int .i64 (a : Int), .int .i64 y.gen] rfl ⟨rfl, (fun h => by cases h), fun ad ha => by cases ha; exact cell_two_new _ _ _ _⟩ (by simp [Value.oneCell']) (by unfold maxLen; omega) (by omega) (by simp; omega) ?_; intro vk' w9 hown' hgrow ho)
                  have M9 := Lib.hid (M8.out.gone (x := ⟨a, y.gen⟩) hown' hgrow ho)
                  obtain ⟨pk9, ck9, hv9⟩ := ownsRow_val hown'
                  rw [show K.length + 1 = (K ++ [(⟨a, y.gen⟩ : Hd)]).length by rw [List.length_append]; rfl] at hv9
                  subst hv9
                  clear hown hown' hgrow ho hsz hki hi100 c1 z2 z3
                  generalize hK9 : K ++ [(⟨a, y.gen⟩ : Hd)] = K9 at *
                  go_wp2_with fail
                  go_loopw [15] (fun sv wx => ∃ k : Nat, sv = .int .i64 k ∧ k ≤ (K9).length ∧ Below w9.heap.size w9 wx) (fun sv _ => ((K9).length - (intOf sv).toNat))
                  case atStart => exact ⟨0, rfl, Nat.zero_le _, Below.refl _ _⟩
                  case round =>
                    obtain ⟨k, rfl, hk, hB⟩ := hrel
                    have MX := Lib.hid (M9.out.after hB)
                    have BX := Lib.hid hB
                    clear hB
                    by_cases hkl : k < (K9).length
                    · obtain ⟨y, hy⟩ : ∃ y, (K9)[k]? = some y := ⟨_, List.getElem?_eq_getElem hkl⟩
                      obtain ⟨gx, dx, ex, x0, x1⟩ := MX.out.rk.hds.get hy
                      obtain ⟨rfl, rfl⟩ : pk9 = some ⟨gx, 0, none⟩ ∧ ck9 = dx := by cases ex; exact ⟨rfl, rfl⟩
                      have hd : decide (y ∈ liveTo (gen) ((tk).set a false) m) = false := decide_eq_false (HGO.out.dead (List.mem_of_getElem? hy) m)
                      have HD := Lib.hid hd
                      have HK := Lib.hid hkl
                      have k0 : (0 : Int) ≤ (k : Int) := by omega
                      have k1 : (k : Int) < ((K9).length : Int) := by omega
                      have e11 : IntKind.i64.wrap ((k : Int) + 1) = ((k + 1 : Nat) : Int) := by have := HKI.out; have := HI.out; simp [IntKind.wrap, IntKind.bits, IntKind.signed]; omega
                      clear hd hy hkl hk ex
                      go_wp2_with fail
                      refine (Live_w base sb gb tb _ m _ _ y _ MX.out.sl).mono ?_
                      rintro e wy ⟨rfl, hB⟩
                      rw [HD.out]
                      have BY := Lib.hid (below_call (w := w9) BX.out hB)
                      clear hB x0 x1
                      go_wp2_with fail
                      go_roundw
                      case rel => exact ⟨k + 1, by first | rfl | go_num, HK.out, BY.out⟩
                      case measure => have := HK.out; simp [intOf]; omega
                    · have k1 : k = (K9).length := by omega
                      have k2 : ¬ ((k : Int) < ((K9).length : Int)) := by omega
                      have k3 : decide (k < (K9).length) = false := decide_eq_false hkl
                      have e11 : IntKind.i64.wrap ((k : Int) + 1) = ((k + 1 : Nat) : Int) := by have := HKI.out; have := HI.out; simp [IntKind.wrap, IntKind.bits, IntKind.signed]; omega
                      clear hkl hk k1
                      go_wp2_with fail
                      go_roundw
                      case rel => exact ⟨i + 1, _, _, _, gen, (tk).set a false, T, K9, rfl, rfl, rfl, HI.out.1, HI.out.2, MX.out, HTO.out, HGO.out, HCT.out, HTI.out, HKI.out⟩
                      case measure => have := HI.out.1; simp [intOf]; omega
                · have d1 : decide (z < ((liveTo (gen) (tk) m).length : Int)) = false := decide_eq_false z1
                  clear z0 z1 R7
                  have hgl : Hid (GoneOk (gen) (tk) K) := HGO6
                  have HTO := HTO6
                  have HGO := HGO6
                  have HCT := HCT6
                  have HTI := HTI6
                  have HKI : Hid (K.length ≤ i + 1) := Lib.hid (by have := HKI0.out; omega)
                  go_wp2_with fail
                  go_loopw [15] (fun sv wx => ∃ k : Nat, sv = .int .i64 k ∧ k ≤ (K).length ∧ Below w7.heap.size w7 wx) (fun sv _ => ((K).length - (intOf sv).toNat))
                  case atStart => exact ⟨0, rfl, Nat.zero_le _, Below.refl _ _⟩
                  case round =>
                    obtain ⟨k, rfl, hk, hB⟩ := hrel
                    have MX := Lib.hid (M7.out.after hB)
                    have BX := Lib.hid hB
                    clear hB
                    by_cases hkl : k < (K).length
                    · obtain ⟨y, hy⟩ : ∃ y, (K)[k]? = some y := ⟨_, List.getElem?_eq_getElem hkl⟩
                      obtain ⟨gx, dx, ex, x0, x1⟩ := MX.out.rk.hds.get hy
                      obtain ⟨rfl, rfl⟩ : pk = some ⟨gx, 0, none⟩ ∧ ck = dx := by cases ex; exact ⟨rfl, rfl⟩
                      have hd : decide (y ∈ liveTo (gen) (tk) m) = false := decide_eq_false (HGO.out.dead (List.mem_of_getElem? hy) m)
                      have HD := Lib.hid hd
                      have HK := Lib.hid hkl
                      have k0 : (0 : Int) ≤ (k : Int) := by omega
                      have k1 : (k : Int) < ((K).length : Int) := by omega
                      have e11 : IntKind.i64.wrap ((k : Int) + 1) = ((k + 1 : Nat) : Int) := by have := HKI.out; have := HI.out; simp [IntKind.wrap, IntKind.bits, IntKind.signed]; omega
                      clear hd hy hkl hk ex
                      go_wp2_with fail
                      refine (Live_w base sb gb tb _ m _ _ y _ MX.out.sl).mono ?_
                      rintro e wy ⟨rfl, hB⟩
                      rw [HD.out]
                      have BY := Lib.hid (below_call (w := w7) BX.out hB)
                      clear hB x0 x1
                      go_wp2_with fail
                      go_roundw
                      case rel => exact ⟨k + 1, by first | rfl | go_num, HK.out, BY.out⟩
                      case measure => have := HK.out; simp [intOf]; omega
                    · have k1 : k = (K).length := by omega
                      have k2 : ¬ ((k : Int) < ((K).length : Int)) := by omega
                      have k3 : decide (k < (K).length) = false := decide_eq_false hkl
                      have e11 : IntKind.i64.wrap ((k : Int) + 1) = ((k + 1 : Nat) : Int) := by have := HKI.out; have := HI.out; simp [IntKind.wrap, IntKind.bits, IntKind.signed]; omega
                      clear hkl hk k1
                      go_wp2_with fail
                      go_roundw
                      case rel => exact ⟨i + 1, _, _, _, gen, tk, T, K, rfl, rfl, rfl, HI.out.1, HI.out.2, MX.out, HTO.out, HGO.out, HCT.out, HTI.out, HKI.out⟩
                      case measure => have := HI.out.1; simp [intOf]; omega
              · have d0 : decide (0 ≤ z) = false := decide_eq_false z0
                clear z0 R7
                have HTO := HTO6
                have HGO := HGO6
                have HCT := HCT6
                have HTI := HTI6
                have HKI : Hid (K.length ≤ i + 1) := Lib.hid (by have := HKI0.out; omega)
                go_wp2_with fail
                go_loopw [15] (fun sv wx => ∃ k : Nat, sv = .int .i64 k ∧ k ≤ (K).length ∧ Below w7.heap.size w7 wx) (fun sv _ => ((K).length - (intOf sv).toNat))
                case atStart => exact ⟨0, rfl, Nat.zero_le _, Below.refl _ _⟩
                case round =>
                  obtain ⟨k, rfl, hk, hB⟩ := hrel
                  have MX := Lib.hid (M7.out.after hB)
                  have BX := Lib.hid hB
                  clear hB
                  by_cases hkl : k < (K).length
                  · obtain ⟨y, hy⟩ : ∃ y, (K)[k]? = some y := ⟨_, List.getElem?_eq_getElem hkl⟩
                    obtain ⟨gx, dx, ex, x0, x1⟩ := MX.out.rk.hds.get hy
                    obtain ⟨rfl, rfl⟩ : pk = some ⟨gx, 0, none⟩ ∧ ck = dx := by cases ex; exact ⟨rfl, rfl⟩
                    have hd : decide (y ∈ liveTo (gen) (tk) m) = false := decide_eq_false (HGO.out.dead (List.mem_of_getElem? hy) m)
                    have HD := Lib.hid hd
                    have HK := Lib.hid hkl
                    have k0 : (0 : Int) ≤ (k : Int) := by omega
                    have k1 : (k : Int) < ((K).length : Int) := by omega
                    have e11 : IntKind.i64.wrap ((k : Int) + 1) = ((k + 1 : Nat) : Int) := by have := HKI.out; have := HI.out; simp [IntKind.wrap, IntKind.bits, IntKind.signed]; omega
                    clear hd hy hkl hk ex
                    go_wp2_with fail
                    refine (Live_w base sb gb tb _ m _ _ y _ MX.out.sl).mono ?_
                    rintro e wy ⟨rfl, hB⟩
                    rw [HD.out]
                    have BY := Lib.hid (below_call (w := w7) BX.out hB)
                    clear hB x0 x1
                    go_wp2_with fail
                    go_roundw
                    case rel => exact ⟨k + 1, by first | rfl | go_num, HK.out, BY.out⟩
                    case measure => have := HK.out; simp [intOf]; omega
                  · have k1 : k = (K).length := by omega
                    have k2 : ¬ ((k : Int) < ((K).length : Int)) := by omega
                    have k3 : decide (k < (K).length) = false := decide_eq_false hkl
                    have e11 : IntKind.i64.wrap ((k : Int) + 1) = ((k + 1 : Nat) : Int) := by have := HKI.out; have := HI.out; simp [IntKind.wrap, IntKind.bits, IntKind.signed]; omega
                    clear hkl hk k1
                    go_wp2_with fail
                    go_roundw
                    case rel => exact ⟨i + 1, _, _, _, gen, tk, T, K, rfl, rfl, rfl, HI.out.1, HI.out.2, MX.out, HTO.out, HGO.out, HCT.out, HTI.out, HKI.out⟩
                    case measure => have := HI.out.1; simp [intOf]; omega
      · have hfin : Hid (live_all (n := m) (gen := gen) (tk := tk) HLW.out.1 HLW.out.2 = live_all (n := m) (gen := gen) (tk := tk) HLW.out.1 HLW.out.2) := Lib.hid rfl
        have hsub : IntKind.i64.wrap ((T.length : Int) - (K.length : Int)) = ((tk.count true : Nat) : Int) := by
          have h1 := HCT0.out
          have h2 := HTI0.out
          simp [IntKind.wrap, IntKind.bits, IntKind.signed]; omega
        clear hfin
        by_cases hil : i < l.length
        · obtain rfl : i = 100 := by omega
          have f1 : decide (((100 : Nat) : Int) < (l.length : Int)) = true := decide_eq_true (by omega)
          have f2 : (100 : Int) < (l.length : Int) := by omega
          clear hi0 hi1 hgo hil
          go_wp2_with fail
          refine (All_w base sb gb tb vr m gen tk _ MR.out.sl).mono ?_
          rintro e w3 ⟨v3, rfl, hR, hB⟩
          obtain ⟨p3, c3, rfl⟩ := ownsRow_val hR
          rw [live_all HLW.out.1 HLW.out.2]
          have MF := Lib.hid (MR.out.after hB)
          clear hR hB
          go_wp2_with fail
          refine (Used_w base sb gb tb vr m gen tk _ MF.out.sl).mono ?_
          rintro e w4 ⟨rfl, rfl⟩
          go_wp2_with fail
          refine (Used_w base sb gb tb vr m gen tk _ MF.out.sl).mono ?_
          rintro e w4 ⟨rfl, rfl⟩
          go_wp2_with fail
          go_ret
          exact ⟨rfl, MF.out.bl⟩
        · obtain rfl : i = l.length := by omega
          clear hi0 hi1 hgo hil
          go_wp2_with fail
          refine (All_w base sb gb tb vr m gen tk _ MR.out.sl).mono ?_
          rintro e w3 ⟨v3, rfl, hR, hB⟩
          obtain ⟨p3, c3, rfl⟩ := ownsRow_val hR
          rw [live_all HLW.out.1 HLW.out.2]
          have MF := Lib.hid (MR.out.after hB)
          clear hR hB
          go_wp2_with fail
          refine (Used_w base sb gb tb vr m gen tk _ MF.out.sl).mono ?_
          rintro e w4 ⟨rfl, rfl⟩
          go_wp2_with fail
          refine (Used_w base sb gb tb vr m gen tk _ MF.out.sl).mono ?_
          rintro e w4 ⟨rfl, rfl⟩
          go_wp2_with fail
          go_ret
          exact ⟨rfl, MF.out.bl⟩
end Go.Proofs.YtgjnmpbahekbfaaDoor
