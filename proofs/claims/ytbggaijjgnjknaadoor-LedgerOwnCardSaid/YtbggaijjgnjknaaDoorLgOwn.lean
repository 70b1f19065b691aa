/-
  STATEMENT LedgerOwn: its walk.
-/
import Derived.Test.YtbggaijjgnjknaaDoorLgO
import Derived.Test.YtbggaijjgnjknaaDoorLgM
namespace Go.Proofs.YtbggaijjgnjknaaDoor
open Go.RowKit

/-- a row of lines whose block lies between two bounds -/
def Room (b e : Nat) (W : World) (p : Option Addr) (n : Nat) : Prop := n = 0 ∨ ∃ g cs, p = some ⟨g, 0, none⟩ ∧ b ≤ g ∧ g < e ∧ Blk W g 42 cs ∧ n * 4 ≤ cs.size
theorem Room.of {b : Nat} {W : World} {p : Option Addr} {c : Nat} {l : List Ln} (h : OwnL b W (.slice p l.length c) l) : Room b W.heap.size W p l.length := by
  rcases h.2 with ⟨_, h0⟩ | ⟨g, cap, cur, hv, hb, hh, hc, hm, hs, ht⟩
  · exact .inl h0
  · simp only [Value.slice.injEq] at hv
    obtain ⟨rfl, _, rfl⟩ := hv
    have hbk : Blk W g 42 cur := hh
    exact .inr ⟨g, cur, rfl, hb, hbk.lt, hbk, by omega⟩
theorem Room.after {b e : Nat} {W W' : World} {p : Option Addr} {n : Nat} (h : Room b e W p n) (hb : Below W.heap.size W W') : Room b e W' p n := by
  rcases h with h | ⟨g, cs, hp, h1, h2, h3, h4⟩
  · exact .inl h
  · exact .inr ⟨g, cs, hp, h1, h2, h3.after hb, h4⟩
theorem Room.keepT {b e : Nat} {W W' : World} {p : Option Addr} {n : Nat} {T : Nat → Prop} (h : Room b e W p n) (k : Turns T W W') (hT : ∀ g, b ≤ g → g < e → ¬ T g) : Room b e W' p n := by
  rcases h with h | ⟨g, cs, hp, h1, h2, h3, h4⟩
  · exact .inl h
  · exact .inr ⟨g, cs, hp, h1, h2, h3.keepT k (hT g h1 h2), h4⟩
theorem app_new {W w' : World} {v' : Value} {l : List Ln} (h : w'.ownsRow W.heap.size 42 4 v' (0 + l.length) ([] ++ lcells l)) (hg : W.grownBy w' (Value.slice none 0 0).ownBlock) : ∃ p c, v' = .slice p l.length c ∧ OwnL W.heap.size w' (.slice p l.length c) l ∧ Below W.heap.size W w' := by
  rw [Nat.zero_add, List.nil_append] at h
  have h' : OwnL W.heap.size w' v' l := h
  obtain ⟨p, c, rfl⟩ := h'.val
  exact ⟨p, c, rfl, h', ((Turns.refl (fun k => W.heap.size ≤ k) W).grown hg (fun k hk => by simp [Value.ownBlock] at hk)).down (Nat.le_refl _) (fun _ hk => hk)⟩
set_option maxRecDepth 100000 in
set_option maxHeartbeats 16000000 in
theorem own_walk (v : Value) (l : List Ln) (q : Int) (a : Lab) (n : Int) (w : World) (hh : Handle w) (hl : LnsAt w v l) :
    Calls Tryd.prog 7 #[v, .int .i64 q, .agg #[.int .i64 a.lv, .int .u64 (u a.c), .int .i64 a.ig], .int .i64 n] w (Yes w) := by
  have HH := Lib.hid hh
  have HL := Lib.hid hl
  obtain ⟨A, c, rfl, _, _, _⟩ := hl.slice
  clear hh hl
  go_enter Tryd.func7, Tryd.ntmps7
  go_wp2_with fail
  refine (shown_any _ (HH.out.up (below_alloc (Below.refl _ _) _))).mono ?_
  rintro e w1 ⟨rfl, hB⟩
  have B1 := Lib.hid (below_call (w := w) (below_alloc (Below.refl _ _) _) hB)
  have LA := Lib.hid ((Blk.new' rfl : Blk (w.alloc (.cells #[.int .i64 a.lv, .int .u64 (u a.c), .int .i64 a.ig] 25)) w.heap.size 25 #[.int .i64 a.lv, .int .u64 (u a.c), .int .i64 a.ig]).after hB)
  clear hB
  go_wp2_with fail
  refine (few_at _ l _ (HL.out.later B1.out B1.out.size)).mono ?_
  rintro e w2 ⟨p, c, L, rfl, H42, hT, rfl⟩
  have HT := Lib.hid hT
  have HLE := Lib.hid (Nat.le_trans H42.out (by decide : (42 : Nat) ≤ 900))
  clear hT HL
  obtain ⟨i0, hi, hz0, hz1, hz2⟩ := info_parts infoLn
  have hsrc := (RowsAt.src (enc := encLn) (s := 4) (fun _ => rfl) (by decide) HT.out).1
  have h42 := H42.out
  go_wp2_with (at_builtin; refine wpList_append_src _ rfl _ _ 22 rfl w1.heap.size 42 i0 (.agg #[.int .i64 0, .int .u64 0, .int .i64 0, .int .i64 0]) 4 32 Tryd.underlying22 hi hz0 hz1 hz2 rfl (by decide) _ _ _ rfl (World.ownsRow_nil _ _ _ _) _ L.length c (lcells L) rfl hsrc (lcells_one L) (by unfold maxLen; omega) (by omega) (Nat.le_refl _) ?_; intro v' w3 hown' hgrow _; obtain ⟨pw, cw, rfl, hOW, hBW⟩ := app_new hown' hgrow; have x0 := (LA.out.after hBW).at_ (i := 0) (v := .int .i64 a.lv) rfl; have x1 := (LA.out.after hBW).at_ (i := 1) (v := .int .u64 (u a.c)) rfl; have x2 := (LA.out.after hBW).at_ (i := 2) (v := .int .i64 a.ig) rfl)
  have B3 := Lib.hid (below_call (w := w) B1.out hBW)
  have BF := Lib.hid hBW
  have OW := Lib.hid hOW
  have HWB := Lib.hid (show ∀ g, (Value.slice pw L.length cw).ownBlock = some g → g < w3.heap.size from fun g hg => (hOW.blk hg).2.choose_spec.lt)
  have S1 := Lib.hid B1.out.size
  have S3 := Lib.hid hBW.size
  replace LA := Lib.hid (LA.out.after hBW)
  clear hown' hgrow hOW hBW hsrc h42 hi hz0 hz1 hz2
  refine (charge_at _ L q a n _ (HT.out.later BF.out BF.out.size) HLE.out (HH.out.up B3.out)).mono ?_
  rintro e w4 ⟨v4, e4, L4, rfl, E4, F4, hO, hB⟩
  obtain ⟨p4, c4, rfl⟩ := hO.val
  have B4 := Lib.hid (below_call (w := w) B3.out hB)
  replace LA := Lib.hid (LA.out.after hB)
  replace OW := Lib.hid (OW.out.after hB)
  replace BF := Lib.hid (below_call (w := w1) BF.out hB)
  have RM4 := Lib.hid (Room.of hO)
  have S4 := Lib.hid hB.size
  clear hO hB x0 x1 x2
  have x0 := LA.out.at_ (i := 0) (v := .int .i64 a.lv) rfl
  have x1 := LA.out.at_ (i := 1) (v := .int .u64 (u a.c)) rfl
  have x2 := LA.out.at_ (i := 2) (v := .int .i64 a.ig) rfl
  go_wp2_with fail
  refine (refund_at _ L a 0 _ (HT.out.later BF.out BF.out.size) HLE.out (HH.out.up B4.out)).mono ?_
  rintro e w5 ⟨v5, e5, L5, rfl, E5, F5, hO, hB⟩
  obtain ⟨p5, c5, rfl⟩ := hO.val
  have B5 := Lib.hid (below_call (w := w) B4.out hB)
  replace LA := Lib.hid (LA.out.after hB)
  replace OW := Lib.hid (OW.out.after hB)
  replace BF := Lib.hid (below_call (w := w1) BF.out hB)
  replace RM4 := Lib.hid (RM4.out.after hB)
  have RM5 := Lib.hid (Room.of hO)
  have S5 := Lib.hid hB.size
  clear hO x0 x1 x2
  clear hB
  go_wp2_with fail
  refine (Top_any _).mono ?_
  rintro e w6 ⟨rfl, hB⟩
  have B6 := Lib.hid (below_call (w := w) B5.out hB)
  replace LA := Lib.hid (LA.out.after hB)
  replace OW := Lib.hid (OW.out.after hB)
  replace BF := Lib.hid (below_call (w := w1) BF.out hB)
  replace RM4 := Lib.hid (RM4.out.after hB)
  replace RM5 := Lib.hid (RM5.out.after hB)
  have S6 := Lib.hid hB.size
  clear hB
  go_wp2_with fail
  refine (seen_at L _ topL _ (HT.out.later BF.out BF.out.size) HLE.out).mono ?_
  rintro e w7 ⟨p7, c7, L7, rfl, F7, hO, hB⟩
  have B7 := Lib.hid (below_call (w := w) B6.out hB)
  replace LA := Lib.hid (LA.out.after hB)
  replace OW := Lib.hid (OW.out.after hB)
  replace BF := Lib.hid (below_call (w := w1) BF.out hB)
  replace RM4 := Lib.hid (RM4.out.after hB)
  replace RM5 := Lib.hid (RM5.out.after hB)
  have RM7 := Lib.hid (Room.of hO)
  have S7 := Lib.hid hB.size
  clear hO
  clear hB
  have OK4 : Hid (e4 = 0 ∨ L4 = []) := Lib.hid (by
    by_cases z : e4 = 0
    · exact .inl z
    · exact .inr (by rw [F4.out]; exact charge_no (by rw [← E4.out]; exact z)))
  have OK5 : Hid (e5 = 0 ∨ L5 = []) := Lib.hid (by
    by_cases z : e5 = 0
    · exact .inl z
    · exact .inr (by rw [F5.out]; exact refund_no (by rw [← E5.out]; exact z)))
  have HLN4 : Hid (L4.length ≤ 900) := Lib.hid (len_one F4.out H42.out)
  have HLN5 : Hid (L5.length ≤ 900) := Lib.hid (refund_len1 F5.out H42.out)
  have HLN7 : Hid (L7.length ≤ 900) := Lib.hid (by rw [F7.out]; exact Nat.le_trans (List.length_filter_le _ _) HLE.out)
  clear E4 F4 E5 F5 F7 LA
  go_wp2_with fail
  go_loopw [16] (fun s wr => ∃ j : Nat, s = .int .i64 j ∧ j ≤ L4.length ∧ Room w3.heap.size w4.heap.size wr p4 L4.length ∧ Turns (fun k => w3.heap.size ≤ k ∧ k < w4.heap.size) w7 wr) (fun s _ => L4.length - (intOf s).toNat)
  case atStart => exact ⟨0, rfl, Nat.zero_le _, RM4.out, Turns.refl _ _⟩
  case round =>
    obtain ⟨j, rfl, hj, hrm, hT⟩ := hrel
    by_cases hjn : j < L4.length
    · rcases hrm with h0 | ⟨g, cs, rfl, hbg, hge, hblk, hsz⟩
      · exact absurd h0 (by omega)
      · obtain ⟨z, hz⟩ : ∃ z, cs[j * 4 + 3]? = some z := ⟨_, Array.getElem?_eq_getElem (by omega)⟩
        have HLT := Lib.hid hjn
        have HB := Lib.hid hblk
        have HTT := Lib.hid hT
        have HG := Lib.hid (And.intro hbg hge)
        have HZ := Lib.hid hsz
        have hlen := HLN4.out
        have k0 : (0 : Int) ≤ (j : Int) := by omega
        have k1 : (j : Int) < (L4.length : Int) := by omega
        have e10 : IntKind.i64.wrap ((j : Int) + 1) = ((j + 1 : Nat) : Int) := wrapI _ (by omega)
        have c3 : wr.cell? ⟨g, j * 4 + 3, none⟩ = some z := hblk.at_ hz
        have f3 : wr.frozen? ⟨g, j * 4 + 3, none⟩ = false := hblk.frozen (j * 4 + 3)
        clear hz hblk hT hbg hge hsz hj hjn hlen
        go_wp2_with fail
        go_roundw
        case rel => exact ⟨j + 1, by first | rfl | go_num, HLT.out, .inr ⟨g, _, rfl, HG.out.1, HG.out.2, HB.out.set' rfl, by simpa using HZ.out⟩, HTT.out.setCell (p := ⟨g, j * 4 + 3, none⟩) HG.out _⟩
        case measure => have := HLT.out; simp [intOf]; omega
    · obtain rfl : j = L4.length := by omega
      have kk : ¬ ((L4.length : Int) < (L4.length : Int)) := by omega
      rename World => w8
      have hs : w.heap.size ≤ w1.heap.size ∧ w1.heap.size ≤ w3.heap.size ∧ w3.heap.size ≤ w4.heap.size ∧ w4.heap.size ≤ w5.heap.size ∧ w5.heap.size ≤ w6.heap.size ∧ w6.heap.size ≤ w7.heap.size := ⟨S1.out, S3.out, S4.out, S5.out, S6.out, S7.out⟩
      have B8 := Lib.hid (B7.out.trans (hT.down B7.out.size (fun k hk => by omega)))
      replace BF := Lib.hid (BF.out.trans (hT.down BF.out.size (fun k hk => by omega)))
      replace OW := Lib.hid (OW.out.keepT hT (fun g hg => by have := HWB.out g hg; omega))
      replace RM5 := Lib.hid (RM5.out.keepT hT (fun g h1 h2 => by omega))
      replace RM7 := Lib.hid (RM7.out.keepT hT (fun g h1 h2 => by omega))
      clear hT hs hj hjn hrm
      go_wp2_with fail
      go_loopw [17] (fun s wr => ∃ j : Nat, s = .int .i64 j ∧ j ≤ L5.length ∧ Room w4.heap.size w5.heap.size wr p5 L5.length ∧ Turns (fun k => w4.heap.size ≤ k ∧ k < w5.heap.size) w8 wr) (fun s _ => L5.length - (intOf s).toNat)
      case atStart => exact ⟨0, rfl, Nat.zero_le _, RM5.out, Turns.refl _ _⟩
      case round =>
        obtain ⟨j, rfl, hj, hrm, hT⟩ := hrel
        by_cases hjn : j < L5.length
        · rcases hrm with h0 | ⟨g, cs, rfl, hbg, hge, hblk, hsz⟩
          · exact absurd h0 (by omega)
          · obtain ⟨z, hz⟩ : ∃ z, cs[j * 4 + 3]? = some z := ⟨_, Array.getElem?_eq_getElem (by omega)⟩
            have HLT := Lib.hid hjn
            have HB := Lib.hid hblk
            have HTT := Lib.hid hT
            have HG := Lib.hid (And.intro hbg hge)
            have HZ := Lib.hid hsz
            have hlen := HLN5.out
            have k0 : (0 : Int) ≤ (j : Int) := by omega
            have k1 : (j : Int) < (L5.length : Int) := by omega
            have e10 : IntKind.i64.wrap ((j : Int) + 1) = ((j + 1 : Nat) : Int) := wrapI _ (by omega)
            have c3 : wr.cell? ⟨g, j * 4 + 3, none⟩ = some z := hblk.at_ hz
            have f3 : wr.frozen? ⟨g, j * 4 + 3, none⟩ = false := hblk.frozen (j * 4 + 3)
            clear hz hblk hT hbg hge hsz hj hjn hlen
            go_wp2_with fail
            go_roundw
            case rel => exact ⟨j + 1, by first | rfl | go_num, HLT.out, .inr ⟨g, _, rfl, HG.out.1, HG.out.2, HB.out.set' rfl, by simpa using HZ.out⟩, HTT.out.setCell (p := ⟨g, j * 4 + 3, none⟩) HG.out _⟩
            case measure => have := HLT.out; simp [intOf]; omega
        · obtain rfl : j = L5.length := by omega
          have kk : ¬ ((L5.length : Int) < (L5.length : Int)) := by omega
          rename World => w9
          have hs : w.heap.size ≤ w1.heap.size ∧ w1.heap.size ≤ w3.heap.size ∧ w3.heap.size ≤ w4.heap.size ∧ w4.heap.size ≤ w5.heap.size ∧ w5.heap.size ≤ w6.heap.size ∧ w6.heap.size ≤ w7.heap.size := ⟨S1.out, S3.out, S4.out, S5.out, S6.out, S7.out⟩
          have B9 := Lib.hid (B8.out.trans (hT.down B8.out.size (fun k hk => by omega)))
          replace BF := Lib.hid (BF.out.trans (hT.down BF.out.size (fun k hk => by omega)))
          replace OW := Lib.hid (OW.out.keepT hT (fun g hg => by have := HWB.out g hg; omega))
          replace RM7 := Lib.hid (RM7.out.keepT hT (fun g h1 h2 => by omega))
          clear hT hs hj hjn hrm
          go_wp2_with fail
          go_loopw [18] (fun s wr => ∃ j : Nat, s = .int .i64 j ∧ j ≤ L7.length ∧ Room w6.heap.size w7.heap.size wr p7 L7.length ∧ Turns (fun k => w6.heap.size ≤ k ∧ k < w7.heap.size) w9 wr) (fun s _ => L7.length - (intOf s).toNat)
          case atStart => exact ⟨0, rfl, Nat.zero_le _, RM7.out, Turns.refl _ _⟩
          case round =>
            obtain ⟨j, rfl, hj, hrm, hT⟩ := hrel
            by_cases hjn : j < L7.length
            · rcases hrm with h0 | ⟨g, cs, rfl, hbg, hge, hblk, hsz⟩
              · exact absurd h0 (by omega)
              · obtain ⟨z, hz⟩ : ∃ z, cs[j * 4 + 3]? = some z := ⟨_, Array.getElem?_eq_getElem (by omega)⟩
                have HLT := Lib.hid hjn
                have HB := Lib.hid hblk
                have HTT := Lib.hid hT
                have HG := Lib.hid (And.intro hbg hge)
                have HZ := Lib.hid hsz
                have hlen := HLN7.out
                have k0 : (0 : Int) ≤ (j : Int) := by omega
                have k1 : (j : Int) < (L7.length : Int) := by omega
                have e10 : IntKind.i64.wrap ((j : Int) + 1) = ((j + 1 : Nat) : Int) := wrapI _ (by omega)
                have c3 : wr.cell? ⟨g, j * 4 + 3, none⟩ = some z := hblk.at_ hz
                have f3 : wr.frozen? ⟨g, j * 4 + 3, none⟩ = false := hblk.frozen (j * 4 + 3)
                clear hz hblk hT hbg hge hsz hj hjn hlen
                go_wp2_with fail
                go_roundw
                case rel => exact ⟨j + 1, by first | rfl | go_num, HLT.out, .inr ⟨g, _, rfl, HG.out.1, HG.out.2, HB.out.set' rfl, by simpa using HZ.out⟩, HTT.out.setCell (p := ⟨g, j * 4 + 3, none⟩) HG.out _⟩
                case measure => have := HLT.out; simp [intOf]; omega
            · obtain rfl : j = L7.length := by omega
              have kk : ¬ ((L7.length : Int) < (L7.length : Int)) := by omega
              rename World => w10
              have hs : w.heap.size ≤ w1.heap.size ∧ w1.heap.size ≤ w3.heap.size ∧ w3.heap.size ≤ w4.heap.size ∧ w4.heap.size ≤ w5.heap.size ∧ w5.heap.size ≤ w6.heap.size ∧ w6.heap.size ≤ w7.heap.size := ⟨S1.out, S3.out, S4.out, S5.out, S6.out, S7.out⟩
              have B10 := Lib.hid (B9.out.trans (hT.down B9.out.size (fun k hk => by omega)))
              replace BF := Lib.hid (BF.out.trans (hT.down BF.out.size (fun k hk => by omega)))
              replace OW := Lib.hid (OW.out.keepT hT (fun g hg => by have := HWB.out g hg; omega))
              clear hT hs hj hjn hrm
              by_cases n4 : e4 = 0
              · subst n4
                by_cases n5 : e5 = 0
                · subst n5
                  go_wp2_with fail
                  refine (rsame_yes _ _ L L _ (HT.out.later BF.out BF.out.size) OW.out.lns rfl).mono ?_
                  rintro e w11 ⟨rfl, hB⟩
                  have B11 := Lib.hid (below_call (w := w) B10.out hB)
                  clear hB
                  go_wp2_with fail
                  go_ret
                  exact ⟨rfl, B11.out⟩
                · have hnil5 : L5.length = 0 := by rcases OK5.out with h | h; exact absurd h n5; rw [h]; rfl
                  have d5 : (e5 == 0) = false := beq_eq_false_iff_ne.2 n5
                  have q5 : ((L5.length : Int) == 0) = true := by rw [hnil5]; rfl
                  clear n5
                  go_wp2_with fail
                  refine (rsame_yes _ _ L L _ (HT.out.later BF.out BF.out.size) OW.out.lns rfl).mono ?_
                  rintro e w11 ⟨rfl, hB⟩
                  have B11 := Lib.hid (below_call (w := w) B10.out hB)
                  clear hB
                  go_wp2_with fail
                  go_ret
                  exact ⟨rfl, B11.out⟩
              · have hnil4 : L4.length = 0 := by rcases OK4.out with h | h; exact absurd h n4; rw [h]; rfl
                have d4 : (e4 == 0) = false := beq_eq_false_iff_ne.2 n4
                have q4 : ((L4.length : Int) == 0) = true := by rw [hnil4]; rfl
                clear n4
                by_cases n5 : e5 = 0
                · subst n5
                  go_wp2_with fail
                  refine (rsame_yes _ _ L L _ (HT.out.later BF.out BF.out.size) OW.out.lns rfl).mono ?_
                  rintro e w11 ⟨rfl, hB⟩
                  have B11 := Lib.hid (below_call (w := w) B10.out hB)
                  clear hB
                  go_wp2_with fail
                  go_ret
                  exact ⟨rfl, B11.out⟩
                · have hnil5 : L5.length = 0 := by rcases OK5.out with h | h; exact absurd h n5; rw [h]; rfl
                  have d5 : (e5 == 0) = false := beq_eq_false_iff_ne.2 n5
                  have q5 : ((L5.length : Int) == 0) = true := by rw [hnil5]; rfl
                  clear n5
                  go_wp2_with fail
                  refine (rsame_yes _ _ L L _ (HT.out.later BF.out BF.out.size) OW.out.lns rfl).mono ?_
                  rintro e w11 ⟨rfl, hB⟩
                  have B11 := Lib.hid (below_call (w := w) B10.out hB)
                  clear hB
                  go_wp2_with fail
                  go_ret
                  exact ⟨rfl, B11.out⟩
end Go.Proofs.YtbggaijjgnjknaaDoor
