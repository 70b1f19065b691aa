/-
  STATEMENT SlotsActs: its walk.
-/
import Derived.Test.YtgjnmpbahekbfaaDoorSlPa
import Derived.Test.YtgjnmpbahekbfaaDoorOpenI
namespace Go.Proofs.YtgjnmpbahekbfaaDoor
open Go.RowKit

theorem row_cell3 {B : Nat} {w : World} {b off m c : Nat} {l : List ActS} (h : RowsAt encAc 3 B w (.slice (some ⟨b, off, none⟩) m c) l) {k : Nat} {x : ActS} (hx : l[k]? = some x) (hB : B ≤ w.heap.size) : w.cell? ⟨b, off + k * 3, none⟩ = some (.bool x.take) ∧ w.cell? ⟨b, off + k * 3 + 1, none⟩ = some (.int .i64 x.h.slot) ∧ w.cell? ⟨b, off + k * 3 + 2, none⟩ = some (.int .i64 x.h.gen) := by
  obtain ⟨b', off', e, _, he⟩ := h.el hx hB
  cases e
  exact ⟨he.at_ (i := 0) rfl, he.at_ (i := 1) rfl, he.at_ (i := 2) rfl⟩
set_option maxRecDepth 100000 in
set_option maxHeartbeats 32000000 in
theorem acts_walk (n : Int) (l : List ActS) (v0 : Value) (ea eb : Addr) (w : World) (he : SentS w ea eb) (hl : RowsAt encAc 3 w.heap.size w v0 l) :
    Calls Tryd.prog 6 #[.int .i64 n, v0] w (Yes w) := by
  have HE := Lib.hid he
  obtain ⟨A, cA, rfl, _, hsc, _⟩ := hl.slice
  have HL := Lib.hid hl
  clear he hl
  by_cases hn : n < 1 ∨ 64 < n
  · have HN := Lib.hid hn
    clear hn
    go_enter Tryd.func6, Tryd.ntmps6
    go_wp2_with fail
    refine (shown_any ea eb w HE.out).mono ?_
    rintro e w1 ⟨rfl, hB⟩
    have B := Lib.hid hB
    clear hB
    go_wp2_with fail
    refine (New_bad n w1 HN.out).mono ?_
    rintro e w2 ⟨rfl, rfl⟩
    go_wp2_with fail
    refine (rNew_bad n w1 HN.out).mono ?_
    rintro e w2 ⟨rfl, rfl⟩
    go_wp2_with fail
    go_ret
    exact ⟨rfl, B.out⟩
  · obtain ⟨m, rfl⟩ : ∃ m : Nat, n = m := ⟨n.toNat, by omega⟩
    have m1 : Hid (1 ≤ m) := Lib.hid (by omega)
    have m2 : Hid (m ≤ 64) := Lib.hid (by omega)
    clear hn
    go_enter Tryd.func6, Tryd.ntmps6
    go_wp2_with fail
    refine (shown_any ea eb w HE.out).mono ?_
    rintro e w1 ⟨rfl, hB⟩
    have B := Lib.hid hB
    clear hB
    go_wp2_with fail
    refine (New_w m w1 m1.out m2.out).mono ?_
    rintro e w2 ⟨sb, gb, tb, v, rfl, hW, hB, h1, h2, h3⟩
    have B2 := Lib.hid (below_call B.out hB)
    have W2 := Lib.hid hW
    have hw := B.out.size
    have HM : Hid (w.heap.size ≤ sb ∧ w.heap.size ≤ gb ∧ w.heap.size ≤ tb ∧ w.heap.size ≤ w1.heap.size + 3) := Lib.hid ⟨by omega, by omega, by omega, by omega⟩
    obtain ⟨base, hbase⟩ : ∃ base, base = w1.heap.size + 3 := ⟨_, rfl⟩
    rw [← hbase] at W2 HM
    have HA : Hid (Above ea eb base sb gb tb) := Lib.hid ⟨w.heap.size, HE.out.lt, HM.out⟩
    clear hB hW h1 h2 h3 hw hbase
    go_wp2_with fail
    refine (rNew_any m w2 m1.out m2.out).mono ?_
    rintro e w3 ⟨rb, rg, rt, rfl, hR, hB, h1, h2, h3⟩
    have M0 : Hid (ActM w w3 base sb gb tb v rb rg rt m (List.replicate m 0) (List.replicate m false) (List.replicate m 0) (List.replicate m false)) := Lib.hid (by
      obtain ⟨l0, l1, l2, l3⟩ := W2.out.lts
      have hw := B2.out.size
      exact ⟨W2.out.after hB, hR, by omega, by omega, fun g hg => by have := l3 g hg; omega, below_call (w := w) B2.out hB, by omega, by omega⟩)
    clear hR hB h1 h2 h3
    go_wp2_with fail
    go_loopw [10] (fun iv wr => ∃ (i : Nat) (vr : Value) (gen : List Int) (tk : List Bool), iv = .int .i64 i ∧ i ≤ l.length ∧ i ≤ 200 ∧ ActM w wr base sb gb tb vr rb rg rt m gen tk gen tk) (fun iv _ => (l.length - (intOf iv).toNat))
    case atStart => exact ⟨0, v, _, _, rfl, Nat.zero_le _, by omega, M0.out⟩
    case round =>
      obtain ⟨i, vr, gen, tk, rfl, hi0, hi1, hM⟩ := hrel
      have MR := Lib.hid hM
      clear hM
      by_cases hgo : i < l.length ∧ i ≠ 200
      · obtain ⟨hil, h100⟩ := hgo
        have f0 : (0 : Int) ≤ (i : Int) := by omega
        have f1 : (i : Int) < (l.length : Int) := by omega
        have f2 : decide ((i : Int) < 200) = true := decide_eq_true (by omega)
        have e10 : IntKind.i64.wrap ((i : Int) + 1) = ((i + 1 : Nat) : Int) := by simp [IntKind.wrap, IntKind.bits, IntKind.signed]; omega
        have HI : Hid (i + 1 ≤ l.length ∧ i + 1 ≤ 200) := Lib.hid ⟨by omega, by omega⟩
        obtain ⟨z, hz⟩ : ∃ z, l[i]? = some z := ⟨_, List.getElem?_eq_getElem hil⟩
        have HZ := Lib.hid hz
        obtain ⟨lb, off, rfl, _, _⟩ := HL.out.el hz (Nat.le_refl _)
        obtain ⟨c0, c1, c2⟩ := row_cell3 (HL.out.later MR.out.bl MR.out.bl.size) hz (Nat.le_refl _)
        obtain ⟨tf, s, y⟩ := z
        clear hi0 hi1 hil h100 hz
        simp only at c0 c1 c2
        have X3' : Blk (wr.alloc (.cells #[.bool tf, .int .i64 s, .int .i64 y] 43)) wr.heap.size 43 #[.bool tf, .int .i64 s, .int .i64 y] := Blk.new' rfl
        have d0 := X3'.at_ (i := 0) (v := .bool tf) rfl
        have d1 := X3'.at_ (i := 1) (v := .int .i64 s) rfl
        have d2 := X3'.at_ (i := 2) (v := .int .i64 y) rfl
        cases tf
        · by_cases hlive : (⟨s, y⟩ : Hd) ∈ liveTo gen tk m
          · have HD := Lib.hid (decide_eq_true hlive)
            obtain ⟨a, _, ha0, ha1, ha2⟩ := live_mem_iff.1 hlive
            have HA0 : Hid (s = (a : Int)) := Lib.hid ha0
            have HT1 := Lib.hid ha1
            have HT2 : Hid (gen[a]? = some y) := Lib.hid ha2
            clear hlive ha0 ha1 ha2
            have M3 := Lib.hid (MR.out.alloc (.cells #[.bool false, .int .i64 s, .int .i64 y] 43))
            have X3 := Lib.hid X3'
            clear X3'
            go_wp2_with fail
            clear c0 c1 c2 d0 d1 d2
            generalize hw3 : wr.alloc (.cells #[.bool false, .int .i64 s, .int .i64 y] 43) = w3 at *
            refine wp_region_gen2 (S := fun W' => Blk W' wr.heap.size 43 #[.bool false, .int .i64 s, .int .i64 y]) (N := fun W' => ActM w W' base sb gb tb vr rb rg rt m gen tk gen tk) (by kernel_rfl) X3.out.drew (M3.out.after ((Below.refl _ _).drew)) (fun w4 hS hN => ?_)
            have M4 := Lib.hid hN
            clear hN
            refine wpAnyH_take (i := 0) (v := ?_) (op_at rfl) (by kernel_rfl) (by kernel_rfl) (by kernel_rfl) (fun _ _ _ h => h) (Or.inl ⟨by rfl, ?_⟩) hS ?_; rotate_left; focus ((intro w' hSw; clear hSw; go_simp) <;> with_reducible rfl)
            try simp only [Act.put, List.setIfInBounds_toArray, List.set_cons_zero, List.set_cons_succ]
            refine wpAnyH_take (i := 1) (v := ?_) (op_at rfl) (by kernel_rfl) (by kernel_rfl) (by kernel_rfl) (fun _ _ _ h => h) (Or.inl ⟨by rfl, ?_⟩) hS ?_; rotate_left; focus ((intro w' hSw; clear hSw; go_simp) <;> with_reducible rfl)
            try simp only [Act.put, List.setIfInBounds_toArray, List.set_cons_zero, List.set_cons_succ]
            refine wpAnyH_take (i := 2) (v := ?_) (op_at rfl) (by kernel_rfl) (by kernel_rfl) (by kernel_rfl) (fun _ _ _ h => h) (Or.inl ⟨by rfl, ?_⟩) hS ?_; rotate_left; focus ((intro w' hSw; have c1 := hSw.at_ (i := 1) (v := .int .i64 s) rfl; have c2 := hSw.at_ (i := 2) (v := .int .i64 y) rfl; clear hSw; go_simp) <;> with_reducible rfl)
            try simp only [Act.put, List.setIfInBounds_toArray, List.set_cons_zero, List.set_cons_succ]
            refine wpAnyH_take (i := 4) (v := ?_) (op_at rfl) (by kernel_rfl) (by kernel_rfl) (by kernel_rfl) (fun _ _ _ h => h) (Or.inl ⟨by rfl, ?_⟩) hS ?_; rotate_left; focus ((intro w' hSw; clear hSw; go_simp) <;> with_reducible rfl)
            try simp only [Act.put, List.setIfInBounds_toArray, List.set_cons_zero, List.set_cons_succ]
            refine wpAnyH_take (i := 5) (v := ?_) (op_at rfl) (by kernel_rfl) (by kernel_rfl) (by kernel_rfl) (fun _ _ _ h => h) (Or.inl ⟨by rfl, ?_⟩) hS ?_; rotate_left; focus ((intro w' hSw; clear hSw; go_simp) <;> with_reducible rfl)
            try simp only [Act.put, List.setIfInBounds_toArray, List.set_cons_zero, List.set_cons_succ]
            refine wpAnyH_take (i := 6) (v := ?_) (op_at rfl) (by kernel_rfl) (by kernel_rfl) (by kernel_rfl) (fun _ _ _ h => h) (Or.inl ⟨by rfl, ?_⟩) hS ?_; rotate_left; focus ((intro w' hSw; have c1 := hSw.at_ (i := 1) (v := .int .i64 s) rfl; have c2 := hSw.at_ (i := 2) (v := .int .i64 y) rfl; clear hSw; go_simp) <;> with_reducible rfl)
            try simp only [Act.put, List.setIfInBounds_toArray, List.set_cons_zero, List.set_cons_succ]
            refine wpAnyH_ready (rs := [3]) (by kernel_rfl) (by simp) ?_
            refine (AllReadyH.cons (op_at rfl) (fun K hK => ?_) AllReadyH.nil)
            go_simp
            refine (Live_w base sb gb tb vr m gen tk ⟨s, y⟩ _ M4.out.sl).mono ?_
            rintro e w5 ⟨rfl, hB⟩
            rw [HD.out]
            have M5 := Lib.hid (M4.out.after hB)
            refine hK.out _ _ (Blk.after hS hB) (fun hS => ?_)
            clear hK K hB
            try simp only [Act.put, List.setIfInBounds_toArray, List.set_cons_zero, List.set_cons_succ]
            refine wpAnyH_ready (rs := [7]) (by kernel_rfl) (by simp) ?_
            refine (AllReadyH.cons (op_at rfl) (fun K hK => ?_) AllReadyH.nil)
            go_simp
            refine (rLive_w rb rg rt m gen tk ⟨s, y⟩ _ M5.out.rf m2.out).mono ?_
            rintro e w6 ⟨rfl, hB⟩
            rw [HD.out]
            have M6 := Lib.hid (M5.out.after hB)
            refine hK.out _ _ (Blk.after hS hB) (fun hS => ?_)
            clear hK K hB
            try simp only [Act.put, List.setIfInBounds_toArray, List.set_cons_zero, List.set_cons_succ]
            refine wpAnyH_take (i := 8) (v := ?_) (op_at rfl) (by kernel_rfl) (by kernel_rfl) (by kernel_rfl) (fun _ _ _ h => h) (Or.inl ⟨by rfl, ?_⟩) hS ?_; rotate_left; focus ((intro w' hSw; clear hSw; go_simp) <;> with_reducible rfl)
            try simp only [Act.put, List.setIfInBounds_toArray, List.set_cons_zero, List.set_cons_succ]
            refine wpAnyH_take (i := 9) (v := ?_) (op_at rfl) (by kernel_rfl) (by kernel_rfl) (by kernel_rfl) (fun _ _ _ h => h) (Or.inl ⟨by rfl, ?_⟩) hS ?_; rotate_left; focus ((intro w' hSw; clear hSw; go_simp) <;> with_reducible rfl)
            try simp only [Act.put, List.setIfInBounds_toArray, List.set_cons_zero, List.set_cons_succ]
            refine wpAnyH_take (i := 10) (v := ?_) (op_at rfl) (by kernel_rfl) (by kernel_rfl) (by kernel_rfl) (fun _ _ _ h => h) (Or.inl ⟨by rfl, ?_⟩) hS ?_; rotate_left; focus ((intro w' hSw; clear hSw; go_simp) <;> with_reducible rfl)
            try simp only [Act.put, List.setIfInBounds_toArray, List.set_cons_zero, List.set_cons_succ]
            refine wpAnyH_take (i := 11) (v := ?_) (op_at rfl) (by kernel_rfl) (by kernel_rfl) (by kernel_rfl) (fun _ _ _ h => h) (Or.inl ⟨by rfl, ?_⟩) hS ?_; rotate_left; focus ((intro w' hSw; clear hSw; go_simp) <;> with_reducible rfl)
            try simp only [Act.put, List.setIfInBounds_toArray, List.set_cons_zero, List.set_cons_succ]
            refine wpAnyH_take (i := 12) (v := ?_) (op_at rfl) (by kernel_rfl) (by kernel_rfl) (by kernel_rfl) (fun _ _ _ h => h) (Or.inl ⟨by rfl, ?_⟩) hS ?_; rotate_left; focus ((intro w' hSw; have c1 := hSw.at_ (i := 1) (v := .int .i64 s) rfl; have c2 := hSw.at_ (i := 2) (v := .int .i64 y) rfl; clear hSw; go_simp) <;> with_reducible rfl)
            try simp only [Act.put, List.setIfInBounds_toArray, List.set_cons_zero, List.set_cons_succ]
            refine wpAnyH_take (i := 14) (v := ?_) (op_at rfl) (by kernel_rfl) (by kernel_rfl) (by kernel_rfl) (fun _ _ _ h => h) (Or.inl ⟨by rfl, ?_⟩) hS ?_; rotate_left; focus ((intro w' hSw; clear hSw; go_simp) <;> with_reducible rfl)
            try simp only [Act.put, List.setIfInBounds_toArray, List.set_cons_zero, List.set_cons_succ]
            refine wpAnyH_take (i := 15) (v := ?_) (op_at rfl) (by kernel_rfl) (by kernel_rfl) (by kernel_rfl) (fun _ _ _ h => h) (Or.inl ⟨by rfl, ?_⟩) hS ?_; rotate_left; focus ((intro w' hSw; clear hSw; go_simp) <;> with_reducible rfl)
            try simp only [Act.put, List.setIfInBounds_toArray, List.set_cons_zero, List.set_cons_succ]
            refine wpAnyH_take (i := 16) (v := ?_) (op_at rfl) (by kernel_rfl) (by kernel_rfl) (by kernel_rfl) (fun _ _ _ h => h) (Or.inl ⟨by rfl, ?_⟩) hS ?_; rotate_left; focus ((intro w' hSw; have c1 := hSw.at_ (i := 1) (v := .int .i64 s) rfl; have c2 := hSw.at_ (i := 2) (v := .int .i64 y) rfl; clear hSw; go_simp) <;> with_reducible rfl)
            try simp only [Act.put, List.setIfInBounds_toArray, List.set_cons_zero, List.set_cons_succ]
            refine wpAnyH_ready (rs := [13]) (by kernel_rfl) (by simp) ?_
            refine (AllReadyH.cons (op_at rfl) (fun K hK => ?_) AllReadyH.nil)
            go_simp
            rw [HA0.out]
            refine (Give_w base sb gb tb vr m gen tk a y ea eb _ M6.out.sl (HE.out.up M6.out.bl) HA.out HT1.out HT2.out).mono ?_
            rintro e w7 ⟨rfl, v7, hW, ho, hT⟩
            have M7 := Lib.hid (M6.out.sturn hT HM.out hW ho)
            refine hK.out _ _ (M6.out.sl.other hT hS (by decide)) (fun hS => ?_)
            clear hK K hW ho hT
            try simp only [Act.put, List.setIfInBounds_toArray, List.set_cons_zero, List.set_cons_succ]
            refine wpAnyH_ready (rs := [17]) (by kernel_rfl) (by simp) ?_
            refine (AllReadyH.cons (op_at rfl) (fun K hK => ?_) AllReadyH.nil)
            go_simp
            try rw [HA0.out]
            refine (rGive_w rb rg rt m gen tk a y _ M7.out.rf m2.out HT1.out HT2.out).mono ?_
            rintro e w8 ⟨rfl, hR, hT⟩
            have M8 := Lib.hid (M7.out.rturn hT hR)
            refine hK.out _ _ (M7.out.rf.other hT hS (by decide)) (fun hS => ?_)
            clear hK K hR hT
            try simp only [Act.put, List.setIfInBounds_toArray, List.set_cons_zero, List.set_cons_succ]
            refine wpAnyH_take (i := 18) (v := ?_) (op_at rfl) (by kernel_rfl) (by kernel_rfl) (by kernel_rfl) (fun _ _ _ h => h) (Or.inl ⟨by rfl, ?_⟩) hS ?_; rotate_left; focus ((intro w' hSw; clear hSw; go_simp) <;> with_reducible rfl)
            try simp only [Act.put, List.setIfInBounds_toArray, List.set_cons_zero, List.set_cons_succ]
            refine wpAnyH_take (i := 19) (v := ?_) (op_at rfl) (by kernel_rfl) (by kernel_rfl) (by kernel_rfl) (fun _ _ _ h => h) (Or.inl ⟨by rfl, ?_⟩) hS ?_; rotate_left; focus ((intro w' hSw; clear hSw; go_simp) <;> with_reducible rfl)
            try simp only [Act.put, List.setIfInBounds_toArray, List.set_cons_zero, List.set_cons_succ]
            refine wpAnyH_done (by kernel_rfl) ?_ _
            go_wp2_with fail
            refine (rAll_w rb rg rt m _ _ _ M8.out.rf m2.out).mono ?_
            rintro e wa ⟨va, rfl, hR, hB⟩
            have MA := Lib.hid (ActM.after M8.out hB)
            have RA := Lib.hid (HdsAt.of hR)
            obtain ⟨pa, ca, rfl⟩ := ownsRow_val hR
            clear hR hB
            go_wp2_with fail
            refine (All_w base sb gb tb v7 m _ _ _ MA.out.sl).mono ?_
            rintro e wb ⟨vb, rfl, hR, hB⟩
            have MB := Lib.hid (MA.out.after hB)
            have RA2 := Lib.hid (RA.out.after hB)
            have RB := Lib.hid (HdsAt.of hR)
            clear hR hB
            go_wp2_with fail
            refine (Same_w vb _ _ _ _ RB.out RA2.out (Nat.le_trans (liveTo_len _ _ m) (Nat.le_trans m2.out (by decide)))).mono ?_
            rintro e wc ⟨rfl, hB⟩
            rw [decide_eq_true (Eq.refl (liveTo (gen) (tk.set a false) m))]
            have MC := Lib.hid (MB.out.after hB)
            clear hB
            go_wp2_with fail
            refine (Used_w base sb gb tb v7 m _ _ _ MC.out.sl).mono ?_
            rintro e wd ⟨rfl, rfl⟩
            rw [← live_all MC.out.sl.lens.1 MC.out.sl.lens.2]
            generalize hL : (liveTo (gen) (tk.set a false) m).length = nl at *
            go_wp2_with fail
            go_roundw
            case rel => exact ⟨i + 1, _, _, _, rfl, HI.out.1, HI.out.2, MC.out⟩
            case measure => have := HI.out.1; simp [intOf]; omega
          · have HD := Lib.hid (decide_eq_false hlive)
            have HNL := Lib.hid hlive
            clear hlive
            have M3 := Lib.hid (MR.out.alloc (.cells #[.bool false, .int .i64 s, .int .i64 y] 43))
            have X3 := Lib.hid X3'
            clear X3'
            go_wp2_with fail
            clear c0 c1 c2 d0 d1 d2
            generalize hw3 : wr.alloc (.cells #[.bool false, .int .i64 s, .int .i64 y] 43) = w3 at *
            refine wp_region_gen2 (S := fun W' => Blk W' wr.heap.size 43 #[.bool false, .int .i64 s, .int .i64 y]) (N := fun W' => ActM w W' base sb gb tb vr rb rg rt m gen tk gen tk) (by kernel_rfl) X3.out.drew (M3.out.after ((Below.refl _ _).drew)) (fun w4 hS hN => ?_)
            have M4 := Lib.hid hN
            clear hN
            refine wpAnyH_take (i := 0) (v := ?_) (op_at rfl) (by kernel_rfl) (by kernel_rfl) (by kernel_rfl) (fun _ _ _ h => h) (Or.inl ⟨by rfl, ?_⟩) hS ?_; rotate_left; focus ((intro w' hSw; clear hSw; go_simp) <;> with_reducible rfl)
            try simp only [Act.put, List.setIfInBounds_toArray, List.set_cons_zero, List.set_cons_succ]
            refine wpAnyH_take (i := 1) (v := ?_) (op_at rfl) (by kernel_rfl) (by kernel_rfl) (by kernel_rfl) (fun _ _ _ h => h) (Or.inl ⟨by rfl, ?_⟩) hS ?_; rotate_left; focus ((intro w' hSw; clear hSw; go_simp) <;> with_reducible rfl)
            try simp only [Act.put, List.setIfInBounds_toArray, List.set_cons_zero, List.set_cons_succ]
            refine wpAnyH_take (i := 2) (v := ?_) (op_at rfl) (by kernel_rfl) (by kernel_rfl) (by kernel_rfl) (fun _ _ _ h => h) (Or.inl ⟨by rfl, ?_⟩) hS ?_; rotate_left; focus ((intro w' hSw; have c1 := hSw.at_ (i := 1) (v := .int .i64 s) rfl; have c2 := hSw.at_ (i := 2) (v := .int .i64 y) rfl; clear hSw; go_simp) <;> with_reducible rfl)
            try simp only [Act.put, List.setIfInBounds_toArray, List.set_cons_zero, List.set_cons_succ]
            refine wpAnyH_take (i := 4) (v := ?_) (op_at rfl) (by kernel_rfl) (by kernel_rfl) (by kernel_rfl) (fun _ _ _ h => h) (Or.inl ⟨by rfl, ?_⟩) hS ?_; rotate_left; focus ((intro w' hSw; clear hSw; go_simp) <;> with_reducible rfl)
            try simp only [Act.put, List.setIfInBounds_toArray, List.set_cons_zero, List.set_cons_succ]
            refine wpAnyH_take (i := 5) (v := ?_) (op_at rfl) (by kernel_rfl) (by kernel_rfl) (by kernel_rfl) (fun _ _ _ h => h) (Or.inl ⟨by rfl, ?_⟩) hS ?_; rotate_left; focus ((intro w' hSw; clear hSw; go_simp) <;> with_reducible rfl)
            try simp only [Act.put, List.setIfInBounds_toArray, List.set_cons_zero, List.set_cons_succ]
            refine wpAnyH_take (i := 6) (v := ?_) (op_at rfl) (by kernel_rfl) (by kernel_rfl) (by kernel_rfl) (fun _ _ _ h => h) (Or.inl ⟨by rfl, ?_⟩) hS ?_; rotate_left; focus ((intro w' hSw; have c1 := hSw.at_ (i := 1) (v := .int .i64 s) rfl; have c2 := hSw.at_ (i := 2) (v := .int .i64 y) rfl; clear hSw; go_simp) <;> with_reducible rfl)
            try simp only [Act.put, List.setIfInBounds_toArray, List.set_cons_zero, List.set_cons_succ]
            refine wpAnyH_ready (rs := [3]) (by kernel_rfl) (by simp) ?_
            refine (AllReadyH.cons (op_at rfl) (fun K hK => ?_) AllReadyH.nil)
            go_simp
            refine (Live_w base sb gb tb vr m gen tk ⟨s, y⟩ _ M4.out.sl).mono ?_
            rintro e w5 ⟨rfl, hB⟩
            rw [HD.out]
            have M5 := Lib.hid (M4.out.after hB)
            refine hK.out _ _ (Blk.after hS hB) (fun hS => ?_)
            clear hK K hB
            try simp only [Act.put, List.setIfInBounds_toArray, List.set_cons_zero, List.set_cons_succ]
            refine wpAnyH_ready (rs := [7]) (by kernel_rfl) (by simp) ?_
            refine (AllReadyH.cons (op_at rfl) (fun K hK => ?_) AllReadyH.nil)
            go_simp
            refine (rLive_w rb rg rt m gen tk ⟨s, y⟩ _ M5.out.rf m2.out).mono ?_
            rintro e w6 ⟨rfl, hB⟩
            rw [HD.out]
            have M6 := Lib.hid (M5.out.after hB)
            refine hK.out _ _ (Blk.after hS hB) (fun hS => ?_)
            clear hK K hB
            try simp only [Act.put, List.setIfInBounds_toArray, List.set_cons_zero, List.set_cons_succ]
            refine wpAnyH_take (i := 8) (v := ?_) (op_at rfl) (by kernel_rfl) (by kernel_rfl) (by kernel_rfl) (fun _ _ _ h => h) (Or.inl ⟨by rfl, ?_⟩) hS ?_; rotate_left; focus ((intro w' hSw; clear hSw; go_simp) <;> with_reducible rfl)
            try simp only [Act.put, List.setIfInBounds_toArray, List.set_cons_zero, List.set_cons_succ]
            refine wpAnyH_take (i := 9) (v := ?_) (op_at rfl) (by kernel_rfl) (by kernel_rfl) (by kernel_rfl) (fun _ _ _ h => h) (Or.inl ⟨by rfl, ?_⟩) hS ?_; rotate_left; focus ((intro w' hSw; clear hSw; go_simp) <;> with_reducible rfl)
            try simp only [Act.put, List.setIfInBounds_toArray, List.set_cons_zero, List.set_cons_succ]
            refine wpAnyH_take (i := 10) (v := ?_) (op_at rfl) (by kernel_rfl) (by kernel_rfl) (by kernel_rfl) (fun _ _ _ h => h) (Or.inl ⟨by rfl, ?_⟩) hS ?_; rotate_left; focus ((intro w' hSw; clear hSw; go_simp) <;> with_reducible rfl)
            try simp only [Act.put, List.setIfInBounds_toArray, List.set_cons_zero, List.set_cons_succ]
            refine wpAnyH_take (i := 11) (v := ?_) (op_at rfl) (by kernel_rfl) (by kernel_rfl) (by kernel_rfl) (fun _ _ _ h => h) (Or.inl ⟨by rfl, ?_⟩) hS ?_; rotate_left; focus ((intro w' hSw; clear hSw; go_simp) <;> with_reducible rfl)
            try simp only [Act.put, List.setIfInBounds_toArray, List.set_cons_zero, List.set_cons_succ]
            refine wpAnyH_take (i := 12) (v := ?_) (op_at rfl) (by kernel_rfl) (by kernel_rfl) (by kernel_rfl) (fun _ _ _ h => h) (Or.inl ⟨by rfl, ?_⟩) hS ?_; rotate_left; focus ((intro w' hSw; have c1 := hSw.at_ (i := 1) (v := .int .i64 s) rfl; have c2 := hSw.at_ (i := 2) (v := .int .i64 y) rfl; clear hSw; go_simp) <;> with_reducible rfl)
            try simp only [Act.put, List.setIfInBounds_toArray, List.set_cons_zero, List.set_cons_succ]
            refine wpAnyH_take (i := 14) (v := ?_) (op_at rfl) (by kernel_rfl) (by kernel_rfl) (by kernel_rfl) (fun _ _ _ h => h) (Or.inl ⟨by rfl, ?_⟩) hS ?_; rotate_left; focus ((intro w' hSw; clear hSw; go_simp) <;> with_reducible rfl)
            try simp only [Act.put, List.setIfInBounds_toArray, List.set_cons_zero, List.set_cons_succ]
            refine wpAnyH_take (i := 15) (v := ?_) (op_at rfl) (by kernel_rfl) (by kernel_rfl) (by kernel_rfl) (fun _ _ _ h => h) (Or.inl ⟨by rfl, ?_⟩) hS ?_; rotate_left; focus ((intro w' hSw; clear hSw; go_simp) <;> with_reducible rfl)
            try simp only [Act.put, List.setIfInBounds_toArray, List.set_cons_zero, List.set_cons_succ]
            refine wpAnyH_take (i := 16) (v := ?_) (op_at rfl) (by kernel_rfl) (by kernel_rfl) (by kernel_rfl) (fun _ _ _ h => h) (Or.inl ⟨by rfl, ?_⟩) hS ?_; rotate_left; focus ((intro w' hSw; have c1 := hSw.at_ (i := 1) (v := .int .i64 s) rfl; have c2 := hSw.at_ (i := 2) (v := .int .i64 y) rfl; clear hSw; go_simp) <;> with_reducible rfl)
            try simp only [Act.put, List.setIfInBounds_toArray, List.set_cons_zero, List.set_cons_succ]
            refine wpAnyH_ready (rs := [13]) (by kernel_rfl) (by simp) ?_
            refine (AllReadyH.cons (op_at rfl) (fun K hK => ?_) AllReadyH.nil)
            go_simp
            refine (Give_w0 base sb gb tb vr m gen tk ⟨s, y⟩ ea eb _ M6.out.sl (HE.out.up M6.out.bl) HNL.out).mono ?_
            rintro e w7 ⟨rfl, hB⟩
            have M7 := Lib.hid (M6.out.after hB)
            refine hK.out _ _ (Blk.after hS hB) (fun hS => ?_)
            clear hK K hB
            try simp only [Act.put, List.setIfInBounds_toArray, List.set_cons_zero, List.set_cons_succ]
            refine wpAnyH_ready (rs := [17]) (by kernel_rfl) (by simp) ?_
            refine (AllReadyH.cons (op_at rfl) (fun K hK => ?_) AllReadyH.nil)
            go_simp
            refine (rGive_w0 rb rg rt m gen tk ⟨s, y⟩ _ M7.out.rf m2.out HNL.out).mono ?_
            rintro e w8 ⟨rfl, hB⟩
            have M8 := Lib.hid (M7.out.after hB)
            refine hK.out _ _ (Blk.after hS hB) (fun hS => ?_)
            clear hK K hB
            try simp only [Act.put, List.setIfInBounds_toArray, List.set_cons_zero, List.set_cons_succ]
            refine wpAnyH_take (i := 18) (v := ?_) (op_at rfl) (by kernel_rfl) (by kernel_rfl) (by kernel_rfl) (fun _ _ _ h => h) (Or.inl ⟨by rfl, ?_⟩) hS ?_; rotate_left; focus ((intro w' hSw; clear hSw; go_simp) <;> with_reducible rfl)
            try simp only [Act.put, List.setIfInBounds_toArray, List.set_cons_zero, List.set_cons_succ]
            refine wpAnyH_take (i := 19) (v := ?_) (op_at rfl) (by kernel_rfl) (by kernel_rfl) (by kernel_rfl) (fun _ _ _ h => h) (Or.inl ⟨by rfl, ?_⟩) hS ?_; rotate_left; focus ((intro w' hSw; clear hSw; go_simp) <;> with_reducible rfl)
            try simp only [Act.put, List.setIfInBounds_toArray, List.set_cons_zero, List.set_cons_succ]
            refine wpAnyH_done (by kernel_rfl) ?_ _
            go_wp2_with fail
            refine (rAll_w rb rg rt m _ _ _ M8.out.rf m2.out).mono ?_
            rintro e wa ⟨va, rfl, hR, hB⟩
            have MA := Lib.hid (ActM.after M8.out hB)
            have RA := Lib.hid (HdsAt.of hR)
            obtain ⟨pa, ca, rfl⟩ := ownsRow_val hR
            clear hR hB
            go_wp2_with fail
            refine (All_w base sb gb tb vr m _ _ _ MA.out.sl).mono ?_
            rintro e wb ⟨vb, rfl, hR, hB⟩
            have MB := Lib.hid (MA.out.after hB)
            have RA2 := Lib.hid (RA.out.after hB)
            have RB := Lib.hid (HdsAt.of hR)
            clear hR hB
            go_wp2_with fail
            refine (Same_w vb _ _ _ _ RB.out RA2.out (Nat.le_trans (liveTo_len _ _ m) (Nat.le_trans m2.out (by decide)))).mono ?_
            rintro e wc ⟨rfl, hB⟩
            rw [decide_eq_true (Eq.refl (liveTo (gen) (tk) m))]
            have MC := Lib.hid (MB.out.after hB)
            clear hB
            go_wp2_with fail
            refine (Used_w base sb gb tb vr m _ _ _ MC.out.sl).mono ?_
            rintro e wd ⟨rfl, rfl⟩
            rw [← live_all MC.out.sl.lens.1 MC.out.sl.lens.2]
            generalize hL : (liveTo (gen) (tk) m).length = nl at *
            go_wp2_with fail
            go_roundw
            case rel => exact ⟨i + 1, _, _, _, rfl, HI.out.1, HI.out.2, MC.out⟩
            case measure => have := HI.out.1; simp [intOf]; omega
        · rcases least_free gen tk with ⟨q, hf, hlst⟩ | hf
          · obtain ⟨ht, x, hg, hx⟩ := hf
            have HX : Hid (tk[q]? = some false ∧ gen[q]? = some x ∧ x < 1000 ∧ ∀ j, j < q → ¬ FreeAt gen tk j) := Lib.hid ⟨ht, hg, hx, hlst⟩
            clear ht hg hx hlst
            have M3 := Lib.hid (MR.out.alloc (.cells #[.bool true, .int .i64 s, .int .i64 y] 43))
            have X3 := Lib.hid X3'
            clear X3'
            go_wp2_with fail
            clear c0 c1 c2 d0 d1 d2
            refine (Take_w base sb gb tb vr m gen tk q x ea eb _ M3.out.sl (HE.out.up M3.out.bl) HA.out HX.out.1 HX.out.2.1 HX.out.2.2.1 HX.out.2.2.2).mono ?_
            rintro e w4 ⟨rfl, v4, hW, ho, hT⟩
            have M4 := Lib.hid (M3.out.sturn hT HM.out hW (fun g hg => .inl (ho ▸ hg)))
            have P4 : Hid (Blk (w4.alloc (.cells #[.int .i64 q, .int .i64 (x + 1)] 28)) w4.heap.size 28 #[.int .i64 q, .int .i64 (x + 1)]) := Lib.hid (Blk.new' rfl)
            clear hW ho hT
            go_wp2_with fail
            refine (rTake_w rb rg rt m gen tk q x _ (M4.out.alloc _).rf m2.out HX.out.1 HX.out.2.1 HX.out.2.2.1 (M3.out.sl.g0 HX.out.2.1) HX.out.2.2.2).mono ?_
            rintro e w5 ⟨rfl, hR, hT⟩
            have M5 := Lib.hid ((M4.out.alloc _).rturn hT hR)
            have P5 := Lib.hid ((M4.out.alloc _).rf.other hT P4.out (by decide))
            clear hR hT
            have c0 := (P5.out.alloc (.cells #[.int .i64 q, .int .i64 (x + 1)] 28)).at_ (i := 0) (v := .int .i64 q) rfl
            have c1 := (P5.out.alloc (.cells #[.int .i64 q, .int .i64 (x + 1)] 28)).at_ (i := 1) (v := .int .i64 (x + 1)) rfl
            have c2 := (Blk.new' (w := w5) (t := 28) (cs := #[.int .i64 q, .int .i64 (x + 1)]) rfl).at_ (i := 0) (v := .int .i64 q) rfl
            have c3 := (Blk.new' (w := w5) (t := 28) (cs := #[.int .i64 q, .int .i64 (x + 1)]) rfl).at_ (i := 1) (v := .int .i64 (x + 1)) rfl
            go_wp2_with fail
            clear c0 c1 c2 c3
            refine (rAll_w rb rg rt m _ _ _ (M5.out.alloc _).rf m2.out).mono ?_
            rintro e wa ⟨va, rfl, hR, hB⟩
            have MA := Lib.hid (ActM.after (M5.out.alloc _) hB)
            have RA := Lib.hid (HdsAt.of hR)
            obtain ⟨pa, ca, rfl⟩ := ownsRow_val hR
            clear hR hB
            go_wp2_with fail
            refine (All_w base sb gb tb v4 m _ _ _ MA.out.sl).mono ?_
            rintro e wb ⟨vb, rfl, hR, hB⟩
            have MB := Lib.hid (MA.out.after hB)
            have RA2 := Lib.hid (RA.out.after hB)
            have RB := Lib.hid (HdsAt.of hR)
            clear hR hB
            go_wp2_with fail
            refine (Same_w vb _ _ _ _ RB.out RA2.out (Nat.le_trans (liveTo_len _ _ m) (Nat.le_trans m2.out (by decide)))).mono ?_
            rintro e wc ⟨rfl, hB⟩
            rw [decide_eq_true (Eq.refl (liveTo (gen.set q (x + 1)) (tk.set q true) m))]
            have MC := Lib.hid (MB.out.after hB)
            clear hB
            go_wp2_with fail
            refine (Used_w base sb gb tb v4 m _ _ _ MC.out.sl).mono ?_
            rintro e wd ⟨rfl, rfl⟩
            rw [← live_all MC.out.sl.lens.1 MC.out.sl.lens.2]
            generalize hL : (liveTo (gen.set q (x + 1)) (tk.set q true) m).length = nl at *
            go_wp2_with fail
            go_roundw
            case rel => exact ⟨i + 1, _, _, _, rfl, HI.out.1, HI.out.2, MC.out⟩
            case measure => have := HI.out.1; simp [intOf]; omega
          · have HF := Lib.hid hf
            clear hf
            have M3 := Lib.hid (MR.out.alloc (.cells #[.bool true, .int .i64 s, .int .i64 y] 43))
            have X3 := Lib.hid X3'
            clear X3'
            go_wp2_with fail
            clear c0 c1 c2 d0 d1 d2
            refine (Take_w0 base sb gb tb vr m gen tk ea eb _ M3.out.sl (HE.out.up M3.out.bl) HF.out).mono ?_
            rintro e w4 ⟨rfl, hB⟩
            have M4 := Lib.hid (M3.out.after hB)
            have P4 : Hid (Blk (w4.alloc (.cells #[.int .i64 0, .int .i64 0] 28)) w4.heap.size 28 #[.int .i64 0, .int .i64 0]) := Lib.hid (Blk.new' rfl)
            clear hB
            go_wp2_with fail
            refine (rTake_w0 rb rg rt m gen tk _ (M4.out.alloc _).rf m2.out HF.out).mono ?_
            rintro e w5 ⟨rfl, hB⟩
            have M5 := Lib.hid ((M4.out.alloc _).after hB)
            have P5 := Lib.hid (P4.out.after hB)
            clear hB
            have c0 := (P5.out.alloc (.cells #[.int .i64 0, .int .i64 0] 28)).at_ (i := 0) (v := .int .i64 0) rfl
            have c1 := (P5.out.alloc (.cells #[.int .i64 0, .int .i64 0] 28)).at_ (i := 1) (v := .int .i64 0) rfl
            have c2 := (Blk.new' (w := w5) (t := 28) (cs := #[.int .i64 0, .int .i64 0]) rfl).at_ (i := 0) (v := .int .i64 0) rfl
            have c3 := (Blk.new' (w := w5) (t := 28) (cs := #[.int .i64 0, .int .i64 0]) rfl).at_ (i := 1) (v := .int .i64 0) rfl
            go_wp2_with fail
            clear c0 c1 c2 c3
            refine (rAll_w rb rg rt m _ _ _ (M5.out.alloc _).rf m2.out).mono ?_
            rintro e wa ⟨va, rfl, hR, hB⟩
            have MA := Lib.hid (ActM.after (M5.out.alloc _) hB)
            have RA := Lib.hid (HdsAt.of hR)
            obtain ⟨pa, ca, rfl⟩ := ownsRow_val hR
            clear hR hB
            go_wp2_with fail
            refine (All_w base sb gb tb vr m _ _ _ MA.out.sl).mono ?_
            rintro e wb ⟨vb, rfl, hR, hB⟩
            have MB := Lib.hid (MA.out.after hB)
            have RA2 := Lib.hid (RA.out.after hB)
            have RB := Lib.hid (HdsAt.of hR)
            clear hR hB
            go_wp2_with fail
            refine (Same_w vb _ _ _ _ RB.out RA2.out (Nat.le_trans (liveTo_len _ _ m) (Nat.le_trans m2.out (by decide)))).mono ?_
            rintro e wc ⟨rfl, hB⟩
            rw [decide_eq_true (Eq.refl (liveTo (gen) (tk) m))]
            have MC := Lib.hid (MB.out.after hB)
            clear hB
            go_wp2_with fail
            refine (Used_w base sb gb tb vr m _ _ _ MC.out.sl).mono ?_
            rintro e wd ⟨rfl, rfl⟩
            rw [← live_all MC.out.sl.lens.1 MC.out.sl.lens.2]
            generalize hL : (liveTo (gen) (tk) m).length = nl at *
            go_wp2_with fail
            go_roundw
            case rel => exact ⟨i + 1, _, _, _, rfl, HI.out.1, HI.out.2, MC.out⟩
            case measure => have := HI.out.1; simp [intOf]; omega
      · by_cases hil : i < l.length
        · obtain rfl : i = 200 := by omega
          have f1 : decide (((200 : Nat) : Int) < (l.length : Int)) = true := decide_eq_true (by omega)
          have f2 : (200 : Int) < (l.length : Int) := by omega
          clear hi0 hi1 hgo hil
          go_wp2_with fail
          go_ret
          exact ⟨rfl, MR.out.bl⟩
        · obtain rfl : i = l.length := by omega
          clear hi0 hi1 hgo hil
          go_wp2_with fail
          go_ret
          exact ⟨rfl, MR.out.bl⟩
end Go.Proofs.YtgjnmpbahekbfaaDoor
