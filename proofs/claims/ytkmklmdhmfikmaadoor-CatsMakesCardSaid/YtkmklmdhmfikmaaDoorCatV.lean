/-
  THE WALKS OF THE STATEMENTS CatsBack, CatsMakes.
-/
import Derived.Test.YtkmklmdhmfikmaaDoorCatW
import Derived.Test.YtkmklmdhmfikmaaDoorCatL
namespace Go.Proofs.YtkmklmdhmfikmaaDoor
open Go.RowKit

attribute [local go_sem] u_and u_or u_andNot u_add u_sub u_bit u_eq_zero u_beq

theorem Few_any (v : Value) (l : List Int) (B : Nat) (w : World) (hv : IntsAt B w v l) :
    Calls Tryd.prog 21 #[v] w fun e w' => ∃ v', e = .returned v' ∧ IntsAt B w v' (l.take 100) ∧ w = w' := by
  rcases hv with ⟨rfl, rfl⟩ | ⟨b, off, cap, rfl, hlt, hn, hcap, hc⟩
  · go_enter Tryd.func21, Tryd.ntmps21
    go_wp2
    go_ret
    exact ⟨_, rfl, .inl ⟨rfl, rfl⟩, rfl⟩
  · by_cases h : l.length ≤ 100
    · have HT : Hid (l.take 100 = l) := List.take_of_length_le h
      have HC := Lib.hid hc
      clear hc
      go_enter Tryd.func21, Tryd.ntmps21
      go_wp2
      go_ret
      exact ⟨_, rfl, by rw [HT.out]; exact .inr ⟨b, off, cap, rfl, hlt, hn, hcap, HC.out⟩, rfl⟩
    · have HL : Hid ((l.take 100).length = 100) := by
        show _ = _
        rw [List.length_take]; omega
      have HC : Hid (∀ k, k < (l.take 100).length → w.cell? ⟨b, off + k, none⟩ = some (.int .i64 ((l.take 100)[k]?.getD 0))) := fun k hk => by
        rw [HL.out] at hk
        rw [hc k (by omega), List.getElem?_take, if_pos hk]
      clear hc
      go_enter Tryd.func21, Tryd.ntmps21
      go_wp2
      go_ret
      exact ⟨_, rfl, .inr ⟨b, off, cap, by rw [HL.out]; rfl, hlt, by rw [HL.out]; omega, by rw [HL.out]; omega, HC.out⟩, rfl⟩

/-- a list in memory, in a later world -/
theorem IntsAt.up {w w' : World} {v : Value} {l : List Int} (h : IntsAt w.heap.size w v l) (hb : Below w.heap.size w w') : IntsAt w'.heap.size w' v l := (h.below hb).mono hb.size
theorem TabIn.up {w w' : World} (h : TabIn w) (hb : Below w.heap.size w w') : TabIn w' := h.below hb h.1

set_option maxRecDepth 100000 in
set_option maxHeartbeats 1000000 in
theorem makes_core (x y z : BitVec 64) (i e1 : Int) (v : Value) (l : List Int) (a : Addr) (w : World) (hs : Sent w a) (ht : TabIn w) (hv : IntsAt w.heap.size w v l)
    (c1 : ∀ W, Sent W a → Calls Tryd.prog 16 #[.int .u64 (u x), .int .i64 i] W fun e w' => e = .returned (.tuple #[.int .u64 (u y), .int .i64 e1]) ∧ Below W.heap.size W w')
    (c2 : ∀ W, Calls Tryd.prog 24 #[.int .u64 (u x), .int .i64 i] W fun e w' => e = .returned (.tuple #[.int .u64 (u y), .int .i64 e1]) ∧ W = w')
    (c3 : ∀ W, Sent W a → Calls Tryd.prog 18 #[.int .u64 (u x), .int .i64 i] W fun e w' => e = .returned (.tuple #[.int .u64 (u z), .int .i64 e1]) ∧ Below W.heap.size W w')
    (c4 : ∀ W, Calls Tryd.prog 25 #[.int .u64 (u x), .int .i64 i] W fun e w' => e = .returned (.tuple #[.int .u64 (u z), .int .i64 e1]) ∧ W = w') :
    Calls Tryd.prog 8 #[v, .int .u64 (u x), .int .i64 i] w (Yes w) := by
  have HS := Lib.hid hs
  have HT := Lib.hid ht
  have HV := Lib.hid hv
  have H1 := Lib.hid c1
  have H2 := Lib.hid c2
  have H3 := Lib.hid c3
  have H4 := Lib.hid c4
  clear hs ht hv c1 c2 c3 c4
  go_enter Tryd.func8, Tryd.ntmps8
  go_wp2_with (go_at_call 9; refine (shown_any a _ HS.out).mono ?_; rintro e w1 ⟨rfl, hB1⟩)
  refine (Few_any v l _ _ (HV.out.up hB1)).mono ?_
  rintro e w' ⟨v1, rfl, hv1, rfl⟩
  have HV1 := Lib.hid hv1
  clear hv1
  go_wp2_with fail
  refine (Of_any v1 _ a _ (HS.out.up hB1) HV1.out).mono ?_
  rintro e w2 ⟨rfl, hB2⟩
  have hB := below_lift hB1 hB2
  clear hB1 hB2 HV1
  go_wp2_with fail
  refine (Few_any v l _ _ (HV.out.up hB)).mono ?_
  rintro e w' ⟨v1, rfl, hv1, rfl⟩
  have HV1 := Lib.hid hv1
  clear hv1
  go_wp2_with fail
  refine (rOf_any v1 _ _ HV1.out).mono ?_
  rintro e w' ⟨rfl, rfl⟩
  clear HV1
  go_wp2_with fail
  refine (H1.out _ (HS.out.up hB)).mono ?_
  rintro e w3 ⟨rfl, hB3⟩
  have hB1 := below_lift hB hB3
  clear hB hB3
  go_wp2_with fail
  refine (H2.out _).mono ?_
  rintro e w' ⟨rfl, rfl⟩
  go_wp2_with fail
  refine (H3.out _ (HS.out.up hB1)).mono ?_
  rintro e w4 ⟨rfl, hB4⟩
  have hB := below_lift hB1 hB4
  clear hB1 hB4
  go_wp2_with fail
  refine (H4.out _).mono ?_
  rintro e w' ⟨rfl, rfl⟩
  go_wp2_with fail
  refine (List_any x _ (HT.out.up hB)).mono ?_
  rintro e w5 ⟨vl, rfl, hown, hB5⟩
  have hB1 := below_lift hB hB5
  have HL := Lib.hid (owns_ints hown (by have := pc_le x; unfold pc at this; omega))
  clear hB hB5 hown
  go_wp2_with fail
  refine (rList_any x _).mono ?_
  rintro e w6 ⟨vr, rfl, hown, hB6⟩
  have hB := below_lift hB1 hB6
  have HR := Lib.hid (owns_ints hown (by have := pc_le x; unfold pc at this; omega))
  have HL2 := Lib.hid (HL.out.up hB6)
  clear hB1 hB6 hown HL
  go_wp2_with fail
  have hIn := rInts_any vl vr _ _ _ HL2.out HR.out
  rw [decide_eq_true rfl] at hIn
  refine hIn.mono ?_
  clear hIn
  rintro e w7 ⟨rfl, hB7⟩
  have hB1 := below_lift hB hB7
  clear hB hB7 HL2 HR
  go_wp2_with fail
  refine (Has_any x i a _ (HS.out.up hB1)).mono ?_
  rintro e w8 ⟨rfl, hB8⟩
  have hB := below_lift hB1 hB8
  clear hB1 hB8
  go_wp2_with fail
  refine (rHas_any x i _).mono ?_
  rintro e w' ⟨rfl, rfl⟩
  go_wp2
  go_ret
  exact ⟨rfl, hB⟩
theorem makes_walk (x : BitVec 64) (i : Int) (v : Value) (l : List Int) (a : Addr) (w : World) (hs : Sent w a) (ht : TabIn w) (hv : IntsAt w.heap.size w v l) :
    Calls Tryd.prog 8 #[v, .int .u64 (u x), .int .i64 i] w (Yes w) := by
  by_cases hi : 0 ≤ i ∧ i < 64
  · exact makes_core x _ _ i 0 v l a w hs ht hv (fun W h => With_ok x i a W h hi) (fun W => rWith_ok x i W hi) (fun W h => Without_ok x i a W h hi) (fun W => rWithout_ok x i W hi)
  · exact makes_core x 0#64 0#64 i 10 v l a w hs ht hv (fun W h => With_bad x i a W h hi) (fun W => rWith_bad x i W hi) (fun W h => Without_bad x i a W h hi) (fun W => rWithout_bad x i W hi)

/-! ### CatsBack -/
theorem IntsAt.shape {B : Nat} {w : World} {v : Value} {l : List Int} (h : IntsAt B w v l) :
    ∃ pa cap, v = .slice pa l.length cap ∧ l.length ≤ 9223372036854775807 ∧ ∀ k, k < l.length → ∃ b off, pa = some ⟨b, off, none⟩ ∧ ∀ j, j < l.length → b < B ∧ w.cell? ⟨b, off + j, none⟩ = some (.int .i64 (l[j]?.getD 0)) := by
  rcases h with ⟨rfl, rfl⟩ | ⟨b, off, cap, rfl, hlt, hn, hcap, hc⟩
  · exact ⟨none, 0, rfl, by simp, fun k hk => by simp at hk⟩
  · exact ⟨_, cap, rfl, hn, fun k _ => ⟨b, off, rfl, fun j hj => ⟨hlt, hc j hj⟩⟩⟩
/-- each of the first k is above the one ahead of it -/
def risingB (l : List Int) (k : Nat) : Bool := (List.range k).all fun j => decide (j = 0) || decide (l[j - 1]?.getD 0 < l[j]?.getD 0)
theorem risingB_succ (l : List Int) (k : Nat) (hk : 1 ≤ k) : risingB l (k + 1) = (risingB l k && decide (l[k - 1]?.getD 0 < l[k]?.getD 0)) := by
  unfold risingB
  rw [List.range_succ, List.all_append]
  have : ¬ k = 0 := by omega
  simp [this]
theorem risingB_one (l : List Int) : risingB l 1 = true := by simp [risingB, List.range_succ]
theorem risingB_lt (l : List Int) : ∀ (k : Nat), risingB l k = true → ∀ i j, i < j → j < k → l[i]?.getD 0 < l[j]?.getD 0
  | 0, _, i, j, _, h => by omega
  | k + 1, h, i, j, hij, hj => by
    by_cases hk : k = 0
    · omega
    · rw [risingB_succ l k (by omega), Bool.and_eq_true] at h
      have ih := risingB_lt l k h.1
      by_cases e : j = k
      · subst e
        have h2 : l[j - 1]?.getD 0 < l[j]?.getD 0 := of_decide_eq_true h.2
        by_cases e2 : i = j - 1
        · rw [e2]; exact h2
        · have := ih i (j - 1) (by omega) (by omega); omega
      · exact ih i j hij (by omega)
theorem rising_take (l : List Int) (n : Nat) (h : risingB l (min l.length n) = true) : (l.take n).Pairwise (· < ·) := by
  rw [List.pairwise_iff_getElem]
  intro i j hi hj hij
  rw [List.length_take] at hi hj
  have := risingB_lt l _ h i j hij (by omega)
  rw [List.getElem?_eq_getElem (by omega), List.getElem?_eq_getElem (by omega)] at this
  simpa using this
theorem rising_le (l : List Int) (a b : Nat) (h : risingB l b = true) (hab : a ≤ b) : risingB l a = true := by
  unfold risingB at h ⊢
  rw [List.all_eq_true] at h ⊢
  exact fun j hj => h j (by have := List.mem_range.1 hj; exact List.mem_range.2 (by omega))
theorem cats_ge (x : BitVec 64) (k : Nat) (hk : 1 ≤ k) (hl : k < (ints (cats x)).length) : (ints (cats x))[k - 1]?.getD 0 < (ints (cats x))[k]?.getD 0 := by
  have h := cats_rising x
  rw [List.pairwise_iff_getElem] at h
  have := h (k - 1) k (by show k - 1 < (ints (cats x)).length; omega) hl (by omega)
  rw [List.getElem?_eq_getElem (by omega), List.getElem?_eq_getElem hl]
  exact this

set_option maxRecDepth 100000 in
set_option maxHeartbeats 2000000 in
theorem back_walk (x : BitVec 64) (v : Value) (l : List Int) (a : Addr) (w : World) (hs : Sent w a) (ht : TabIn w) (hv : IntsAt w.heap.size w v l) :
    Calls Tryd.prog 7 #[.int .u64 (u x), v] w (Yes w) := by
  have HS := Lib.hid hs
  have HT := Lib.hid ht
  have HV := Lib.hid hv
  obtain ⟨pv, cv, rfl, hnv, hkv⟩ := hv.shape
  have HKV := Lib.hid hkv
  have hl64 : (ints (cats x)).length ≤ 64 := by rw [ints_len]; exact pc_le x
  clear hs ht hv hkv
  go_enter Tryd.func7, Tryd.ntmps7
  go_wp2_with (go_at_call 9; refine (shown_any a _ HS.out).mono ?_; rintro e w1 ⟨rfl, hB1⟩)
  refine (List_any x _ (HT.out.up hB1)).mono ?_
  rintro e w2 ⟨vm, rfl, hown, hB2⟩
  have hB := below_lift hB1 hB2
  have hI := owns_ints hown (by have := pc_le x; unfold pc at this; omega)
  have HM := Lib.hid hI
  obtain ⟨pm, cm, rfl, -, hkm⟩ := hI.shape
  have HKM := Lib.hid hkm
  have HR := Lib.hid (cats_ge x)
  have HO := Lib.hid (of_list x)
  have HI : Hid ((ints (cats x)).length = pc x) := by rw [ints_len]; rfl
  clear hB1 hB2 hown hkm hI
  generalize hL : ints (cats x) = L at *
  have HLL := Lib.hid hL
  clear hL
  go_wp2
  go_loopw [7] (fun i wr => ∃ j : Nat, (j < L.length ∨ j = 0) ∧ i = .int .i64 ((j : Int) + 1) ∧ Below w2.heap.size w2 wr) (fun i _ => 65 - (intOf i).toNat)
  case atStart => exact ⟨0, .inr rfl, by simp, Below.refl _ _⟩
  case round =>
    obtain ⟨j, hj, rfl, hBr⟩ := hrel
    by_cases hlt : j + 1 < L.length
    · obtain ⟨b, off, rfl, hc⟩ := HKM.out 0 (by omega)
      have g1 := (hBr.cell (p := ⟨b, off + j, none⟩) (hc j (by omega)).1).trans (hc j (by omega)).2
      have g2 := (hBr.cell (p := ⟨b, off + (j + 1), none⟩) (hc (j + 1) hlt).1).trans (hc (j + 1) hlt).2
      have hpq := HR.out (j + 1) (by omega) hlt
      rw [Nat.add_sub_cancel] at hpq
      have e1 : ((j : Int) + 1).toNat = j + 1 := by omega
      have b1 : (j : Int) + 1 < (L.length : Int) := by omega
      have b2 : (j : Int) < (L.length : Int) := by omega
      have b3 : (0 : Int) ≤ (j : Int) + 1 := by omega
      have b4 : (0 : Int) ≤ (j : Int) := by omega
      clear hc
      generalize L[j]?.getD 0 = p at *
      generalize L[j + 1]?.getD 0 = q at *
      go_wp2
      go_quiet (fail)
      go_wp2
      go_roundw
      case rel => exact ⟨j + 1, .inl (by omega), by simp, below_drewN hBr _⟩
      case measure => simp [intOf]; omega
    · have b1 : ¬ ((j : Int) + 1 < (L.length : Int)) := by omega
      have hBw := below_lift hB hBr
      have HM2 := Lib.hid (HM.out.up hBr)
      clear hj hlt hB HM HKM HR
      go_wp2_with fail
      have hOf := Of_any (.slice pm L.length cm) L a _ (HS.out.up hBw) HM2.out
      rw [show L = ints (cats x) from HLL.out.symm] at hOf
      rw [show ofSet (ints (cats x)) = x from HO.out.1, show ofErr (ints (cats x)) = 0 from HO.out.2, HLL.out] at hOf
      refine hOf.mono ?_
      clear hOf
      rintro e w3 ⟨rfl, hB3⟩
      have hB := below_lift hBw hB3
      clear hBw hBr hB3 HM2
      go_wp2_with fail
      refine (Few_any _ l _ _ (HV.out.up hB)).mono ?_
      rintro e w' ⟨v1, rfl, hv1, rfl⟩
      have HV1 := Lib.hid hv1
      clear hv1
      go_wp2_with fail
      refine (Of_any v1 _ a _ (HS.out.up hB) HV1.out).mono ?_
      rintro e w4 ⟨rfl, hB4⟩
      have hBw := below_lift hB hB4
      clear hB hB4 HV1
      generalize ho : ofSet (l.take 100) = o at *
      generalize hf : ofErr (l.take 100) = f at *
      have HOO := Lib.hid ho
      have HFF := Lib.hid hf
      clear ho hf
      go_wp2_with fail
      refine (List_any o _ (HT.out.up hBw)).mono ?_
      rintro e w5 ⟨vn, rfl, hown, hB5⟩
      have hB := below_lift hBw hB5
      have HN := Lib.hid (owns_ints hown (by have := pc_le o; unfold pc at this; omega))
      clear hBw hB5 hown
      go_wp2
      go_loopw [13, 14] (fun r i wr => ∃ j : Nat, ((j < l.length ∧ j < 100) ∨ j = 0) ∧ i = .int .i64 ((j : Int) + 1) ∧ r = .bool (risingB l (j + 1)) ∧ Below w5.heap.size w5 wr) (fun _ i _ => 101 - (intOf i).toNat)
      case atStart => exact ⟨0, .inr rfl, by simp, by rw [risingB_one], Below.refl _ _⟩
      case round =>
        obtain ⟨j, hj, rfl, rfl, hBr⟩ := hrel
        by_cases hlt : j + 1 < l.length ∧ j + 1 < 100
        · obtain ⟨hlt1, hlt2⟩ := hlt
          have hBv := below_lift hB hBr
          obtain ⟨b, off, rfl, hc⟩ := HKV.out 0 (by omega)
          have g1 := (hBv.cell (p := ⟨b, off + j, none⟩) (hc j (by omega)).1).trans (hc j (by omega)).2
          have g2 := (hBv.cell (p := ⟨b, off + (j + 1), none⟩) (hc (j + 1) hlt1).1).trans (hc (j + 1) hlt1).2
          have hrs := risingB_succ l (j + 1) (by omega)
          rw [Nat.add_sub_cancel] at hrs
          have e1 : ((j : Int) + 1).toNat = j + 1 := by omega
          have b1 : (j : Int) + 1 < (l.length : Int) := by omega
          have b2 : (j : Int) < (l.length : Int) := by omega
          have b3 : (0 : Int) ≤ (j : Int) + 1 := by omega
          have b4 : (0 : Int) ≤ (j : Int) := by omega
          have b5 : (j : Int) + 1 < 100 := by omega
          have HRS := Lib.hid hrs
          clear hc hrs
          generalize risingB l (j + 1) = R at *
          generalize l[j]?.getD 0 = p at *
          generalize l[j + 1]?.getD 0 = q at *
          cases R
          · go_wp2
            go_quiet (fail)
            go_wp2
            go_roundw
            case rel => exact ⟨j + 1, .inl ⟨by omega, by omega⟩, by simp, by rw [HRS.out]; rfl, below_drewN hBr _⟩
            case measure => simp [intOf]; omega
          · by_cases hpq : p < q
            · go_wp2
              go_quiet (fail)
              go_wp2
              go_roundw
              case rel => exact ⟨j + 1, .inl ⟨by omega, by omega⟩, by simp, by rw [HRS.out, decide_eq_true (by omega)]; rfl, below_drewN hBr _⟩
              case measure => simp [intOf]; omega
            · go_wp2
              go_quiet (fail)
              go_wp2
              go_roundw
              case rel => exact ⟨j + 1, .inl ⟨by omega, by omega⟩, by simp, by rw [HRS.out, decide_eq_false (by omega)]; rfl, below_drewN hBr _⟩
              case measure => simp [intOf]; omega
        · by_cases hle : j + 1 < l.length
          · have b1 : (j : Int) + 1 < (l.length : Int) := by omega
            have b2 : ¬ ((j : Int) + 1 < 100) := by omega
            have hBv := below_lift hB hBr
            have HE : Hid (min l.length 100 ≤ j + 1) := by show _ ≤ _; omega
            have HN2 := Lib.hid (HN.out.up hBr)
            have hI : (L.length : Int) = (pc x : Int) := by rw [HI.out]
            clear hj hB hBr HN
            generalize hR : risingB l (j + 1) = R at *
            have HRR := Lib.hid hR
            clear hR
            by_cases hok : (l.take 100).all ok = true
            · have hf : (f != 0) = false := by
                rw [← HFF.out, show ofErr (l.take 100) = 0 from if_pos hok]; rfl
              have HOK := Lib.hid hok
              clear hok
              cases R
              · go_wp2_with (go_at_call 14; refine (Count_any _ _).mono ?_; rintro e w' ⟨rfl, rfl⟩)
                go_ret
                exact ⟨rfl, hBv⟩
              · have HP := Lib.hid (rising_take l 100 (rising_le l _ _ HRR.out HE.out))
                go_wp2_with (go_at_call 14; refine (Count_any _ _).mono ?_; rintro e w' ⟨rfl, rfl⟩)
                refine (Few_any _ l _ _ (HV.out.up hBv)).mono ?_
                rintro e w' ⟨v2, rfl, hv2, rfl⟩
                have HV2 := Lib.hid hv2
                clear hv2
                go_wp2_with fail
                have hIn := rInts_any vn v2 _ _ _ HN2.out HV2.out
                rw [decide_eq_true (show ints (cats o) = l.take 100 by rw [← HOO.out]; exact list_of _ HOK.out HP.out)] at hIn
                refine hIn.mono ?_
                clear hIn
                rintro e w7 ⟨rfl, hB7⟩
                go_wp2
                go_ret
                exact ⟨rfl, below_lift hBv hB7⟩
            · have hf : (f != 0) = true := by
                rw [← HFF.out, show ofErr (l.take 100) = 10 from if_neg hok]; rfl
              clear hok
              go_wp2_with (go_at_call 14; refine (Count_any _ _).mono ?_; rintro e w' ⟨rfl, rfl⟩)
              go_ret
              exact ⟨rfl, hBv⟩
          · have b1 : ¬ ((j : Int) + 1 < (l.length : Int)) := by omega
            have hBv := below_lift hB hBr
            have HE : Hid (min l.length 100 ≤ j + 1) := by show _ ≤ _; omega
            have HN2 := Lib.hid (HN.out.up hBr)
            have hI : (L.length : Int) = (pc x : Int) := by rw [HI.out]
            clear hj hB hBr HN
            generalize hR : risingB l (j + 1) = R at *
            have HRR := Lib.hid hR
            clear hR
            by_cases hok : (l.take 100).all ok = true
            · have hf : (f != 0) = false := by
                rw [← HFF.out, show ofErr (l.take 100) = 0 from if_pos hok]; rfl
              have HOK := Lib.hid hok
              clear hok
              cases R
              · go_wp2_with (go_at_call 14; refine (Count_any _ _).mono ?_; rintro e w' ⟨rfl, rfl⟩)
                go_ret
                exact ⟨rfl, hBv⟩
              · have HP := Lib.hid (rising_take l 100 (rising_le l _ _ HRR.out HE.out))
                go_wp2_with (go_at_call 14; refine (Count_any _ _).mono ?_; rintro e w' ⟨rfl, rfl⟩)
                refine (Few_any _ l _ _ (HV.out.up hBv)).mono ?_
                rintro e w' ⟨v2, rfl, hv2, rfl⟩
                have HV2 := Lib.hid hv2
                clear hv2
                go_wp2_with fail
                have hIn := rInts_any vn v2 _ _ _ HN2.out HV2.out
                rw [decide_eq_true (show ints (cats o) = l.take 100 by rw [← HOO.out]; exact list_of _ HOK.out HP.out)] at hIn
                refine hIn.mono ?_
                clear hIn
                rintro e w7 ⟨rfl, hB7⟩
                go_wp2
                go_ret
                exact ⟨rfl, below_lift hBv hB7⟩
            · have hf : (f != 0) = true := by
                rw [← HFF.out, show ofErr (l.take 100) = 10 from if_neg hok]; rfl
              clear hok
              go_wp2_with (go_at_call 14; refine (Count_any _ _).mono ?_; rintro e w' ⟨rfl, rfl⟩)
              go_ret
              exact ⟨rfl, hBv⟩
end Go.Proofs.YtkmklmdhmfikmaaDoor
