/-
  THE WALKS OF PACKAGE plimsollref01.
-/
import Derived.Test.YtkmklmdhmfikmaaDoorCatB
import Derived.Maps.AppendAt
import Derived.BigQuiet
import Derived.WalkSmall
import Derived.Deep.QuietTactic
namespace Go.Proofs.YtkmklmdhmfikmaaDoor
open Go.RowKit Go.Extern.Stop Go.Stop Go.Extern

attribute [local go_sem] u_and u_or u_andNot u_add u_sub u_bit u_p1 u_p2 u_p3 u_shr8 u_shr16 u_shr32 u_has and_bit u_eq_zero u_beq

theorem rHas_any (x : BitVec 64) (i : Int) (w : World) :
    Calls Tryd.prog 27 #[.int .u64 (u x), .int .i64 i] w fun e w' => e = .returned (.bool (has x i)) ∧ w = w' := by
  by_cases h0 : 0 ≤ i
  · by_cases h1 : i < 64
    · go_enter Tryd.func27, Tryd.ntmps27
      go_wp2
      go_ret
      exact ⟨rfl, rfl⟩
    · have HF := Lib.hid (has_out x i (by omega))
      go_enter Tryd.func27, Tryd.ntmps27
      go_wp2
      go_ret
      rw [HF.out]
      exact ⟨rfl, rfl⟩
  · have HF := Lib.hid (has_out x i (by omega))
    go_enter Tryd.func27, Tryd.ntmps27
    go_wp2
    go_ret
    rw [HF.out]
    exact ⟨rfl, rfl⟩
theorem rWith_ok (x : BitVec 64) (i : Int) (w : World) (hi : 0 ≤ i ∧ i < 64) :
    Calls Tryd.prog 24 #[.int .u64 (u x), .int .i64 i] w fun e w' => e = .returned (.tuple #[.int .u64 (u (x ||| bit i)), .int .i64 0]) ∧ w = w' := by
  obtain ⟨h0, h1⟩ := hi
  by_cases h : has x i = true
  · have HF := Lib.hid (or_bit x i h0 h1 h)
    go_enter Tryd.func24, Tryd.ntmps24
    go_wp2_with (go_at_call 27; refine (rHas_any x i _).mono ?_; rintro e w' ⟨rfl, rfl⟩)
    go_ret2
    rw [HF.out]
    exact ⟨rfl, rfl⟩
  · have h' : has x i = false := by simpa using h
    have HF := Lib.hid (add_bit x i h0 h1 h')
    clear h
    go_enter Tryd.func24, Tryd.ntmps24
    go_wp2_with (go_at_call 27; refine (rHas_any x i _).mono ?_; rintro e w' ⟨rfl, rfl⟩)
    go_ret2
    rw [← HF.out]
    exact ⟨rfl, rfl⟩
theorem rWith_bad (x : BitVec 64) (i : Int) (w : World) (hi : ¬ (0 ≤ i ∧ i < 64)) :
    Calls Tryd.prog 24 #[.int .u64 (u x), .int .i64 i] w fun e w' => e = .returned (.tuple #[.int .u64 0, .int .i64 10]) ∧ w = w' := by
  by_cases h0 : i < 0
  all_goals
    go_enter Tryd.func24, Tryd.ntmps24
    go_wp2
    go_ret2
    exact ⟨rfl, rfl⟩
theorem rWithout_ok (x : BitVec 64) (i : Int) (w : World) (hi : 0 ≤ i ∧ i < 64) :
    Calls Tryd.prog 25 #[.int .u64 (u x), .int .i64 i] w fun e w' => e = .returned (.tuple #[.int .u64 (u (x &&& ~~~bit i)), .int .i64 0]) ∧ w = w' := by
  obtain ⟨h0, h1⟩ := hi
  by_cases h : has x i = true
  · have HF := Lib.hid (sub_bit x i h0 h1 h)
    go_enter Tryd.func25, Tryd.ntmps25
    go_wp2_with (go_at_call 27; refine (rHas_any x i _).mono ?_; rintro e w' ⟨rfl, rfl⟩)
    go_ret2
    rw [← HF.out]
    exact ⟨rfl, rfl⟩
  · have h' : has x i = false := by simpa using h
    have HF := Lib.hid (not_bit x i h0 h1 h')
    clear h
    go_enter Tryd.func25, Tryd.ntmps25
    go_wp2_with (go_at_call 27; refine (rHas_any x i _).mono ?_; rintro e w' ⟨rfl, rfl⟩)
    go_ret2
    rw [HF.out]
    exact ⟨rfl, rfl⟩
theorem rWithout_bad (x : BitVec 64) (i : Int) (w : World) (hi : ¬ (0 ≤ i ∧ i < 64)) :
    Calls Tryd.prog 25 #[.int .u64 (u x), .int .i64 i] w fun e w' => e = .returned (.tuple #[.int .u64 0, .int .i64 10]) ∧ w = w' := by
  by_cases h0 : i < 0
  all_goals
    go_enter Tryd.func25, Tryd.ntmps25
    go_wp2
    go_ret2
    exact ⟨rfl, rfl⟩

theorem rOf_any (v : Value) (l : List Int) (w : World) (hv : IntsAt w.heap.size w v l) :
    Calls Tryd.prog 23 #[v] w fun e w' => e = .returned (.tuple #[.int .u64 (u (ofSet l)), .int .i64 (ofErr l)]) ∧ w = w' := by
  rcases hv with ⟨rfl, rfl⟩ | ⟨b, off, cap, rfl, hlt, hn, _, hc⟩
  · have e1 : ofSet [] = 0#64 := rfl
    have e2 : ofErr [] = 0 := rfl
    rw [e1, e2, u_zero]
    clear e1 e2
    go_enter Tryd.func23, Tryd.ntmps23
    go_wp2
    go_rounds 1
    all_goals go_ret2
    all_goals exact ⟨rfl, rfl⟩
  · have HC := Lib.hid hc
    clear hc
    go_enter Tryd.func23, Tryd.ntmps23
    go_wp2
    go_loop [4, 5] (fun s i => ∃ k : Nat, k ≤ l.length ∧ i = .int .i64 k ∧ s = .int .u64 (u (withAll 0#64 (l.take k))) ∧ (l.take k).all ok = true) (fun _ i => l.length - (intOf i).toNat)
    case atStart => exact ⟨0, Nat.zero_le _, rfl, rfl, rfl⟩
    case round =>
      obtain ⟨k, hk, rfl, rfl, ha⟩ := hrel
      by_cases hlt2 : k < l.length
      · have hcell := HC.out k hlt2
        have HT := Lib.hid (take_next hlt2)
        have HA := Lib.hid ha
        have HM : Hid (l[k]?.getD 0 ∈ l) := by
          show l[k]?.getD 0 ∈ l
          rw [List.getElem?_eq_getElem hlt2]; exact List.getElem_mem hlt2
        clear ha
        generalize l[k]?.getD 0 = z at *
        by_cases hz : 0 ≤ z ∧ z < 64
        · have HO := Lib.hid (ok_iff.2 hz)
          have HX := Lib.hid (withAll_yes 0#64 (l.take k) z HO.out)
          generalize withAll 0#64 (l.take k) = y at *
          go_wp2_with (go_at_call 24; refine (rWith_ok y z _ hz).mono ?_; rintro e w' ⟨rfl, rfl⟩)
          go_round
          case rel => exact ⟨k + 1, hlt2, by go_num, by rw [HT.out, HX.out], by rw [HT.out, List.all_append, HA.out]; simp [HO.out]⟩
          case measure => simp [intOf]; omega
        · have HN : Hid (l.all ok = false) := by
            show l.all ok = false
            rw [List.all_eq_false]
            exact ⟨z, HM.out, by rw [ok_iff]; exact hz⟩
          generalize withAll 0#64 (l.take k) = y at *
          go_wp2_with (go_at_call 24; refine (rWith_bad y z _ hz).mono ?_; rintro e w' ⟨rfl, rfl⟩)
          go_ret2
          have e1 : ofSet l = 0#64 := if_neg (by rw [HN.out]; simp)
          have e2 : ofErr l = 10 := if_neg (by rw [HN.out]; simp)
          rw [e1, e2, u_zero]
          exact ⟨rfl, rfl⟩
      · obtain rfl : k = l.length := by omega
        rw [List.take_length] at ha ⊢
        have e1 : ofSet l = withAll 0#64 l := if_pos ha
        have e2 : ofErr l = 0 := if_pos ha
        have HE1 := Lib.hid e1
        have HE2 := Lib.hid e2
        clear e1 e2 ha
        go_wp2
        go_ret2
        rw [HE1.out, HE2.out]
        exact ⟨rfl, rfl⟩

/-! ### two sets -/
/-- what of the first k categories is left -/
def lessTo (x y : BitVec 64) : Nat → BitVec 64
  | 0 => x
  | k + 1 => if has y (k : Int) then lessTo x y k &&& ~~~bit (k : Int) else lessTo x y k
theorem has_lessTo (x y : BitVec 64) (j : Nat) (hj : j < 64) : ∀ k, k ≤ 64 → has (lessTo x y k) (j : Int) = (has x (j : Int) && !(decide (j < k) && has y (j : Int)))
  | 0, _ => by simp [lessTo]
  | k + 1, hk => by
    have ih := has_lessTo x y j hj k (by omega)
    unfold lessTo
    by_cases h : has y (k : Int) = true
    · rw [if_pos h, has_not_bit _ _ _ (by omega) (by omega), ih]
      by_cases e : j = k
      · subst e; simp [h]
      · have e1 : ¬ ((j : Int) = (k : Int)) := by omega
        have e2 : (j < k + 1) ↔ (j < k) := by omega
        simp [e1, e2]
    · rw [if_neg h, ih]
      by_cases e : j = k
      · subst e; simp [h]
      · have e2 : (j < k + 1) ↔ (j < k) := by omega
        simp [e2]
theorem lessTo_all (x y : BitVec 64) : lessTo x y 64 = x &&& ~~~y := by
  refine has_ext fun k hk => ?_
  rw [has_lessTo x y k hk 64 (by omega), has_less]
  simp [hk]
theorem rLess_any (x y : BitVec 64) (w : World) :
    Calls Tryd.prog 13 #[.int .u64 (u x), .int .u64 (u y)] w fun e w' => e = .returned (.int .u64 (u (x &&& ~~~y))) ∧ w = w' := by
  go_enter Tryd.func13, Tryd.ntmps13
  go_wp2
  go_loop [0, 5] (fun s i => ∃ k : Nat, k ≤ 64 ∧ i = .int .i64 k ∧ s = .int .u64 (u (lessTo x y k))) (fun _ i => 64 - (intOf i).toNat)
  case atStart => exact ⟨0, by omega, rfl, rfl⟩
  case round =>
    obtain ⟨k, hk, rfl, rfl⟩ := hrel
    by_cases hlt : k < 64
    · by_cases hy : has y (k : Int) = true
      · have HX : Hid (lessTo x y (k + 1) = lessTo x y k &&& ~~~bit (k : Int)) := by
          show lessTo x y (k + 1) = _
          rw [lessTo, if_pos hy]
        generalize lessTo x y k = z at *
        go_wp2_with (first | (go_at_call 27; refine (rHas_any y k _).mono ?_; rintro e w' ⟨rfl, rfl⟩) | (go_at_call 25; refine (rWithout_ok z k _ (by omega)).mono ?_; rintro e w' ⟨rfl, rfl⟩))
        go_round
        case rel => exact ⟨k + 1, by omega, by go_num, by rw [HX.out]⟩
        case measure => simp [intOf]; omega
      · have hy' : has y (k : Int) = false := by simpa using hy
        have HX : Hid (lessTo x y (k + 1) = lessTo x y k) := by
          show lessTo x y (k + 1) = _
          rw [lessTo, if_neg hy]
        clear hy
        generalize lessTo x y k = z at *
        go_wp2_with (go_at_call 27; refine (rHas_any y k _).mono ?_; rintro e w' ⟨rfl, rfl⟩)
        go_round
        case rel => exact ⟨k + 1, by omega, by go_num, by rw [HX.out]⟩
        case measure => simp [intOf]; omega
    · obtain rfl : k = 64 := by omega
      have HX := Lib.hid (lessTo_all x y)
      generalize lessTo x y 64 = z at *
      go_wp2
      go_ret
      rw [HX.out]
      exact ⟨rfl, rfl⟩
theorem rSub_any (x y : BitVec 64) (w : World) :
    Calls Tryd.prog 11 #[.int .u64 (u x), .int .u64 (u y)] w fun e w' => e = .returned (.bool (sub x y)) ∧ w = w' := by
  go_enter Tryd.func11, Tryd.ntmps11
  go_wp2
  go_loop [5] (fun i => ∃ k : Nat, k ≤ 64 ∧ i = .int .i64 k ∧ ∀ j : Nat, j < k → has x (j : Int) = true → has y (j : Int) = true) (fun i => 64 - (intOf i).toNat)
  case atStart => exact ⟨0, by omega, rfl, fun j hj => by omega⟩
  case round =>
    obtain ⟨k, hk, rfl, hall⟩ := hrel
    have HA := Lib.hid hall
    clear hall
    by_cases hlt : k < 64
    · by_cases hx : has x (k : Int) = true
      · by_cases hy : has y (k : Int) = true
        · go_wp2_with (go_at_call 27; refine (rHas_any _ k _).mono ?_; rintro e w' ⟨rfl, rfl⟩)
          go_round
          case rel =>
            exact ⟨k + 1, by omega, by go_num, fun j hj hx' => by
              by_cases e : j = k
              · subst e; exact hy
              · exact HA.out j (by omega) hx'⟩
          case measure => simp [intOf]; omega
        · have hy' : has y (k : Int) = false := by simpa using hy
          clear hy
          go_wp2_with (go_at_call 27; refine (rHas_any _ k _).mono ?_; rintro e w' ⟨rfl, rfl⟩)
          go_ret
          have : sub x y = false := by
            rw [← Bool.not_eq_true, sub_iff]
            intro h
            rw [h k hlt hx] at hy'
            cases hy'
          rw [this]
          exact ⟨rfl, rfl⟩
      · have hx' : has x (k : Int) = false := by simpa using hx
        clear hx
        go_wp2_with (go_at_call 27; refine (rHas_any _ k _).mono ?_; rintro e w' ⟨rfl, rfl⟩)
        go_round
        case rel =>
          exact ⟨k + 1, by omega, by go_num, fun j hj hj' => by
            by_cases e : j = k
            · subst e; rw [hx'] at hj'; cases hj'
            · exact HA.out j (by omega) hj'⟩
        case measure => simp [intOf]; omega
    · obtain rfl : k = 64 := by omega
      have HX := Lib.hid (sub_iff.2 HA.out)
      go_wp2
      go_ret
      rw [HX.out]
      exact ⟨rfl, rfl⟩

/-! ### List, Count -/
def catsTo (x : BitVec 64) (k : Nat) : List Nat := (List.range k).filter fun j : Nat => has x (j : Int)
theorem catsTo_yes (x : BitVec 64) (k : Nat) (h : has x (k : Int) = true) : catsTo x (k + 1) = catsTo x k ++ [k] := by
  unfold catsTo; rw [List.range_succ, List.filter_append]; simp [h]
theorem catsTo_no (x : BitVec 64) (k : Nat) (h : has x (k : Int) = false) : catsTo x (k + 1) = catsTo x k := by
  unfold catsTo; rw [List.range_succ, List.filter_append]; simp [h]
theorem catsTo_len (x : BitVec 64) (k : Nat) : (catsTo x k).length ≤ k := by
  unfold catsTo; have := List.length_filter_le (fun j : Nat => has x (j : Int)) (List.range k); simpa using this
theorem catsTo_all (x : BitVec 64) : catsTo x 64 = cats x := rfl
def nums (l : List Nat) : List Value := l.map fun k : Nat => .int .i64 (k : Int)
def ints (l : List Nat) : List Int := l.map fun k : Nat => (k : Int)
theorem nums_snoc (l : List Nat) (k : Nat) : nums (l ++ [k]) = nums l ++ [.int .i64 (k : Int)] := by simp [nums]
theorem Tryd.infoInt : (Tryd.prog.info? 3).map (fun i => (i.zero, i.size, i.bytes)) = some (some (.int .i64 0), 1, 8) := by kernel_rfl


theorem ints_get (L : List Nat) (k : Nat) (h : k < L.length) : (nums L)[k]? = some (.int .i64 ((ints L)[k]?.getD 0)) := by
  unfold nums ints
  rw [List.getElem?_map, List.getElem?_map, List.getElem?_eq_getElem h]; rfl
theorem ints_len (L : List Nat) : (ints L).length = L.length := by simp [ints]
/-- what the call owns reads as a list -/
theorem owns_ints {w : World} {base : Nat} {v : Value} {L : List Nat} (h : w.ownsRow base 3 1 v L.length (nums L)) (hn : L.length ≤ 9223372036854775807) : IntsAt w.heap.size w v (ints L) := by
  have hh := h
  rcases h.2 with ⟨rfl, h0⟩ | ⟨g, cap, cur, rfl, hb, hg, hcap, hmax, _, _⟩
  · exact .inl ⟨rfl, by rw [List.length_eq_zero_iff.1 h0]; rfl⟩
  · refine .inr ⟨g, 0, cap, by rw [ints_len], (Array.getElem?_eq_some_iff.1 hg).1, by rw [ints_len]; exact hn, by rw [ints_len]; exact hcap, fun k hk => ?_⟩
    rw [ints_len] at hk
    have hc := hh.cells (g := g) rfl k _ (ints_get L k hk)
    have hadd : (⟨g, 0, none⟩ : Addr).add k = ⟨g, 0 + k, none⟩ := by unfold Addr.add; split <;> simp_all
    rw [hadd] at hc
    exact hc
set_option maxRecDepth 100000 in
set_option maxHeartbeats 1000000 in
theorem rList_any (x : BitVec 64) (w : World) :
    Calls Tryd.prog 26 #[.int .u64 (u x)] w fun e w' => ∃ v, e = .returned v ∧ w'.ownsRow w.heap.size 3 1 v (cats x).length (nums (cats x)) ∧ Below w.heap.size w w' := by
  obtain ⟨i0, hi, hz0, hz1, hz2⟩ := info_parts Tryd.infoInt
  go_enter Tryd.func26, Tryd.ntmps26
  go_wp2
  go_loopw [3, 4] (fun v i wr => ∃ k : Nat, k ≤ 64 ∧ i = .int .i64 k ∧ wr.ownsRow w.heap.size 3 1 v (catsTo x k).length (nums (catsTo x k)) ∧ Below w.heap.size w wr) (fun _ i _ => 64 - (intOf i).toNat)
  case atStart => exact ⟨0, by omega, rfl, by rw [show catsTo x 0 = [] from rfl]; exact World.ownsRow_nil _ _ _ _, Below.refl _ _⟩
  case round =>
    obtain ⟨k, hk, rfl, hown, hB⟩ := hrel
    have hlen := catsTo_len x k
    by_cases hlt : k < 64
    · by_cases hx : has x (k : Int) = true
      · have HC := Lib.hid (catsTo_yes x k hx)
        generalize catsTo x k = L at *
        go_wp2_with (first | (go_at_call 27; refine (rHas_any _ k _).mono ?_; rintro e w' ⟨rfl, rfl⟩) | (at_builtin; refine wpList_append_own _ rfl _ _ 32 rfl w.heap.size 3 i0 (.int .i64 0) 1 8 Tryd.underlying32 hi hz0 hz1 hz2 rfl (by decide) _ _ _ rfl (hown.alloc _) ⟨wr.heap.size, 0, none⟩ 1 1 [.int .i64 (k : Int)] rfl rfl (cell_one_new _ _ _) (by simp [Value.oneCell']) (by unfold maxLen; omega) (by omega) (by have := hB.size; simp; omega) ?_; intro v' w1 hown' hgrow _))
        have hB2 : Below w.heap.size w w1 := (hB.alloc hB.size _).grown hgrow (by have := hB.size; simp; omega) (fun j e => (hown.lt j e).1)
        go_wp2
        go_roundw
        case rel => exact ⟨k + 1, by omega, by go_num, by rw [HC.out, nums_snoc]; simpa using hown', hB2⟩
        case measure => simp [intOf]; omega
      · have hx' : has x (k : Int) = false := by simpa using hx
        have HC := Lib.hid (catsTo_no x k hx')
        clear hx
        generalize catsTo x k = L at *
        go_wp2_with (go_at_call 27; refine (rHas_any _ k _).mono ?_; rintro e w' ⟨rfl, rfl⟩)
        go_roundw
        case rel => exact ⟨k + 1, by omega, by go_num, by rw [HC.out]; exact hown, hB⟩
        case measure => simp [intOf]; omega
    · obtain rfl : k = 64 := by omega
      rw [catsTo_all] at hown
      have HO := Lib.hid hown
      clear hown
      go_wp2
      go_ret
      exact ⟨_, rfl, HO.out, hB⟩
theorem rCount_any (x : BitVec 64) (w : World) :
    Calls Tryd.prog 15 #[.int .u64 (u x)] w fun e w' => e = .returned (.int .i64 (pc x)) ∧ Below w.heap.size w w' := by
  go_enter Tryd.func15, Tryd.ntmps15
  go_wp2_with fail
  refine (rList_any x _).mono ?_
  rintro e w' ⟨v, rfl, hown, hB⟩
  rcases hown.2 with ⟨rfl, h0⟩ | ⟨g, cap, cur, rfl, _⟩
  · have HZ : Hid (pc x = 0) := h0
    clear hown h0
    go_wp2
    go_ret
    rw [HZ.out]
    exact ⟨rfl, hB⟩
  · have HZ : Hid ((cats x).length = pc x) := rfl
    clear hown
    generalize (cats x).length = n at *
    go_wp2
    go_ret
    rw [← HZ.out]
    exact ⟨rfl, hB⟩

theorem rInts_any (v1 v2 : Value) (l1 l2 : List Int) (w : World) (h1 : IntsAt w.heap.size w v1 l1) (h2 : IntsAt w.heap.size w v2 l2) :
    Calls Tryd.prog 22 #[v1, v2] w fun e w' => e = .returned (.bool (decide (l1 = l2))) ∧ Below w.heap.size w w' := by
  by_cases hlen : l1.length = l2.length
  · have hl : ((l1.length : Int) != (l2.length : Int)) = false := by rw [bne_eq_false_iff_eq]; omega
    rcases h1 with ⟨rfl, rfl⟩ | ⟨b1, o1, c1, rfl, hb1, hn1, hc1, hr1⟩
    · obtain rfl : l2 = [] := List.length_eq_zero_iff.1 hlen.symm
      rw [decide_eq_true rfl]
      rcases h2 with ⟨rfl, -⟩ | ⟨b2, o2, c2, rfl, hb2, hn2, hc2, hr2⟩
      all_goals
        clear hlen
        go_enter Tryd.func22, Tryd.ntmps22
        go_wp2
        go_rounds 1
        all_goals go_ret
        all_goals exact ⟨rfl, Below.refl _ _⟩
    · rcases h2 with ⟨rfl, rfl⟩ | ⟨b2, o2, c2, rfl, hb2, hn2, hc2, hr2⟩
      · obtain rfl : l1 = [] := List.length_eq_zero_iff.1 hlen
        rw [decide_eq_true rfl]
        clear hlen hr1
        go_enter Tryd.func22, Tryd.ntmps22
        go_wp2
        go_rounds 1
        all_goals go_ret
        all_goals exact ⟨rfl, Below.refl _ _⟩
      · have HL := Lib.hid hlen
        have HR1 := Lib.hid hr1
        have HR2 := Lib.hid hr2
        have hle : l1.length ≤ l2.length := by omega
        clear hr1 hr2 hlen
        go_enter Tryd.func22, Tryd.ntmps22
        go_wp2
        go_loopw [5] (fun i wr => ∃ k : Nat, k ≤ l1.length ∧ i = .int .i64 k ∧ Below w.heap.size w wr ∧ ∀ j, j < k → l1[j]?.getD 0 = l2[j]?.getD 0) (fun i _ => l1.length - (intOf i).toNat)
        case atStart => exact ⟨0, by omega, rfl, Below.refl _ _, fun j hj => by omega⟩
        case round =>
          obtain ⟨k, hk, rfl, hB, hall⟩ := hrel
          have HA := Lib.hid hall
          clear hall
          by_cases hlt : k < l1.length
          · have hlt2 : k < l2.length := by omega
            have g1 := (hB.cell (p := ⟨b1, o1 + k, none⟩) hb1).trans (HR1.out k hlt)
            have g2 := (hB.cell (p := ⟨b2, o2 + k, none⟩) hb2).trans (HR2.out k hlt2)
            have z1 : (0 : Int) ≤ (k : Int) := by omega
            have z2 : (k : Int) < (l1.length : Int) := by omega
            have z3 : (k : Int) < (l2.length : Int) := by omega
            by_cases he : l1[k]?.getD 0 = l2[k]?.getD 0
            · have HN : Hid (∀ j, j < k + 1 → l1[j]?.getD 0 = l2[j]?.getD 0) := fun j hj => by
                by_cases e : j = k
                · subst e; exact he
                · exact HA.out j (by omega)
              rw [← he] at g2
              clear he
              generalize l1[k]?.getD 0 = p at *
              have hne : (p != p) = false := by simp
              go_wp2
              go_quiet (fail)
              go_wp2
              go_roundw
              case rel => exact ⟨k + 1, by omega, by go_num, below_drewN hB _, HN.out⟩
              case measure => simp [intOf]; omega
            · have HN : Hid (l1 ≠ l2) := fun e => he (by rw [e])
              have hne : ((l1[k]?.getD 0) != (l2[k]?.getD 0)) = true := by simpa [bne_iff_ne] using he
              clear he
              generalize l1[k]?.getD 0 = p at *
              generalize l2[k]?.getD 0 = q at *
              go_wp2
              go_quiet (fail)
              go_wp2
              go_ret
              rw [decide_eq_false HN.out]
              exact ⟨rfl, below_drewN hB _⟩
          · obtain rfl : k = l1.length := by omega
            have HN : Hid (l1 = l2) := by
              refine List.ext_getElem HL.out fun i h1 h2 => ?_
              have := HA.out i h1
              rw [List.getElem?_eq_getElem h1, List.getElem?_eq_getElem h2] at this
              exact this
            go_wp2
            go_ret
            rw [decide_eq_true HN.out]
            exact ⟨rfl, hB⟩
  · have hne : l1 ≠ l2 := fun e => hlen (by rw [e])
    rw [decide_eq_false hne]
    have hl : ((l1.length : Int) != (l2.length : Int)) = true := by rw [bne_iff_ne]; omega
    rcases h1 with ⟨rfl, rfl⟩ | ⟨b1, o1, c1, rfl, -⟩ <;> rcases h2 with ⟨rfl, rfl⟩ | ⟨b2, o2, c2, rfl, -⟩
    · exact absurd rfl hlen
    · have hl0 : ((0 : Int) != (l2.length : Int)) = true := hl
      clear hne hlen hl
      go_enter Tryd.func22, Tryd.ntmps22
      go_wp2
      go_ret
      exact ⟨rfl, Below.refl _ _⟩
    · have hl0 : ((l1.length : Int) != (0 : Int)) = true := hl
      clear hne hlen hl
      go_enter Tryd.func22, Tryd.ntmps22
      go_wp2
      go_ret
      exact ⟨rfl, Below.refl _ _⟩
    · clear hne hlen
      go_enter Tryd.func22, Tryd.ntmps22
      go_wp2
      go_ret
      exact ⟨rfl, Below.refl _ _⟩
end Go.Proofs.YtkmklmdhmfikmaaDoor
