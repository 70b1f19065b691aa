/-
  THE REFERENCE'S SLOTS: Give, All, Same.
-/
import Derived.Test.YtgjnmpbahekbfaaDoorSlRc
namespace Go.Proofs.YtgjnmpbahekbfaaDoor
open Go.RowKit

/-- one append more: what it touches -/
theorem Turns.row_grown {W w1 : World} {nb e size len : Nat} {v : Value} {xs : List Value} {tmp : Obj} (hr : W.ownsRow nb e size v len xs) (hgrow : (W.alloc tmp).grownBy w1 v.ownBlock) : Turns (fun k => nb ≤ k) W w1 := by
  have hrow : ∀ k, v.ownBlock = some k → nb ≤ k ∧ ∀ o, (W.alloc tmp).heap[k]? = some o → o.isCells = true := by
    intro k hk
    rcases (hr.alloc tmp).2 with ⟨rfl, _⟩ | ⟨g, cap, cur, rfl, hg, hgb, _⟩
    · simp [Value.ownBlock] at hk
    · obtain rfl : g = k := by simpa [Value.ownBlock] using hk
      exact ⟨hg, fun o ho => by rw [hgb] at ho; cases ho; rfl⟩
  exact ((Turns.refl _ W).alloc tmp).grown hgrow (fun k hk => ⟨(hrow k hk).1, (hrow k hk).2⟩)
theorem rGive_w0 (rb gb tb : Nat) (n : Nat) (gen : List Int) (tk : List Bool) (x : Hd) (w : World) (H : RefAt w rb gb tb n gen tk) (hn : n ≤ 64) (hx : x ∉ liveTo gen tk n) :
    Calls Tryd.prog 19 #[.pointer (some ⟨rb, 0, none⟩), .agg #[.int .i64 x.slot, .int .i64 x.gen]] w fun e w' => e = .returned (.int .i64 61) ∧ Below w.heap.size w w' := by
  have HH := Lib.hid H
  have hr : decide (x ∈ liveTo gen tk n) = false := decide_eq_false hx
  have a0 := (Blk.new' (w := w) (t := 28) (cs := #[.int .i64 x.slot, .int .i64 x.gen]) rfl).at_ (i := 0) (v := .int .i64 x.slot) rfl
  have a1 := (Blk.new' (w := w) (t := 28) (cs := #[.int .i64 x.slot, .int .i64 x.gen]) rfl).at_ (i := 1) (v := .int .i64 x.gen) rfl
  have HR := Lib.hid hr
  clear H hx hr
  go_enter Tryd.func19, Tryd.ntmps19
  go_wp2_with fail
  refine (rLive_w rb gb tb n gen tk x _ (HH.out.alloc _) hn).mono ?_
  rintro e w1 ⟨rfl, hB⟩
  rw [HR.out]
  have B := Lib.hid (below_call (w := w) (below_alloc (Below.refl _ _) _) hB)
  clear hB a0 a1
  go_wp2_with fail
  go_ret
  exact ⟨rfl, B.out⟩
set_option maxRecDepth 100000 in
set_option maxHeartbeats 8000000 in
theorem rGive_w (rb gb tb : Nat) (n : Nat) (gen : List Int) (tk : List Bool) (i : Nat) (g : Int) (w : World) (H : RefAt w rb gb tb n gen tk) (hn : n ≤ 64) (ht : tk[i]? = some true) (hg : gen[i]? = some g) :
    Calls Tryd.prog 19 #[.pointer (some ⟨rb, 0, none⟩), .agg #[.int .i64 i, .int .i64 g]] w fun e w' => e = .returned (.int .i64 0) ∧ RefAt w' rb gb tb n gen (tk.set i false) ∧ Turns (OwnF gb tb w.heap.size) w w' := by
  have HH := Lib.hid H
  have hin : i < n := by have := (List.getElem?_eq_some_iff.1 ht).1; rw [H.tl] at this; exact this
  have hr : decide ((⟨i, g⟩ : Hd) ∈ liveTo gen tk n) = true := decide_eq_true (live_mem_iff.2 ⟨i, hin, rfl, ht, hg⟩)
  have A := Blk.new' (w := w) (t := 28) (cs := #[.int .i64 i, .int .i64 g]) rfl
  have a0 := A.at_ (i := 0) (v := .int .i64 i) rfl
  have a1 := A.at_ (i := 1) (v := .int .i64 g) rfl
  have HR := Lib.hid hr
  have HA := Lib.hid A
  have HIN := Lib.hid hin
  have HT := Lib.hid ht
  have HZ := Lib.hid H.lts
  have NE := Lib.hid H.ne
  clear H hr hg A hin ht
  go_enter Tryd.func19, Tryd.ntmps19
  go_wp2_with fail
  refine (rLive_w rb gb tb n gen tk ⟨i, g⟩ _ (HH.out.alloc _) hn).mono ?_
  rintro e w1 ⟨rfl, hB⟩
  rw [HR.out]
  have R1 := Lib.hid ((HH.out.alloc _).after hB)
  have A1 := Lib.hid (HA.out.after hB)
  have T1 : Hid (Turns (OwnF gb tb w.heap.size) w w1) := Lib.hid (((Turns.refl _ w).alloc _).below hB)
  clear hB a0 a1
  go_wp2_with fail
  have k0 : (0 : Int) ≤ (i : Int) := by omega
  have k1 : (i : Int) < (n : Int) := by have := HIN.out; omega
  have q1 := R1.out.cells.2
  have q2 := R1.out.tk HT.out
  have q3 := R1.out.t.frozen i
  have c0 := A1.out.at_ (i := 0) (v := .int .i64 i) rfl
  simp only [Bool.not_true] at q2
  go_region
  have n1 := NE.out
  have T2 : Blk (w1.setCell ⟨tb, i, none⟩ (.bool true)) tb 4 ⟨((tk.set i false).map Bool.not).map vB⟩ := by
    have := R1.out.t.set' (u := vB true) (i := i) (set_map vB (tk.map Bool.not) i true)
    rwa [show (tk.map Bool.not).set i true = (tk.set i false).map Bool.not by rw [List.map_set]; rfl] at this
  have S2 := R1.out.s.far (Ne.symm n1.2.1) (i := i) (.bool true)
  have G2 := R1.out.g.far (Ne.symm n1.2.2) (i := i) (.bool true)
  have R2 : Hid (RefAt (w1.setCell ⟨tb, i, none⟩ (.bool true)).drew rb gb tb n gen (tk.set i false)) := Lib.hid ⟨S2.drew, G2.drew, T2.drew, HH.out.gl, by rw [List.length_set]; exact HH.out.tl⟩
  have U2 : Hid (Turns (OwnF gb tb w.heap.size) w (w1.setCell ⟨tb, i, none⟩ (.bool true)).drew) := Lib.hid (T1.out.setCell (p := ⟨tb, i, none⟩) (.inr (.inl rfl)) _).drew
  clear n1 T2 S2 G2 q1 q2 q3 c0
  go_wp2_with fail
  go_ret
  exact ⟨rfl, R2.out, U2.out⟩
set_option maxRecDepth 100000 in
set_option maxHeartbeats 8000000 in
theorem rAll_w (rb gb tb : Nat) (n : Nat) (gen : List Int) (tk : List Bool) (w : World) (H : RefAt w rb gb tb n gen tk) (hn : n ≤ 64) :
    Calls Tryd.prog 20 #[.pointer (some ⟨rb, 0, none⟩)] w fun e w' => ∃ v', e = .returned v' ∧ w'.ownsRow w.heap.size 28 2 v' (liveTo gen tk n).length (hcells (liveTo gen tk n)) ∧ Below w.heap.size w w' := by
  obtain ⟨i0, hi, hz0, hz1, hz2⟩ := info_parts infoHd
  have HH := Lib.hid H
  have HZ := Lib.hid H.lts
  clear H
  go_enter Tryd.func20, Tryd.ntmps20
  go_wp2_with fail
  go_loopw [3, 4] (fun v s wr => ∃ (j : Nat) (vv : Value), vv = v ∧ s = .int .i64 j ∧ j ≤ n ∧ wr.ownsRow w.heap.size 28 2 vv (liveTo gen tk j).length (hcells (liveTo gen tk j)) ∧ Below w.heap.size w wr) (fun _ s _ => n - (intOf s).toNat)
  case atStart => exact ⟨0, _, rfl, rfl, Nat.zero_le _, World.ownsRow_nil _ _ _ _, Below.refl _ _⟩
  case round =>
    obtain ⟨j, v, rfl, rfl, hj, hown, hB⟩ := hrel
    have B := Lib.hid hB
    have R := Lib.hid (HH.out.after hB)
    have hsz := hB.size
    have hlen := liveTo_len gen tk j
    have q0 := R.out.cells.1
    have q1 := R.out.cells.2
    clear hB
    by_cases hjn : j < n
    · have HLT := Lib.hid hjn
      have k0 : (0 : Int) ≤ (j : Int) := by omega
      have k1 : (j : Int) < (n : Int) := by omega
      obtain ⟨⟨y, hy⟩, b, hb⟩ := R.out.gets (j := j) hjn
      have q2 := R.out.tk hb
      have q3 := R.out.gen hy
      cases b
      · have HN := Lib.hid (liveTo_no (gen := gen) hb)
        have OW : Hid (wr.ownsRow w.heap.size 28 2 v (liveTo gen tk j).length (hcells (liveTo gen tk j))) := Lib.hid hown
        simp only [Bool.not_false] at q2
        clear hy hb hjn hj hown hlen
        go_wp2_with fail
        go_roundw
        case rel => exact ⟨j + 1, v, rfl, by go_num, by have := HLT.out; omega, by rw [HN.out]; exact OW.out, B.out⟩
        case measure => have := HLT.out; simp [intOf]; omega
      · have HN := Lib.hid (liveTo_yes hb hy)
        simp only [Bool.not_true] at q2
        clear hy hb hjn hj
        generalize liveTo gen tk j = L at *
        go_wp2_with (at_builtin; refine wpList_append_own _ rfl _ _ 35 rfl w.heap.size 28 i0 (.agg #[.int .i64 0, .int .i64 0]) 2 16 Tryd.underlying35 hi hz0 hz1 hz2 rfl (by decide) _ _ _ rfl (hown.alloc _) ⟨wr.heap.size, 0, none⟩ 1 1 [.int .i64 j, .int .i64 y] rfl rfl (cell_two_new _ _ _ _) (by simp [Value.oneCell']) (by unfold maxLen; omega) (by omega) (by simp; omega) ?_; intro v' w1 hown' hgrow _; obtain ⟨g', cap', rfl⟩ := ownsRow_succ hown'; have hT := Turns.row_grown hown hgrow)
        go_roundw
        case rel => exact ⟨j + 1, _, rfl, by go_num, by have := HLT.out; omega, by rw [HN.out, hcells_snoc, List.length_append]; exact hown', B.out.trans (hT.down hsz (fun _ hk => hk))⟩
        case measure => have := HLT.out; simp [intOf]; omega
    · obtain rfl : j = n := by omega
      have OW : Hid (wr.ownsRow w.heap.size 28 2 v (liveTo gen tk j).length (hcells (liveTo gen tk j))) := Lib.hid hown
      clear hjn hj hown hlen
      go_wp2_with fail
      go_ret
      exact ⟨v, rfl, OW.out, B.out⟩
/-- a list of handles, as a slice of its own holds it -/
def HdsAt (W : World) (v : Value) (l : List Hd) : Prop := W.ownsRow 0 28 2 v l.length (hcells l)
theorem HdsAt.of {W : World} {b : Nat} {v : Value} {l : List Hd} (h : W.ownsRow b 28 2 v l.length (hcells l)) : HdsAt W v l := by
  obtain ⟨h1, h2⟩ := h
  refine ⟨h1, ?_⟩
  rcases h2 with h2 | ⟨g, cap, cur, hv, _, r⟩
  · exact .inl h2
  · exact .inr ⟨g, cap, cur, hv, Nat.zero_le _, r⟩
theorem HdsAt.keepT {W W' : World} {v : Value} {l : List Hd} {T : Nat → Prop} (h : HdsAt W v l) (k : Turns T W W') (hT : ∀ g, v.ownBlock = some g → ¬ T g) : HdsAt W' v l := by
  obtain ⟨h1, h2⟩ := h
  refine ⟨h1, ?_⟩
  rcases h2 with h2 | ⟨g, cap, cur, rfl, hg, hh, r⟩
  · exact .inl h2
  · exact .inr ⟨g, cap, cur, rfl, hg, k.same _ _ hh (.inl (hT g rfl)), r⟩
theorem HdsAt.after {W W' : World} {v : Value} {l : List Hd} (h : HdsAt W v l) (hb : Below W.heap.size W W') : HdsAt W' v l := h.keepT (T := fun _ => False) (Turns.of_below hb) (fun _ _ => id)
theorem HdsAt.val {W : World} {v : Value} {l : List Hd} (h : HdsAt W v l) : ∃ p cap, v = .slice p l.length cap := ownsRow_val h
theorem hcells_get {l : List Hd} {i : Nat} {x : Hd} (h : l[i]? = some x) : (hcells l)[i * 2]? = some (.int .i64 x.slot) ∧ (hcells l)[i * 2 + 1]? = some (.int .i64 x.gen) := by
  induction l generalizing i with
  | nil => cases h
  | cons a r ih =>
    match i with
    | 0 => cases h; exact ⟨rfl, rfl⟩
    | i + 1 =>
      obtain ⟨h1, h2⟩ := ih (i := i) h
      have e1 : (i + 1) * 2 = i * 2 + 2 := by omega
      have e2 : hcells (a :: r) = .int .i64 a.slot :: .int .i64 a.gen :: hcells r := rfl
      rw [e1, e2]
      exact ⟨h1, h2⟩
theorem HdsAt.get {W : World} {v : Value} {l : List Hd} (h : HdsAt W v l) {i : Nat} {x : Hd} (hx : l[i]? = some x) : ∃ g cap, v = .slice (some ⟨g, 0, none⟩) l.length cap ∧ W.cell? ⟨g, i * 2, none⟩ = some (.int .i64 x.slot) ∧ W.cell? ⟨g, i * 2 + 1, none⟩ = some (.int .i64 x.gen) := by
  have hi := (List.getElem?_eq_some_iff.1 hx).1
  obtain ⟨h1, h2⟩ := h
  rcases h2 with ⟨_, h2⟩ | ⟨g, cap, cur, rfl, hg, hh, hc, _, _, hr⟩
  · omega
  · have hb : Blk W g 28 cur := hh
    obtain ⟨e1, e2⟩ := hcells_get hx
    have key : ∀ (k : Nat) (u : Value), (hcells l)[k]? = some u → cur[k]? = some u := by
      intro k u hu
      rw [← hr, List.getElem?_take] at hu
      split at hu
      · rw [← Array.getElem?_toList]; exact hu
      · cases hu
    exact ⟨g, cap, rfl, hb.at_ (key _ _ e1), hb.at_ (key _ _ e2)⟩
set_option maxRecDepth 100000 in
set_option maxHeartbeats 8000000 in
theorem Same_w (v0 v1 : Value) (a b : List Hd) (w : World) (ha : HdsAt w v0 a) (hb : HdsAt w v1 b) (hl : a.length ≤ 900) :
    Calls Tryd.prog 21 #[v0, v1] w fun e w' => e = .returned (.bool (decide (a = b))) ∧ Below w.heap.size w w' := by
  have HA := Lib.hid ha
  have HB := Lib.hid hb
  obtain ⟨p0, c0, rfl⟩ := ha.val
  obtain ⟨p1, c1, rfl⟩ := hb.val
  clear ha hb
  by_cases hlen : a.length = b.length
  · go_enter Tryd.func21, Tryd.ntmps21
    have HL := Lib.hid hlen
    rw [← hlen]
    clear hlen
    go_wp2_with fail
    go_loopw [5] (fun s wr => ∃ (j : Nat), s = .int .i64 j ∧ j ≤ a.length ∧ (∀ k, k < j → a[k]? = b[k]?) ∧ Below w.heap.size w wr) (fun s _ => a.length - (intOf s).toNat)
    case atStart => exact ⟨0, rfl, Nat.zero_le _, fun k hk => absurd hk (by omega), Below.refl _ _⟩
    case round =>
      obtain ⟨j, rfl, hj, hk, hB⟩ := hrel
      have B := Lib.hid hB
      have HK := Lib.hid hk
      clear hB hk
      by_cases hjn : j < a.length
      · obtain ⟨x, hx⟩ : ∃ x, a[j]? = some x := ⟨_, List.getElem?_eq_getElem hjn⟩
        obtain ⟨y, hy⟩ : ∃ y, b[j]? = some y := ⟨_, List.getElem?_eq_getElem (by have := HL.out; omega)⟩
        obtain ⟨g0, d0, e0, q0, q1⟩ := (HA.out.after B.out).get hx
        obtain ⟨g1, d1, e1, q2, q3⟩ := (HB.out.after B.out).get hy
        obtain ⟨rfl, rfl⟩ : p0 = some ⟨g0, 0, none⟩ ∧ c0 = d0 := by cases e0; exact ⟨rfl, rfl⟩
        obtain ⟨rfl, rfl⟩ : p1 = some ⟨g1, 0, none⟩ ∧ c1 = d1 := by cases e1; exact ⟨rfl, rfl⟩
        have k0 : (0 : Int) ≤ (j : Int) := by omega
        have k1 : (j : Int) < (a.length : Int) := by omega
        have HLT := Lib.hid hjn
        have HX := Lib.hid hx
        have HY := Lib.hid hy
        clear e0 e1 hx hy hjn hj
        by_cases hxy : x = y
        · subst hxy
          go_wp2_with fail
          go_quiet (fail)
          go_wp2_with fail
          go_roundw
          case rel => exact ⟨j + 1, by go_num, HLT.out, fun k hk => by
            by_cases h : k = j
            · subst h; rw [HX.out, HY.out]
            · exact HK.out k (by omega), below_drewN B.out _⟩
          case measure => have := HLT.out; simp [intOf]; omega
        · have hr : decide (a = b) = false := decide_eq_false (by
            rintro rfl
            exact hxy (Option.some.inj (HX.out.symm.trans HY.out)))
          have HR := Lib.hid hr
          clear hr
          by_cases h0 : x.slot = y.slot
          · have h1 : ¬ x.gen = y.gen := fun e => hxy (by cases x; cases y; simp_all)
            have h2 : (x.gen == y.gen) = false := beq_eq_false_iff_ne.2 h1
            clear hxy
            go_wp2_with fail
            go_quiet (fail)
            go_wp2_with fail
            go_ret
            exact ⟨by rw [HR.out]; rfl, below_drewN B.out _⟩
          · have h2 : (x.slot == y.slot) = false := beq_eq_false_iff_ne.2 h0
            clear hxy
            go_wp2_with fail
            go_quiet (fail)
            go_wp2_with fail
            go_ret
            exact ⟨by rw [HR.out]; rfl, below_drewN B.out _⟩
      · obtain rfl : j = a.length := by omega
        have hr : decide (a = b) = true := decide_eq_true (List.ext_getElem? (fun k => by
          by_cases h : k < a.length
          · exact HK.out k h
          · rw [List.getElem?_eq_none (by omega), List.getElem?_eq_none (by have := HL.out; omega)]))
        have HR := Lib.hid hr
        clear hr hjn hj
        go_wp2_with fail
        go_ret
        exact ⟨by rw [HR.out]; rfl, B.out⟩
  · have hr : decide (a = b) = false := decide_eq_false (fun e => hlen (by rw [e]))
    have h1 : ((a.length : Int) == (b.length : Int)) = false := beq_eq_false_iff_ne.2 (by omega)
    rw [hr]
    clear hr
    go_enter Tryd.func21, Tryd.ntmps21
    go_wp2_with fail
    go_ret
    exact ⟨rfl, Below.refl _ _⟩
end Go.Proofs.YtgjnmpbahekbfaaDoor
