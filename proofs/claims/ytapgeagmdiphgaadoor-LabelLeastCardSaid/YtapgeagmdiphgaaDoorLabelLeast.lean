/-
  THE WALK OF THE STATEMENT LabelLeast (printed by wip/genref2.py).
-/
import Derived.Test.YtapgeagmdiphgaaDoorLeastR
import Derived.Test.YtapgeagmdiphgaaDoorLabG
namespace Go.Proofs.YtapgeagmdiphgaaDoor
open Go.RowKit

attribute [local go_sem] u_and u_or u_andNot u_add u_sub u_bit u_eq_zero u_beq

def UnderIs (a b : Lab) (r : Bool) : Prop := ∀ W, Calls Tryd.prog 14 #[.agg #[.int .i64 a.lv, .int .u64 (u a.c), .int .i64 a.ig], .agg #[.int .i64 b.lv, .int .u64 (u b.c), .int .i64 b.ig]] W fun e w' => e = .returned (.bool r) ∧ Below W.heap.size W w'
theorem underIs {a b : Lab} {r : Bool} (h : underL a b = r) : UnderIs a b r := fun W => by rw [← h]; exact Under_any a b W
theorem eqlIs {a b : Lab} {r : Bool} (h : eqL a b = r) : ∀ W, (binOp .eql 24 (.agg #[.int .i64 a.lv, .int .u64 (u a.c), .int .i64 a.ig]) (.agg #[.int .i64 b.lv, .int .u64 (u b.c), .int .i64 b.ig])).run Tryd.prog W = .ok (.bool r) W := fun W => by rw [← h]; exact eql_lab a b W
theorem LabsAt.take {B : Nat} {w : World} {b off m cap : Nat} {l : List Lab} (h : LabsAt B w (.slice (some ⟨b, off, none⟩) l.length cap) l) (k : Nat) (hm : (l.take k).length = m) : LabsAt B w (.slice (some ⟨b, off, none⟩) m cap) (l.take k) := by
  rcases h with ⟨h, _⟩ | ⟨b', off', cap', hv, hlt, hcap, hn, hc⟩
  · cases h
  · cases hv
    subst hm
    have := List.length_take_le k l
    have h2 : (l.take k).length ≤ l.length := by rw [List.length_take]; omega
    refine .inr ⟨b, off, cap, rfl, hlt, by omega, by omega, fun j x hx => hc j x ?_⟩
    rw [List.getElem?_take] at hx
    split at hx
    · exact hx
    · cases hx
theorem get_take {α : Type} {l : List α} {n j : Nat} {x : α} (h : (l.take n)[j]? = some x) : l[j]? = some x := by
  rw [List.getElem?_take] at h
  split at h
  · exact h
  · cases h
theorem le3_foldl (l : List Lab) : ∀ {o : Lab}, okL o = true → (∀ x, x ∈ l → okL x = true) → le3 o (l.foldl stepL o) = true ∧ ∀ x, x ∈ l → le3 x (l.foldl stepL o) = true := by
  induction l with
  | nil => exact fun ho _ => ⟨le3_self _, fun x hx => by cases hx⟩
  | cons y l ih =>
    intro o ho h
    have hy := h y (by simp)
    have e : stepL o y = joinL o y := if_pos hy
    obtain ⟨h1, h2⟩ := ih (okL_step (x := y) ho) (fun x hx => h x (by simp [hx]))
    rw [List.foldl_cons]
    refine ⟨le3_trans (by rw [e]; exact le3_join_l o y) h1, fun x hx => ?_⟩
    rcases List.mem_cons.1 hx with rfl | hx
    · exact le3_trans (by rw [e]; exact le3_join_r o x) h1
    · exact h2 x hx
theorem least_above {l : List Lab} (h : ∀ x, x ∈ l → okL x = true) {x : Lab} (hx : x ∈ l) : underL x (leastL l) = true := by
  have hall : l.all okL = true := by rw [List.all_eq_true]; exact h
  have e : leastL l = foldsL l := if_pos hall
  rw [e, underL_iff]
  exact ⟨h x hx, okL_folds l, (le3_foldl l rfl h).2 x hx⟩
theorem leastE_two (l : List Lab) : (leastE l = 0 ∧ ∀ x, x ∈ l → okL x = true) ∨ leastE l = 20 := by
  unfold leastE
  by_cases h : l.all okL = true
  · rw [if_pos h]; exact .inl ⟨rfl, by rwa [List.all_eq_true] at h⟩
  · rw [if_neg h]; exact .inr rfl
set_option maxRecDepth 100000 in
set_option maxHeartbeats 4000000 in
theorem least_nil (w : World) (hh : Handle w) : Calls Tryd.prog 8 #[.slice none 0 0] w (Yes w) := by
    have HH := Lib.hid hh
    have HL := Lib.hid (LabsAt.nil w.heap.size w)
    have HN := Lib.hid (show leastE [] = 0 from rfl)
    clear hh
    go_enter Tryd.func8, Tryd.ntmps8
    go_wp2_with fail
    refine (shown_any _ HH.out).mono ?_
    rintro e w1 ⟨rfl, hB⟩
    have HB := Lib.hid hB
    clear hB
    go_wp2_with fail
    obtain ⟨a, ha⟩ : ∃ a, leastL [] = a := ⟨_, rfl⟩
    have hL1 := fun W => Least_any [] (.slice none 0 0) W
    have hL2 := fun W => rLeast_any [] (.slice none 0 0) W
    rw [ha, HN.out] at hL1 hL2
    have HL1 := Lib.hid hL1
    have HL2 := Lib.hid hL2
    have HAE := Lib.hid ha
    clear hL1 hL2 ha
    refine (HL1.out _ ((HL.out.below HB.out).mono HB.out.size) (HH.out.up HB.out)).mono ?_
    rintro e w2 ⟨rfl, hB⟩
    replace HB := Lib.hid (below_call HB.out hB)
    clear hB
    go_wp2_with fail
    refine (HL2.out _ ((HL.out.below (below_alloc HB.out _)).mono (below_alloc HB.out _).size)).mono ?_
    rintro e w3 ⟨rfl, hB⟩
    have B0 : Hid (Blk w3 w2.heap.size 24 #[.int .i64 a.lv, .int .u64 (u a.c), .int .i64 a.ig]) := Lib.hid ((Blk.new' rfl).after hB)
    have h23 : w2.heap.size < w3.heap.size := B0.out.lt
    have hz2 : w.heap.size ≤ w2.heap.size := HB.out.size
    replace HB := Lib.hid (below_call (below_alloc HB.out _) hB)
    clear hB
    go_wp2_with fail
    replace B0 := Lib.hid (B0.out.alloc (.cells #[.int .i64 a.lv, .int .u64 (u a.c), .int .i64 a.ig] 24))
    have B1 : Hid (Blk (w3.alloc (.cells #[.int .i64 a.lv, .int .u64 (u a.c), .int .i64 a.ig] 24)) w3.heap.size 24 #[.int .i64 a.lv, .int .u64 (u a.c), .int .i64 a.ig]) := Lib.hid (Blk.new' rfl)
    replace HB := Lib.hid (below_alloc HB.out (.cells #[.int .i64 a.lv, .int .u64 (u a.c), .int .i64 a.ig] 24))
    generalize w2.heap.size = b4 at *
    generalize w3.heap.size = b6 at *
    go_loopw [8] (fun i wr => ∃ k : Nat, i = .int .i64 k ∧ k ≤ 0 ∧ Blk wr b4 24 #[.int .i64 a.lv, .int .u64 (u a.c), .int .i64 a.ig] ∧ Blk wr b6 24 #[.int .i64 a.lv, .int .u64 (u a.c), .int .i64 a.ig] ∧ Below w.heap.size w wr) (fun i _ => 0 - (intOf i).toNat)
    case atStart => exact ⟨0, rfl, Nat.zero_le _, B0.out, B1.out, HB.out⟩
    case round =>
      obtain ⟨k, rfl, hk, h0, h1, hB⟩ := hrel
      replace B0 := Lib.hid h0
      replace B1 := Lib.hid h1
      replace HB := Lib.hid hB
      clear h0 h1 hB
      obtain rfl : k = 0 := by omega
      have p0_0 := B0.out.at_ (i := 0) (v := .int .i64 a.lv) rfl
      have p0_1 := B0.out.at_ (i := 1) (v := .int .u64 (u a.c)) rfl
      have p0_2 := B0.out.at_ (i := 2) (v := .int .i64 a.ig) rfl
      have p1_0 := B1.out.at_ (i := 0) (v := .int .i64 a.lv) rfl
      have p1_1 := B1.out.at_ (i := 1) (v := .int .u64 (u a.c)) rfl
      have p1_2 := B1.out.at_ (i := 2) (v := .int .i64 a.ig) rfl
      have hE := eqlIs (eqL_self a)
      go_wp2_with fail
      go_ret
      exact ⟨rfl, HB.out⟩
set_option maxRecDepth 100000 in
set_option maxHeartbeats 4000000 in
theorem least_cut_0 (ls : List Lab) (b off cap : Nat) (w : World) (hh : Handle w) (hlt : b < w.heap.size) (hcap : ls.length ≤ cap) (hn63 : ls.length ≤ 9223372036854775807)
    (hc : ∀ k x, ls[k]? = some x → w.cell? ⟨b, off + k * 3, none⟩ = some (.int .i64 x.lv) ∧ w.cell? ⟨b, off + k * 3 + 1, none⟩ = some (.int .u64 (u x.c)) ∧ w.cell? ⟨b, off + k * 3 + 2, none⟩ = some (.int .i64 x.ig))
    (hl : LabsAt w.heap.size w (.slice (some ⟨b, off, none⟩) 50 cap) (ls.take 50)) (hm : 50 < ls.length) (hmm : (ls.take 50).length = 50) (hn : leastE (ls.take 50) = 0) (ha : ∀ x, x ∈ (ls.take 50) → okL x = true) :
    Calls Tryd.prog 8 #[.slice (some ⟨b, off, none⟩) ls.length cap] w (Yes w) := by
    have HH := Lib.hid hh
    have HC := Lib.hid hc
    have HL := Lib.hid hl
    have HM := Lib.hid hmm
    have HN := Lib.hid hn
    have HA := Lib.hid ha
    clear hh hc hl hmm hn ha
    go_enter Tryd.func8, Tryd.ntmps8
    go_wp2_with fail
    refine (shown_any _ HH.out).mono ?_
    rintro e w1 ⟨rfl, hB⟩
    have HB := Lib.hid hB
    clear hB
    go_wp2_with fail
    obtain ⟨a, ha⟩ : ∃ a, leastL (ls.take 50) = a := ⟨_, rfl⟩
    have hL1 := fun W => Least_any (ls.take 50) (.slice (some ⟨b, off, none⟩) 50 cap) W
    have hL2 := fun W => rLeast_any (ls.take 50) (.slice (some ⟨b, off, none⟩) 50 cap) W
    rw [ha, HN.out] at hL1 hL2
    have HL1 := Lib.hid hL1
    have HL2 := Lib.hid hL2
    have HAE := Lib.hid ha
    clear hL1 hL2 ha
    refine (HL1.out _ ((HL.out.below HB.out).mono HB.out.size) (HH.out.up HB.out)).mono ?_
    rintro e w2 ⟨rfl, hB⟩
    replace HB := Lib.hid (below_call HB.out hB)
    clear hB
    go_wp2_with fail
    refine (HL2.out _ ((HL.out.below (below_alloc HB.out _)).mono (below_alloc HB.out _).size)).mono ?_
    rintro e w3 ⟨rfl, hB⟩
    have B0 : Hid (Blk w3 w2.heap.size 24 #[.int .i64 a.lv, .int .u64 (u a.c), .int .i64 a.ig]) := Lib.hid ((Blk.new' rfl).after hB)
    have h23 : w2.heap.size < w3.heap.size := B0.out.lt
    have hz2 : w.heap.size ≤ w2.heap.size := HB.out.size
    replace HB := Lib.hid (below_call (below_alloc HB.out _) hB)
    clear hB
    go_wp2_with fail
    replace B0 := Lib.hid (B0.out.alloc (.cells #[.int .i64 a.lv, .int .u64 (u a.c), .int .i64 a.ig] 24))
    have B1 : Hid (Blk (w3.alloc (.cells #[.int .i64 a.lv, .int .u64 (u a.c), .int .i64 a.ig] 24)) w3.heap.size 24 #[.int .i64 a.lv, .int .u64 (u a.c), .int .i64 a.ig]) := Lib.hid (Blk.new' rfl)
    replace HB := Lib.hid (below_alloc HB.out (.cells #[.int .i64 a.lv, .int .u64 (u a.c), .int .i64 a.ig] 24))
    generalize w2.heap.size = b4 at *
    generalize w3.heap.size = b6 at *
    go_loopw [8] (fun i wr => ∃ k : Nat, i = .int .i64 k ∧ k ≤ 50 ∧ Blk wr b4 24 #[.int .i64 a.lv, .int .u64 (u a.c), .int .i64 a.ig] ∧ Blk wr b6 24 #[.int .i64 a.lv, .int .u64 (u a.c), .int .i64 a.ig] ∧ Below w.heap.size w wr) (fun i _ => 50 - (intOf i).toNat)
    case atStart => exact ⟨0, rfl, Nat.zero_le _, B0.out, B1.out, HB.out⟩
    case round =>
      obtain ⟨k, rfl, hk, h0, h1, hB⟩ := hrel
      replace B0 := Lib.hid h0
      replace B1 := Lib.hid h1
      replace HB := Lib.hid hB
      clear h0 h1 hB
      by_cases hkl : k < 50
      · obtain ⟨x, hx⟩ : ∃ x, (ls.take 50)[k]? = some x := ⟨_, List.getElem?_eq_getElem (by first | exact hkl | (rw [HM.out]; exact hkl))⟩
        have hcc := HC.out k x (by first | exact hx | exact get_take hx)
        obtain ⟨c0, c1, c2⟩ := hcc
        have B2 := Lib.hid (Els.of3 ((HB.out.cell (p := ⟨b, off + k * 3, none⟩) hlt).trans c0) ((HB.out.cell (p := ⟨b, off + k * 3 + 1, none⟩) hlt).trans c1) ((HB.out.cell (p := ⟨b, off + k * 3 + 2, none⟩) hlt).trans c2))
        clear c0 c1 c2
        have HU := Lib.hid (underIs (show underL x a = true by rw [← HAE.out]; exact least_above HA.out (List.mem_of_getElem? hx)))
        clear hx
        have hkz : (0 : Int) ≤ (k : Int) := by omega
        have hkz2 : (k : Int) < (50 : Int) := by omega
        go_wp2_with fail
        refine wp_region_gen (S := (fun W' => Blk W' (b4) 24 #[.int .i64 a.lv, .int .u64 (u a.c), .int .i64 a.ig] ∧ Blk W' (b6) 24 #[.int .i64 a.lv, .int .u64 (u a.c), .int .i64 a.ig] ∧ Els W' (b) (off + k * 3) #[.int .i64 x.lv, .int .u64 (u x.c), .int .i64 x.ig] ∧ Below w.heap.size w W')) (by kernel_rfl) ⟨(by repeat (first | exact B0.out | exact Blk.new' (by simp; done) | exact Blk.new' rfl | refine Blk.drew ?_ | refine Blk.alloc ?_ _)), (by repeat (first | exact B1.out | exact Blk.new' (by simp; done) | exact Blk.new' rfl | refine Blk.drew ?_ | refine Blk.alloc ?_ _)), (by repeat (first | exact B2.out | refine Els.drew ?_ | refine Els.alloc ?_ _)), (by repeat (first | exact HB.out | refine below_alloc ?_ _ | refine Below.drew ?_ | refine below_set ?_ (by omega) _))⟩ (fun w1 hS => ?_)
        refine wpAnyH_take (i := 0) (v := ?_) (op_at rfl) (by kernel_rfl) (by kernel_rfl) (by kernel_rfl) (fun _ _ _ h => h) (Or.inl ⟨by rfl, ?_⟩) hS ?_; rotate_left; focus ((intro w' hSw; clear hSw; go_simp) <;> with_reducible rfl)
        try simp only [Act.put, List.setIfInBounds_toArray, List.set_cons_zero, List.set_cons_succ]
        refine wpAnyH_take (i := 1) (v := ?_) (op_at rfl) (by kernel_rfl) (by kernel_rfl) (by kernel_rfl) (fun _ _ _ h => h) (Or.inl ⟨by rfl, ?_⟩) hS ?_; rotate_left; focus ((intro w' hSw; clear hSw; go_simp) <;> with_reducible rfl)
        try simp only [Act.put, List.setIfInBounds_toArray, List.set_cons_zero, List.set_cons_succ]
        refine wpAnyH_take (i := 2) (v := ?_) (op_at rfl) (by kernel_rfl) (by kernel_rfl) (by kernel_rfl) (fun _ _ _ h => h) (Or.inl ⟨by rfl, ?_⟩) hS ?_; rotate_left; focus ((intro w' hSw; clear hSw; go_simp) <;> with_reducible rfl)
        try simp only [Act.put, List.setIfInBounds_toArray, List.set_cons_zero, List.set_cons_succ]
        refine wpAnyH_take (i := 3) (v := ?_) (op_at rfl) (by kernel_rfl) (by kernel_rfl) (by kernel_rfl) (fun _ _ _ h => h) (Or.inl ⟨by rfl, ?_⟩) hS ?_; rotate_left; focus ((intro w' hSw; clear hSw; go_simp) <;> with_reducible rfl)
        try simp only [Act.put, List.setIfInBounds_toArray, List.set_cons_zero, List.set_cons_succ]
        refine wpAnyH_take (i := 4) (v := ?_) (op_at rfl) (by kernel_rfl) (by kernel_rfl) (by kernel_rfl) (fun _ _ _ h => h) (Or.inl ⟨by rfl, ?_⟩) hS ?_; rotate_left; focus ((intro w' hSw; clear hSw; go_simp) <;> with_reducible rfl)
        try simp only [Act.put, List.setIfInBounds_toArray, List.set_cons_zero, List.set_cons_succ]
        refine wpAnyH_take (i := 5) (v := ?_) (op_at rfl) (by kernel_rfl) (by kernel_rfl) (by kernel_rfl) (fun _ _ _ h => h) (Or.inl ⟨by rfl, ?_⟩) hS ?_; rotate_left; focus ((intro w' hSw; clear hSw; go_simp) <;> with_reducible rfl)
        try simp only [Act.put, List.setIfInBounds_toArray, List.set_cons_zero, List.set_cons_succ]
        refine wpAnyH_take (i := 6) (v := ?_) (op_at rfl) (by kernel_rfl) (by kernel_rfl) (by kernel_rfl) (fun _ _ _ h => h) (Or.inl ⟨by rfl, ?_⟩) hS ?_; rotate_left; focus ((intro w' hSw; obtain ⟨-, -, q, -⟩ := hSw; have c0 : w'.cell? ⟨b, off + k * 3, none⟩ = some (.int .i64 x.lv) := q.at_ (i := 0) (v := .int .i64 x.lv) rfl; have c1 : w'.cell? ⟨b, off + k * 3 + 1, none⟩ = some (.int .u64 (u x.c)) := q.at_ (i := 1) (v := .int .u64 (u x.c)) rfl; have c2 : w'.cell? ⟨b, off + k * 3 + 2, none⟩ = some (.int .i64 x.ig) := q.at_ (i := 2) (v := .int .i64 x.ig) rfl; clear q; go_simp) <;> with_reducible rfl)
        try simp only [Act.put, List.setIfInBounds_toArray, List.set_cons_zero, List.set_cons_succ]
        refine wpAnyH_take (i := 7) (v := ?_) (op_at rfl) (by kernel_rfl) (by kernel_rfl) (by kernel_rfl) (fun _ _ _ h => h) (Or.inl ⟨by rfl, ?_⟩) hS ?_; rotate_left; focus ((intro w' hSw; obtain ⟨q, -⟩ := hSw; have c0 := q.at_ (i := 0) (v := .int .i64 a.lv) rfl; have c1 := q.at_ (i := 1) (v := .int .u64 (u a.c)) rfl; have c2 := q.at_ (i := 2) (v := .int .i64 a.ig) rfl; clear q; go_simp) <;> with_reducible rfl)
        try simp only [Act.put, List.setIfInBounds_toArray, List.set_cons_zero, List.set_cons_succ]
        refine wpAnyH_ready (rs := [8]) (by kernel_rfl) (by simp) ?_
        refine (AllReadyH.cons (op_at rfl) (fun K hK => ?_) AllReadyH.nil)
        go_simp
        obtain ⟨b0, b1, b2, hb⟩ := hS
        refine (HU.out _).mono ?_
        rintro e w2 ⟨rfl, hB⟩
        refine hK.out _ _ ⟨b0.after hB, b1.after hB, b2.after hB, below_call hb hB⟩ (fun hS => ?_)
        clear hK K hB b0 b1 b2 hb
        try simp only [Act.put, List.setIfInBounds_toArray, List.set_cons_zero, List.set_cons_succ]
        refine wpAnyH_take (i := 9) (v := ?_) (op_at rfl) (by kernel_rfl) (by kernel_rfl) (by kernel_rfl) (fun _ _ _ h => h) (Or.inl ⟨by rfl, ?_⟩) hS ?_; rotate_left; focus ((intro w' hSw; clear hSw; go_simp) <;> with_reducible rfl)
        try simp only [Act.put, List.setIfInBounds_toArray, List.set_cons_zero, List.set_cons_succ]
        refine wpAnyH_take (i := 10) (v := ?_) (op_at rfl) (by kernel_rfl) (by kernel_rfl) (by kernel_rfl) (fun _ _ _ h => h) (Or.inl ⟨by rfl, ?_⟩) hS ?_; rotate_left; focus ((intro w' hSw; clear hSw; go_simp) <;> with_reducible rfl)
        try simp only [Act.put, List.setIfInBounds_toArray, List.set_cons_zero, List.set_cons_succ]
        refine wpAnyH_done (by kernel_rfl) ?_ _
        obtain ⟨b0, b1, b2, hb⟩ := hS
        replace B0 := Lib.hid b0
        clear b0
        replace B1 := Lib.hid b1
        clear b1
        replace B2 := Lib.hid b2
        clear b2
        replace HB := Lib.hid hb
        clear hb
        go_wp2_with fail
        go_roundw
        case rel => exact ⟨k + 1, by go_num, by omega, B0.out, B1.out, HB.out⟩
        case measure => simp [intOf]; omega
      · clear hk
        have p0_0 := B0.out.at_ (i := 0) (v := .int .i64 a.lv) rfl
        have p0_1 := B0.out.at_ (i := 1) (v := .int .u64 (u a.c)) rfl
        have p0_2 := B0.out.at_ (i := 2) (v := .int .i64 a.ig) rfl
        have p1_0 := B1.out.at_ (i := 0) (v := .int .i64 a.lv) rfl
        have p1_1 := B1.out.at_ (i := 1) (v := .int .u64 (u a.c)) rfl
        have p1_2 := B1.out.at_ (i := 2) (v := .int .i64 a.ig) rfl
        have hE := eqlIs (eqL_self a)
        go_wp2_with fail
        go_ret
        exact ⟨rfl, HB.out⟩
set_option maxRecDepth 100000 in
set_option maxHeartbeats 4000000 in
theorem least_cut_20 (ls : List Lab) (b off cap : Nat) (w : World) (hh : Handle w) (hlt : b < w.heap.size) (hcap : ls.length ≤ cap) (hn63 : ls.length ≤ 9223372036854775807)
    (hc : ∀ k x, ls[k]? = some x → w.cell? ⟨b, off + k * 3, none⟩ = some (.int .i64 x.lv) ∧ w.cell? ⟨b, off + k * 3 + 1, none⟩ = some (.int .u64 (u x.c)) ∧ w.cell? ⟨b, off + k * 3 + 2, none⟩ = some (.int .i64 x.ig))
    (hl : LabsAt w.heap.size w (.slice (some ⟨b, off, none⟩) 50 cap) (ls.take 50)) (hm : 50 < ls.length) (hmm : (ls.take 50).length = 50) (hn : leastE (ls.take 50) = 20) :
    Calls Tryd.prog 8 #[.slice (some ⟨b, off, none⟩) ls.length cap] w (Yes w) := by
    have HH := Lib.hid hh
    have HC := Lib.hid hc
    have HL := Lib.hid hl
    have HM := Lib.hid hmm
    have HN := Lib.hid hn
    clear hh hc hl hmm hn
    go_enter Tryd.func8, Tryd.ntmps8
    go_wp2_with fail
    refine (shown_any _ HH.out).mono ?_
    rintro e w1 ⟨rfl, hB⟩
    have HB := Lib.hid hB
    clear hB
    go_wp2_with fail
    obtain ⟨a, ha⟩ : ∃ a, leastL (ls.take 50) = a := ⟨_, rfl⟩
    have hL1 := fun W => Least_any (ls.take 50) (.slice (some ⟨b, off, none⟩) 50 cap) W
    have hL2 := fun W => rLeast_any (ls.take 50) (.slice (some ⟨b, off, none⟩) 50 cap) W
    rw [ha, HN.out] at hL1 hL2
    have HL1 := Lib.hid hL1
    have HL2 := Lib.hid hL2
    have HAE := Lib.hid ha
    clear hL1 hL2 ha
    refine (HL1.out _ ((HL.out.below HB.out).mono HB.out.size) (HH.out.up HB.out)).mono ?_
    rintro e w2 ⟨rfl, hB⟩
    replace HB := Lib.hid (below_call HB.out hB)
    clear hB
    go_wp2_with fail
    refine (HL2.out _ ((HL.out.below (below_alloc HB.out _)).mono (below_alloc HB.out _).size)).mono ?_
    rintro e w3 ⟨rfl, hB⟩
    have B0 : Hid (Blk w3 w2.heap.size 24 #[.int .i64 a.lv, .int .u64 (u a.c), .int .i64 a.ig]) := Lib.hid ((Blk.new' rfl).after hB)
    have h23 : w2.heap.size < w3.heap.size := B0.out.lt
    have hz2 : w.heap.size ≤ w2.heap.size := HB.out.size
    replace HB := Lib.hid (below_call (below_alloc HB.out _) hB)
    clear hB
    go_wp2_with fail
    replace B0 := Lib.hid (B0.out.alloc (.cells #[.int .i64 a.lv, .int .u64 (u a.c), .int .i64 a.ig] 24))
    have B1 : Hid (Blk (w3.alloc (.cells #[.int .i64 a.lv, .int .u64 (u a.c), .int .i64 a.ig] 24)) w3.heap.size 24 #[.int .i64 a.lv, .int .u64 (u a.c), .int .i64 a.ig]) := Lib.hid (Blk.new' rfl)
    replace HB := Lib.hid (below_alloc HB.out (.cells #[.int .i64 a.lv, .int .u64 (u a.c), .int .i64 a.ig] 24))
    generalize w2.heap.size = b4 at *
    generalize w3.heap.size = b6 at *
    go_loopw [8] (fun i wr => ∃ k : Nat, i = .int .i64 k ∧ k ≤ 50 ∧ Blk wr b4 24 #[.int .i64 a.lv, .int .u64 (u a.c), .int .i64 a.ig] ∧ Blk wr b6 24 #[.int .i64 a.lv, .int .u64 (u a.c), .int .i64 a.ig] ∧ Below w.heap.size w wr) (fun i _ => 50 - (intOf i).toNat)
    case atStart => exact ⟨0, rfl, Nat.zero_le _, B0.out, B1.out, HB.out⟩
    case round =>
      obtain ⟨k, rfl, hk, h0, h1, hB⟩ := hrel
      replace B0 := Lib.hid h0
      replace B1 := Lib.hid h1
      replace HB := Lib.hid hB
      clear h0 h1 hB
      by_cases hkl : k < 50
      · obtain ⟨x, hx⟩ : ∃ x, (ls.take 50)[k]? = some x := ⟨_, List.getElem?_eq_getElem (by first | exact hkl | (rw [HM.out]; exact hkl))⟩
        have hcc := HC.out k x (by first | exact hx | exact get_take hx)
        obtain ⟨c0, c1, c2⟩ := hcc
        have B2 := Lib.hid (Els.of3 ((HB.out.cell (p := ⟨b, off + k * 3, none⟩) hlt).trans c0) ((HB.out.cell (p := ⟨b, off + k * 3 + 1, none⟩) hlt).trans c1) ((HB.out.cell (p := ⟨b, off + k * 3 + 2, none⟩) hlt).trans c2))
        clear c0 c1 c2
        clear hx
        have hkz : (0 : Int) ≤ (k : Int) := by omega
        have hkz2 : (k : Int) < (50 : Int) := by omega
        go_wp2_with fail
        refine wp_region_gen (S := (fun W' => Blk W' (b4) 24 #[.int .i64 a.lv, .int .u64 (u a.c), .int .i64 a.ig] ∧ Blk W' (b6) 24 #[.int .i64 a.lv, .int .u64 (u a.c), .int .i64 a.ig] ∧ Els W' (b) (off + k * 3) #[.int .i64 x.lv, .int .u64 (u x.c), .int .i64 x.ig] ∧ Below w.heap.size w W')) (by kernel_rfl) ⟨(by repeat (first | exact B0.out | exact Blk.new' (by simp; done) | exact Blk.new' rfl | refine Blk.drew ?_ | refine Blk.alloc ?_ _)), (by repeat (first | exact B1.out | exact Blk.new' (by simp; done) | exact Blk.new' rfl | refine Blk.drew ?_ | refine Blk.alloc ?_ _)), (by repeat (first | exact B2.out | refine Els.drew ?_ | refine Els.alloc ?_ _)), (by repeat (first | exact HB.out | refine below_alloc ?_ _ | refine Below.drew ?_ | refine below_set ?_ (by omega) _))⟩ (fun w1 hS => ?_)
        refine wpAnyH_take (i := 0) (v := ?_) (op_at rfl) (by kernel_rfl) (by kernel_rfl) (by kernel_rfl) (fun _ _ _ h => h) (Or.inl ⟨by rfl, ?_⟩) hS ?_; rotate_left; focus ((intro w' hSw; clear hSw; go_simp) <;> with_reducible rfl)
        try simp only [Act.put, List.setIfInBounds_toArray, List.set_cons_zero, List.set_cons_succ]
        refine wpAnyH_take (i := 1) (v := ?_) (op_at rfl) (by kernel_rfl) (by kernel_rfl) (by kernel_rfl) (fun _ _ _ h => h) (Or.inl ⟨by rfl, ?_⟩) hS ?_; rotate_left; focus ((intro w' hSw; clear hSw; go_simp) <;> with_reducible rfl)
        try simp only [Act.put, List.setIfInBounds_toArray, List.set_cons_zero, List.set_cons_succ]
        refine wpAnyH_take (i := 2) (v := ?_) (op_at rfl) (by kernel_rfl) (by kernel_rfl) (by kernel_rfl) (fun _ _ _ h => h) (Or.inl ⟨by rfl, ?_⟩) hS ?_; rotate_left; focus ((intro w' hSw; clear hSw; go_simp) <;> with_reducible rfl)
        try simp only [Act.put, List.setIfInBounds_toArray, List.set_cons_zero, List.set_cons_succ]
        refine wpAnyH_take (i := 3) (v := undef) (op_at rfl) (by kernel_rfl) (by kernel_rfl) (by kernel_rfl) (fun _ _ _ h => h) (Or.inr ⟨by rfl, rfl⟩) hS ?_
        try simp only [Act.put, List.setIfInBounds_toArray, List.set_cons_zero, List.set_cons_succ]
        refine wpAnyH_take (i := 4) (v := undef) (op_at rfl) (by kernel_rfl) (by kernel_rfl) (by kernel_rfl) (fun _ _ _ h => h) (Or.inr ⟨by rfl, rfl⟩) hS ?_
        try simp only [Act.put, List.setIfInBounds_toArray, List.set_cons_zero, List.set_cons_succ]
        refine wpAnyH_take (i := 5) (v := undef) (op_at rfl) (by kernel_rfl) (by kernel_rfl) (by kernel_rfl) (fun _ _ _ h => h) (Or.inr ⟨by rfl, rfl⟩) hS ?_
        try simp only [Act.put, List.setIfInBounds_toArray, List.set_cons_zero, List.set_cons_succ]
        refine wpAnyH_take (i := 6) (v := undef) (op_at rfl) (by kernel_rfl) (by kernel_rfl) (by kernel_rfl) (fun _ _ _ h => h) (Or.inr ⟨by rfl, rfl⟩) hS ?_
        try simp only [Act.put, List.setIfInBounds_toArray, List.set_cons_zero, List.set_cons_succ]
        refine wpAnyH_take (i := 7) (v := undef) (op_at rfl) (by kernel_rfl) (by kernel_rfl) (by kernel_rfl) (fun _ _ _ h => h) (Or.inr ⟨by rfl, rfl⟩) hS ?_
        try simp only [Act.put, List.setIfInBounds_toArray, List.set_cons_zero, List.set_cons_succ]
        refine wpAnyH_take (i := 8) (v := undef) (op_at rfl) (by kernel_rfl) (by kernel_rfl) (by kernel_rfl) (fun _ _ _ h => h) (Or.inr ⟨by rfl, rfl⟩) hS ?_
        try simp only [Act.put, List.setIfInBounds_toArray, List.set_cons_zero, List.set_cons_succ]
        refine wpAnyH_take (i := 9) (v := undef) (op_at rfl) (by kernel_rfl) (by kernel_rfl) (by kernel_rfl) (fun _ _ _ h => h) (Or.inr ⟨by rfl, rfl⟩) hS ?_
        try simp only [Act.put, List.setIfInBounds_toArray, List.set_cons_zero, List.set_cons_succ]
        refine wpAnyH_take (i := 10) (v := ?_) (op_at rfl) (by kernel_rfl) (by kernel_rfl) (by kernel_rfl) (fun _ _ _ h => h) (Or.inl ⟨by rfl, ?_⟩) hS ?_; rotate_left; focus ((intro w' hSw; clear hSw; go_simp) <;> with_reducible rfl)
        try simp only [Act.put, List.setIfInBounds_toArray, List.set_cons_zero, List.set_cons_succ]
        refine wpAnyH_done (by kernel_rfl) ?_ _
        obtain ⟨b0, b1, b2, hb⟩ := hS
        replace B0 := Lib.hid b0
        clear b0
        replace B1 := Lib.hid b1
        clear b1
        replace B2 := Lib.hid b2
        clear b2
        replace HB := Lib.hid hb
        clear hb
        go_wp2_with fail
        go_roundw
        case rel => exact ⟨k + 1, by go_num, by omega, B0.out, B1.out, HB.out⟩
        case measure => simp [intOf]; omega
      · clear hk
        have p0_0 := B0.out.at_ (i := 0) (v := .int .i64 a.lv) rfl
        have p0_1 := B0.out.at_ (i := 1) (v := .int .u64 (u a.c)) rfl
        have p0_2 := B0.out.at_ (i := 2) (v := .int .i64 a.ig) rfl
        have p1_0 := B1.out.at_ (i := 0) (v := .int .i64 a.lv) rfl
        have p1_1 := B1.out.at_ (i := 1) (v := .int .u64 (u a.c)) rfl
        have p1_2 := B1.out.at_ (i := 2) (v := .int .i64 a.ig) rfl
        have hE := eqlIs (eqL_self a)
        go_wp2_with fail
        go_ret
        exact ⟨rfl, HB.out⟩
set_option maxRecDepth 100000 in
set_option maxHeartbeats 4000000 in
theorem least_all_0 (ls : List Lab) (b off cap : Nat) (w : World) (hh : Handle w) (hlt : b < w.heap.size) (hcap : ls.length ≤ cap) (hn63 : ls.length ≤ 9223372036854775807)
    (hc : ∀ k x, ls[k]? = some x → w.cell? ⟨b, off + k * 3, none⟩ = some (.int .i64 x.lv) ∧ w.cell? ⟨b, off + k * 3 + 1, none⟩ = some (.int .u64 (u x.c)) ∧ w.cell? ⟨b, off + k * 3 + 2, none⟩ = some (.int .i64 x.ig))
    (hl : LabsAt w.heap.size w (.slice (some ⟨b, off, none⟩) ls.length cap) ls) (hm : ¬ 50 < ls.length) (hmm : ls.length = ls.length) (hn : leastE ls = 0) (ha : ∀ x, x ∈ ls → okL x = true) :
    Calls Tryd.prog 8 #[.slice (some ⟨b, off, none⟩) ls.length cap] w (Yes w) := by
    have HH := Lib.hid hh
    have HC := Lib.hid hc
    have HL := Lib.hid hl
    have HM := Lib.hid hmm
    have HN := Lib.hid hn
    have HA := Lib.hid ha
    clear hh hc hl hmm hn ha
    go_enter Tryd.func8, Tryd.ntmps8
    go_wp2_with fail
    refine (shown_any _ HH.out).mono ?_
    rintro e w1 ⟨rfl, hB⟩
    have HB := Lib.hid hB
    clear hB
    go_wp2_with fail
    obtain ⟨a, ha⟩ : ∃ a, leastL ls = a := ⟨_, rfl⟩
    have hL1 := fun W => Least_any ls (.slice (some ⟨b, off, none⟩) ls.length cap) W
    have hL2 := fun W => rLeast_any ls (.slice (some ⟨b, off, none⟩) ls.length cap) W
    rw [ha, HN.out] at hL1 hL2
    have HL1 := Lib.hid hL1
    have HL2 := Lib.hid hL2
    have HAE := Lib.hid ha
    clear hL1 hL2 ha
    refine (HL1.out _ ((HL.out.below HB.out).mono HB.out.size) (HH.out.up HB.out)).mono ?_
    rintro e w2 ⟨rfl, hB⟩
    replace HB := Lib.hid (below_call HB.out hB)
    clear hB
    go_wp2_with fail
    refine (HL2.out _ ((HL.out.below (below_alloc HB.out _)).mono (below_alloc HB.out _).size)).mono ?_
    rintro e w3 ⟨rfl, hB⟩
    have B0 : Hid (Blk w3 w2.heap.size 24 #[.int .i64 a.lv, .int .u64 (u a.c), .int .i64 a.ig]) := Lib.hid ((Blk.new' rfl).after hB)
    have h23 : w2.heap.size < w3.heap.size := B0.out.lt
    have hz2 : w.heap.size ≤ w2.heap.size := HB.out.size
    replace HB := Lib.hid (below_call (below_alloc HB.out _) hB)
    clear hB
    go_wp2_with fail
    replace B0 := Lib.hid (B0.out.alloc (.cells #[.int .i64 a.lv, .int .u64 (u a.c), .int .i64 a.ig] 24))
    have B1 : Hid (Blk (w3.alloc (.cells #[.int .i64 a.lv, .int .u64 (u a.c), .int .i64 a.ig] 24)) w3.heap.size 24 #[.int .i64 a.lv, .int .u64 (u a.c), .int .i64 a.ig]) := Lib.hid (Blk.new' rfl)
    replace HB := Lib.hid (below_alloc HB.out (.cells #[.int .i64 a.lv, .int .u64 (u a.c), .int .i64 a.ig] 24))
    generalize w2.heap.size = b4 at *
    generalize w3.heap.size = b6 at *
    go_loopw [8] (fun i wr => ∃ k : Nat, i = .int .i64 k ∧ k ≤ ls.length ∧ Blk wr b4 24 #[.int .i64 a.lv, .int .u64 (u a.c), .int .i64 a.ig] ∧ Blk wr b6 24 #[.int .i64 a.lv, .int .u64 (u a.c), .int .i64 a.ig] ∧ Below w.heap.size w wr) (fun i _ => ls.length - (intOf i).toNat)
    case atStart => exact ⟨0, rfl, Nat.zero_le _, B0.out, B1.out, HB.out⟩
    case round =>
      obtain ⟨k, rfl, hk, h0, h1, hB⟩ := hrel
      replace B0 := Lib.hid h0
      replace B1 := Lib.hid h1
      replace HB := Lib.hid hB
      clear h0 h1 hB
      by_cases hkl : k < ls.length
      · obtain ⟨x, hx⟩ : ∃ x, ls[k]? = some x := ⟨_, List.getElem?_eq_getElem (by first | exact hkl | (rw [HM.out]; exact hkl))⟩
        have hcc := HC.out k x (by first | exact hx | exact get_take hx)
        obtain ⟨c0, c1, c2⟩ := hcc
        have B2 := Lib.hid (Els.of3 ((HB.out.cell (p := ⟨b, off + k * 3, none⟩) hlt).trans c0) ((HB.out.cell (p := ⟨b, off + k * 3 + 1, none⟩) hlt).trans c1) ((HB.out.cell (p := ⟨b, off + k * 3 + 2, none⟩) hlt).trans c2))
        clear c0 c1 c2
        have HU := Lib.hid (underIs (show underL x a = true by rw [← HAE.out]; exact least_above HA.out (List.mem_of_getElem? hx)))
        clear hx
        have hkz : (0 : Int) ≤ (k : Int) := by omega
        have hkz2 : (k : Int) < (ls.length : Int) := by omega
        go_wp2_with fail
        refine wp_region_gen (S := (fun W' => Blk W' (b4) 24 #[.int .i64 a.lv, .int .u64 (u a.c), .int .i64 a.ig] ∧ Blk W' (b6) 24 #[.int .i64 a.lv, .int .u64 (u a.c), .int .i64 a.ig] ∧ Els W' (b) (off + k * 3) #[.int .i64 x.lv, .int .u64 (u x.c), .int .i64 x.ig] ∧ Below w.heap.size w W')) (by kernel_rfl) ⟨(by repeat (first | exact B0.out | exact Blk.new' (by simp; done) | exact Blk.new' rfl | refine Blk.drew ?_ | refine Blk.alloc ?_ _)), (by repeat (first | exact B1.out | exact Blk.new' (by simp; done) | exact Blk.new' rfl | refine Blk.drew ?_ | refine Blk.alloc ?_ _)), (by repeat (first | exact B2.out | refine Els.drew ?_ | refine Els.alloc ?_ _)), (by repeat (first | exact HB.out | refine below_alloc ?_ _ | refine Below.drew ?_ | refine below_set ?_ (by omega) _))⟩ (fun w1 hS => ?_)
        refine wpAnyH_take (i := 0) (v := ?_) (op_at rfl) (by kernel_rfl) (by kernel_rfl) (by kernel_rfl) (fun _ _ _ h => h) (Or.inl ⟨by rfl, ?_⟩) hS ?_; rotate_left; focus ((intro w' hSw; clear hSw; go_simp) <;> with_reducible rfl)
        try simp only [Act.put, List.setIfInBounds_toArray, List.set_cons_zero, List.set_cons_succ]
        refine wpAnyH_take (i := 1) (v := ?_) (op_at rfl) (by kernel_rfl) (by kernel_rfl) (by kernel_rfl) (fun _ _ _ h => h) (Or.inl ⟨by rfl, ?_⟩) hS ?_; rotate_left; focus ((intro w' hSw; clear hSw; go_simp) <;> with_reducible rfl)
        try simp only [Act.put, List.setIfInBounds_toArray, List.set_cons_zero, List.set_cons_succ]
        refine wpAnyH_take (i := 2) (v := ?_) (op_at rfl) (by kernel_rfl) (by kernel_rfl) (by kernel_rfl) (fun _ _ _ h => h) (Or.inl ⟨by rfl, ?_⟩) hS ?_; rotate_left; focus ((intro w' hSw; clear hSw; go_simp) <;> with_reducible rfl)
        try simp only [Act.put, List.setIfInBounds_toArray, List.set_cons_zero, List.set_cons_succ]
        refine wpAnyH_take (i := 3) (v := ?_) (op_at rfl) (by kernel_rfl) (by kernel_rfl) (by kernel_rfl) (fun _ _ _ h => h) (Or.inl ⟨by rfl, ?_⟩) hS ?_; rotate_left; focus ((intro w' hSw; clear hSw; go_simp) <;> with_reducible rfl)
        try simp only [Act.put, List.setIfInBounds_toArray, List.set_cons_zero, List.set_cons_succ]
        refine wpAnyH_take (i := 4) (v := ?_) (op_at rfl) (by kernel_rfl) (by kernel_rfl) (by kernel_rfl) (fun _ _ _ h => h) (Or.inl ⟨by rfl, ?_⟩) hS ?_; rotate_left; focus ((intro w' hSw; clear hSw; go_simp) <;> with_reducible rfl)
        try simp only [Act.put, List.setIfInBounds_toArray, List.set_cons_zero, List.set_cons_succ]
        refine wpAnyH_take (i := 5) (v := ?_) (op_at rfl) (by kernel_rfl) (by kernel_rfl) (by kernel_rfl) (fun _ _ _ h => h) (Or.inl ⟨by rfl, ?_⟩) hS ?_; rotate_left; focus ((intro w' hSw; clear hSw; go_simp) <;> with_reducible rfl)
        try simp only [Act.put, List.setIfInBounds_toArray, List.set_cons_zero, List.set_cons_succ]
        refine wpAnyH_take (i := 6) (v := ?_) (op_at rfl) (by kernel_rfl) (by kernel_rfl) (by kernel_rfl) (fun _ _ _ h => h) (Or.inl ⟨by rfl, ?_⟩) hS ?_; rotate_left; focus ((intro w' hSw; obtain ⟨-, -, q, -⟩ := hSw; have c0 : w'.cell? ⟨b, off + k * 3, none⟩ = some (.int .i64 x.lv) := q.at_ (i := 0) (v := .int .i64 x.lv) rfl; have c1 : w'.cell? ⟨b, off + k * 3 + 1, none⟩ = some (.int .u64 (u x.c)) := q.at_ (i := 1) (v := .int .u64 (u x.c)) rfl; have c2 : w'.cell? ⟨b, off + k * 3 + 2, none⟩ = some (.int .i64 x.ig) := q.at_ (i := 2) (v := .int .i64 x.ig) rfl; clear q; go_simp) <;> with_reducible rfl)
        try simp only [Act.put, List.setIfInBounds_toArray, List.set_cons_zero, List.set_cons_succ]
        refine wpAnyH_take (i := 7) (v := ?_) (op_at rfl) (by kernel_rfl) (by kernel_rfl) (by kernel_rfl) (fun _ _ _ h => h) (Or.inl ⟨by rfl, ?_⟩) hS ?_; rotate_left; focus ((intro w' hSw; obtain ⟨q, -⟩ := hSw; have c0 := q.at_ (i := 0) (v := .int .i64 a.lv) rfl; have c1 := q.at_ (i := 1) (v := .int .u64 (u a.c)) rfl; have c2 := q.at_ (i := 2) (v := .int .i64 a.ig) rfl; clear q; go_simp) <;> with_reducible rfl)
        try simp only [Act.put, List.setIfInBounds_toArray, List.set_cons_zero, List.set_cons_succ]
        refine wpAnyH_ready (rs := [8]) (by kernel_rfl) (by simp) ?_
        refine (AllReadyH.cons (op_at rfl) (fun K hK => ?_) AllReadyH.nil)
        go_simp
        obtain ⟨b0, b1, b2, hb⟩ := hS
        refine (HU.out _).mono ?_
        rintro e w2 ⟨rfl, hB⟩
        refine hK.out _ _ ⟨b0.after hB, b1.after hB, b2.after hB, below_call hb hB⟩ (fun hS => ?_)
        clear hK K hB b0 b1 b2 hb
        try simp only [Act.put, List.setIfInBounds_toArray, List.set_cons_zero, List.set_cons_succ]
        refine wpAnyH_take (i := 9) (v := ?_) (op_at rfl) (by kernel_rfl) (by kernel_rfl) (by kernel_rfl) (fun _ _ _ h => h) (Or.inl ⟨by rfl, ?_⟩) hS ?_; rotate_left; focus ((intro w' hSw; clear hSw; go_simp) <;> with_reducible rfl)
        try simp only [Act.put, List.setIfInBounds_toArray, List.set_cons_zero, List.set_cons_succ]
        refine wpAnyH_take (i := 10) (v := ?_) (op_at rfl) (by kernel_rfl) (by kernel_rfl) (by kernel_rfl) (fun _ _ _ h => h) (Or.inl ⟨by rfl, ?_⟩) hS ?_; rotate_left; focus ((intro w' hSw; clear hSw; go_simp) <;> with_reducible rfl)
        try simp only [Act.put, List.setIfInBounds_toArray, List.set_cons_zero, List.set_cons_succ]
        refine wpAnyH_done (by kernel_rfl) ?_ _
        obtain ⟨b0, b1, b2, hb⟩ := hS
        replace B0 := Lib.hid b0
        clear b0
        replace B1 := Lib.hid b1
        clear b1
        replace B2 := Lib.hid b2
        clear b2
        replace HB := Lib.hid hb
        clear hb
        go_wp2_with fail
        go_roundw
        case rel => exact ⟨k + 1, by go_num, by omega, B0.out, B1.out, HB.out⟩
        case measure => simp [intOf]; omega
      · clear hk
        have p0_0 := B0.out.at_ (i := 0) (v := .int .i64 a.lv) rfl
        have p0_1 := B0.out.at_ (i := 1) (v := .int .u64 (u a.c)) rfl
        have p0_2 := B0.out.at_ (i := 2) (v := .int .i64 a.ig) rfl
        have p1_0 := B1.out.at_ (i := 0) (v := .int .i64 a.lv) rfl
        have p1_1 := B1.out.at_ (i := 1) (v := .int .u64 (u a.c)) rfl
        have p1_2 := B1.out.at_ (i := 2) (v := .int .i64 a.ig) rfl
        have hE := eqlIs (eqL_self a)
        go_wp2_with fail
        go_ret
        exact ⟨rfl, HB.out⟩
set_option maxRecDepth 100000 in
set_option maxHeartbeats 4000000 in
theorem least_all_20 (ls : List Lab) (b off cap : Nat) (w : World) (hh : Handle w) (hlt : b < w.heap.size) (hcap : ls.length ≤ cap) (hn63 : ls.length ≤ 9223372036854775807)
    (hc : ∀ k x, ls[k]? = some x → w.cell? ⟨b, off + k * 3, none⟩ = some (.int .i64 x.lv) ∧ w.cell? ⟨b, off + k * 3 + 1, none⟩ = some (.int .u64 (u x.c)) ∧ w.cell? ⟨b, off + k * 3 + 2, none⟩ = some (.int .i64 x.ig))
    (hl : LabsAt w.heap.size w (.slice (some ⟨b, off, none⟩) ls.length cap) ls) (hm : ¬ 50 < ls.length) (hmm : ls.length = ls.length) (hn : leastE ls = 20) :
    Calls Tryd.prog 8 #[.slice (some ⟨b, off, none⟩) ls.length cap] w (Yes w) := by
    have HH := Lib.hid hh
    have HC := Lib.hid hc
    have HL := Lib.hid hl
    have HM := Lib.hid hmm
    have HN := Lib.hid hn
    clear hh hc hl hmm hn
    go_enter Tryd.func8, Tryd.ntmps8
    go_wp2_with fail
    refine (shown_any _ HH.out).mono ?_
    rintro e w1 ⟨rfl, hB⟩
    have HB := Lib.hid hB
    clear hB
    go_wp2_with fail
    obtain ⟨a, ha⟩ : ∃ a, leastL ls = a := ⟨_, rfl⟩
    have hL1 := fun W => Least_any ls (.slice (some ⟨b, off, none⟩) ls.length cap) W
    have hL2 := fun W => rLeast_any ls (.slice (some ⟨b, off, none⟩) ls.length cap) W
    rw [ha, HN.out] at hL1 hL2
    have HL1 := Lib.hid hL1
    have HL2 := Lib.hid hL2
    have HAE := Lib.hid ha
    clear hL1 hL2 ha
    refine (HL1.out _ ((HL.out.below HB.out).mono HB.out.size) (HH.out.up HB.out)).mono ?_
    rintro e w2 ⟨rfl, hB⟩
    replace HB := Lib.hid (below_call HB.out hB)
    clear hB
    go_wp2_with fail
    refine (HL2.out _ ((HL.out.below (below_alloc HB.out _)).mono (below_alloc HB.out _).size)).mono ?_
    rintro e w3 ⟨rfl, hB⟩
    have B0 : Hid (Blk w3 w2.heap.size 24 #[.int .i64 a.lv, .int .u64 (u a.c), .int .i64 a.ig]) := Lib.hid ((Blk.new' rfl).after hB)
    have h23 : w2.heap.size < w3.heap.size := B0.out.lt
    have hz2 : w.heap.size ≤ w2.heap.size := HB.out.size
    replace HB := Lib.hid (below_call (below_alloc HB.out _) hB)
    clear hB
    go_wp2_with fail
    replace B0 := Lib.hid (B0.out.alloc (.cells #[.int .i64 a.lv, .int .u64 (u a.c), .int .i64 a.ig] 24))
    have B1 : Hid (Blk (w3.alloc (.cells #[.int .i64 a.lv, .int .u64 (u a.c), .int .i64 a.ig] 24)) w3.heap.size 24 #[.int .i64 a.lv, .int .u64 (u a.c), .int .i64 a.ig]) := Lib.hid (Blk.new' rfl)
    replace HB := Lib.hid (below_alloc HB.out (.cells #[.int .i64 a.lv, .int .u64 (u a.c), .int .i64 a.ig] 24))
    generalize w2.heap.size = b4 at *
    generalize w3.heap.size = b6 at *
    go_loopw [8] (fun i wr => ∃ k : Nat, i = .int .i64 k ∧ k ≤ ls.length ∧ Blk wr b4 24 #[.int .i64 a.lv, .int .u64 (u a.c), .int .i64 a.ig] ∧ Blk wr b6 24 #[.int .i64 a.lv, .int .u64 (u a.c), .int .i64 a.ig] ∧ Below w.heap.size w wr) (fun i _ => ls.length - (intOf i).toNat)
    case atStart => exact ⟨0, rfl, Nat.zero_le _, B0.out, B1.out, HB.out⟩
    case round =>
      obtain ⟨k, rfl, hk, h0, h1, hB⟩ := hrel
      replace B0 := Lib.hid h0
      replace B1 := Lib.hid h1
      replace HB := Lib.hid hB
      clear h0 h1 hB
      by_cases hkl : k < ls.length
      · obtain ⟨x, hx⟩ : ∃ x, ls[k]? = some x := ⟨_, List.getElem?_eq_getElem (by first | exact hkl | (rw [HM.out]; exact hkl))⟩
        have hcc := HC.out k x (by first | exact hx | exact get_take hx)
        obtain ⟨c0, c1, c2⟩ := hcc
        have B2 := Lib.hid (Els.of3 ((HB.out.cell (p := ⟨b, off + k * 3, none⟩) hlt).trans c0) ((HB.out.cell (p := ⟨b, off + k * 3 + 1, none⟩) hlt).trans c1) ((HB.out.cell (p := ⟨b, off + k * 3 + 2, none⟩) hlt).trans c2))
        clear c0 c1 c2
        clear hx
        have hkz : (0 : Int) ≤ (k : Int) := by omega
        have hkz2 : (k : Int) < (ls.length : Int) := by omega
        go_wp2_with fail
        refine wp_region_gen (S := (fun W' => Blk W' (b4) 24 #[.int .i64 a.lv, .int .u64 (u a.c), .int .i64 a.ig] ∧ Blk W' (b6) 24 #[.int .i64 a.lv, .int .u64 (u a.c), .int .i64 a.ig] ∧ Els W' (b) (off + k * 3) #[.int .i64 x.lv, .int .u64 (u x.c), .int .i64 x.ig] ∧ Below w.heap.size w W')) (by kernel_rfl) ⟨(by repeat (first | exact B0.out | exact Blk.new' (by simp; done) | exact Blk.new' rfl | refine Blk.drew ?_ | refine Blk.alloc ?_ _)), (by repeat (first | exact B1.out | exact Blk.new' (by simp; done) | exact Blk.new' rfl | refine Blk.drew ?_ | refine Blk.alloc ?_ _)), (by repeat (first | exact B2.out | refine Els.drew ?_ | refine Els.alloc ?_ _)), (by repeat (first | exact HB.out | refine below_alloc ?_ _ | refine Below.drew ?_ | refine below_set ?_ (by omega) _))⟩ (fun w1 hS => ?_)
        refine wpAnyH_take (i := 0) (v := ?_) (op_at rfl) (by kernel_rfl) (by kernel_rfl) (by kernel_rfl) (fun _ _ _ h => h) (Or.inl ⟨by rfl, ?_⟩) hS ?_; rotate_left; focus ((intro w' hSw; clear hSw; go_simp) <;> with_reducible rfl)
        try simp only [Act.put, List.setIfInBounds_toArray, List.set_cons_zero, List.set_cons_succ]
        refine wpAnyH_take (i := 1) (v := ?_) (op_at rfl) (by kernel_rfl) (by kernel_rfl) (by kernel_rfl) (fun _ _ _ h => h) (Or.inl ⟨by rfl, ?_⟩) hS ?_; rotate_left; focus ((intro w' hSw; clear hSw; go_simp) <;> with_reducible rfl)
        try simp only [Act.put, List.setIfInBounds_toArray, List.set_cons_zero, List.set_cons_succ]
        refine wpAnyH_take (i := 2) (v := ?_) (op_at rfl) (by kernel_rfl) (by kernel_rfl) (by kernel_rfl) (fun _ _ _ h => h) (Or.inl ⟨by rfl, ?_⟩) hS ?_; rotate_left; focus ((intro w' hSw; clear hSw; go_simp) <;> with_reducible rfl)
        try simp only [Act.put, List.setIfInBounds_toArray, List.set_cons_zero, List.set_cons_succ]
        refine wpAnyH_take (i := 3) (v := undef) (op_at rfl) (by kernel_rfl) (by kernel_rfl) (by kernel_rfl) (fun _ _ _ h => h) (Or.inr ⟨by rfl, rfl⟩) hS ?_
        try simp only [Act.put, List.setIfInBounds_toArray, List.set_cons_zero, List.set_cons_succ]
        refine wpAnyH_take (i := 4) (v := undef) (op_at rfl) (by kernel_rfl) (by kernel_rfl) (by kernel_rfl) (fun _ _ _ h => h) (Or.inr ⟨by rfl, rfl⟩) hS ?_
        try simp only [Act.put, List.setIfInBounds_toArray, List.set_cons_zero, List.set_cons_succ]
        refine wpAnyH_take (i := 5) (v := undef) (op_at rfl) (by kernel_rfl) (by kernel_rfl) (by kernel_rfl) (fun _ _ _ h => h) (Or.inr ⟨by rfl, rfl⟩) hS ?_
        try simp only [Act.put, List.setIfInBounds_toArray, List.set_cons_zero, List.set_cons_succ]
        refine wpAnyH_take (i := 6) (v := undef) (op_at rfl) (by kernel_rfl) (by kernel_rfl) (by kernel_rfl) (fun _ _ _ h => h) (Or.inr ⟨by rfl, rfl⟩) hS ?_
        try simp only [Act.put, List.setIfInBounds_toArray, List.set_cons_zero, List.set_cons_succ]
        refine wpAnyH_take (i := 7) (v := undef) (op_at rfl) (by kernel_rfl) (by kernel_rfl) (by kernel_rfl) (fun _ _ _ h => h) (Or.inr ⟨by rfl, rfl⟩) hS ?_
        try simp only [Act.put, List.setIfInBounds_toArray, List.set_cons_zero, List.set_cons_succ]
        refine wpAnyH_take (i := 8) (v := undef) (op_at rfl) (by kernel_rfl) (by kernel_rfl) (by kernel_rfl) (fun _ _ _ h => h) (Or.inr ⟨by rfl, rfl⟩) hS ?_
        try simp only [Act.put, List.setIfInBounds_toArray, List.set_cons_zero, List.set_cons_succ]
        refine wpAnyH_take (i := 9) (v := undef) (op_at rfl) (by kernel_rfl) (by kernel_rfl) (by kernel_rfl) (fun _ _ _ h => h) (Or.inr ⟨by rfl, rfl⟩) hS ?_
        try simp only [Act.put, List.setIfInBounds_toArray, List.set_cons_zero, List.set_cons_succ]
        refine wpAnyH_take (i := 10) (v := ?_) (op_at rfl) (by kernel_rfl) (by kernel_rfl) (by kernel_rfl) (fun _ _ _ h => h) (Or.inl ⟨by rfl, ?_⟩) hS ?_; rotate_left; focus ((intro w' hSw; clear hSw; go_simp) <;> with_reducible rfl)
        try simp only [Act.put, List.setIfInBounds_toArray, List.set_cons_zero, List.set_cons_succ]
        refine wpAnyH_done (by kernel_rfl) ?_ _
        obtain ⟨b0, b1, b2, hb⟩ := hS
        replace B0 := Lib.hid b0
        clear b0
        replace B1 := Lib.hid b1
        clear b1
        replace B2 := Lib.hid b2
        clear b2
        replace HB := Lib.hid hb
        clear hb
        go_wp2_with fail
        go_roundw
        case rel => exact ⟨k + 1, by go_num, by omega, B0.out, B1.out, HB.out⟩
        case measure => simp [intOf]; omega
      · clear hk
        have p0_0 := B0.out.at_ (i := 0) (v := .int .i64 a.lv) rfl
        have p0_1 := B0.out.at_ (i := 1) (v := .int .u64 (u a.c)) rfl
        have p0_2 := B0.out.at_ (i := 2) (v := .int .i64 a.ig) rfl
        have p1_0 := B1.out.at_ (i := 0) (v := .int .i64 a.lv) rfl
        have p1_1 := B1.out.at_ (i := 1) (v := .int .u64 (u a.c)) rfl
        have p1_2 := B1.out.at_ (i := 2) (v := .int .i64 a.ig) rfl
        have hE := eqlIs (eqL_self a)
        go_wp2_with fail
        go_ret
        exact ⟨rfl, HB.out⟩
theorem least_walk (ls : List Lab) (v : Value) (w : World) (hh : Handle w) (hl : LabsAt w.heap.size w v ls) : Calls Tryd.prog 8 #[v] w (Yes w) := by
  have hl' := hl
  rcases hl with ⟨rfl, rfl⟩ | ⟨b, off, cap, rfl, hlt, hcap, hn63, hc⟩
  · exact least_nil w hh
  · by_cases hm : 50 < ls.length
    · have hmm : (ls.take 50).length = 50 := by rw [List.length_take]; omega
      rcases leastE_two (ls.take 50) with ⟨hn, ha⟩ | hn
      · exact least_cut_0 ls b off cap w hh hlt hcap hn63 hc (hl'.take 50 hmm) hm hmm hn ha
      · exact least_cut_20 ls b off cap w hh hlt hcap hn63 hc (hl'.take 50 hmm) hm hmm hn
    · rcases leastE_two ls with ⟨hn, ha⟩ | hn
      · exact least_all_0 ls b off cap w hh hlt hcap hn63 hc hl' hm rfl hn ha
      · exact least_all_20 ls b off cap w hh hlt hcap hn63 hc hl' hm rfl hn
end Go.Proofs.YtapgeagmdiphgaaDoor
