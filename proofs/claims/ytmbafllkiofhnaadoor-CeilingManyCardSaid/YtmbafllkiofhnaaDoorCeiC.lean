/-
  THE WALKS OF PACKAGE ceiling, part three: floater.to, Float (printed by wip/genceil.py).
-/
import Derived.Test.YtmbafllkiofhnaaDoorCeiB
import Derived.Test.YtmbafllkiofhnaaDoorRange
import Derived.Test.YtmbafllkiofhnaaDoorLabQ
import Derived.Deep.DeepCutAuto
namespace Go.Proofs.YtmbafllkiofhnaaDoor
open Go.RowKit

attribute [local go_sem] u_and u_or u_andNot u_add u_sub u_bit u_eq_zero u_beq

def JoinIs (a b x : Lab) (n : Int) : Prop := ∀ W, Handle W → Calls Tryd.prog 23 #[.agg #[.int .i64 a.lv, .int .u64 (u a.c), .int .i64 a.ig], .agg #[.int .i64 b.lv, .int .u64 (u b.c), .int .i64 b.ig]] W fun e w' => e = .returned (.tuple #[.agg #[.int .i64 x.lv, .int .u64 (u x.c), .int .i64 x.ig], .int .i64 n]) ∧ Below W.heap.size W w'
def UnderIs (a b : Lab) (r : Bool) : Prop := ∀ W, Calls Tryd.prog 13 #[.agg #[.int .i64 a.lv, .int .u64 (u a.c), .int .i64 a.ig], .agg #[.int .i64 b.lv, .int .u64 (u b.c), .int .i64 b.ig]] W fun e w' => e = .returned (.bool r) ∧ Below W.heap.size W w'
theorem underIs {a b : Lab} {r : Bool} (h : underL a b = r) : UnderIs a b r := fun W => by rw [← h]; exact Under_any a b W
theorem joinIs {a b : Lab} (ha : okL a = true) (hb : okL b = true) : JoinIs a b (joinL a b) 0 := fun W _ => Join_ok a b W ha hb
theorem joinNo {a b : Lab} (h : ¬ (okL a = true ∧ okL b = true)) : JoinIs a b zeroL 20 := fun W hW => Join_bad a b W (fun _ k => hW.up k) h
theorem eqlIs {a b : Lab} {r : Bool} (h : eqL a b = r) : ∀ W, (binOp .eql 24 (.agg #[.int .i64 a.lv, .int .u64 (u a.c), .int .i64 a.ig]) (.agg #[.int .i64 b.lv, .int .u64 (u b.c), .int .i64 b.ig])).run Tryd.prog W = .ok (.bool r) W := fun W => by rw [← h]; exact eql_lab a b W
theorem neq_lab (a b : Lab) (w : World) : (binOp .neq 24 (.agg #[.int .i64 a.lv, .int .u64 (u a.c), .int .i64 a.ig]) (.agg #[.int .i64 b.lv, .int .u64 (u b.c), .int .i64 b.ig])).run Tryd.prog w = .ok (.bool (!eqL a b)) w := by
  by_cases h1 : a.lv = b.lv <;> by_cases h2 : a.c = b.c <;> by_cases h3 : a.ig = b.ig <;> go_simp <;> simp [eqL, h1, h2, h3]
theorem neqIs {a b : Lab} {r : Bool} (h : (!eqL a b) = r) : ∀ W, (binOp .neq 24 (.agg #[.int .i64 a.lv, .int .u64 (u a.c), .int .i64 a.ig]) (.agg #[.int .i64 b.lv, .int .u64 (u b.c), .int .i64 b.ig])).run Tryd.prog W = .ok (.bool r) W := fun W => by rw [← h]; exact neq_lab a b W
theorem nbool {x : Bool} (h : ¬ x = true) : x = false := by cases x <;> simp_all

set_option maxRecDepth 100000 in
set_option maxHeartbeats 4000000 in
theorem to_high (f h a x : Lab) (sa : Addr) (fb : Nat) (w : World) (hh : Env sa w) (hf : Blk w fb 43 #[.int .i64 f.lv, .int .u64 (u f.c), .int .i64 f.ig, .int .i64 h.lv, .int .u64 (u h.c), .int .i64 h.ig]) (h0 : JoinIs f a x 0) (h1 : ∀ W, (binOp .neq 24 (.agg #[.int .i64 x.lv, .int .u64 (u x.c), .int .i64 x.ig]) (.agg #[.int .i64 h.lv, .int .u64 (u h.c), .int .i64 h.ig])).run Tryd.prog W = .ok (.bool true) W) (h2 : UnderIs x h false) :
    Calls Tryd.prog 30 #[.pointer (some ⟨fb, 0, none⟩), .agg #[.int .i64 a.lv, .int .u64 (u a.c), .int .i64 a.ig]] w (fun e w' => e = .returned (stopV (.iface 109 (.pointer (some sa))) a) ∧ Below w.heap.size w w') := by
  have H0 := Lib.hid h0
  clear h0
  have H2 := Lib.hid h2
  clear h2
  have HH := Lib.hid hh
  clear hh
  have B0 := Lib.hid hf
  clear hf
  have HB := Lib.hid (Below.refl w.heap.size w)
  go_enter Tryd.func30, Tryd.ntmps30
  go_upto_region 1 with fail
  go_cut [5, 6] (fun s5 s6 wx => ∃ g3 : Nat, s5 = .pointer (some ⟨g3, 0, none⟩) ∧ s6 = .int .i64 0 ∧ Blk wx (g3) 24 #[.int .i64 x.lv, .int .u64 (u x.c), .int .i64 x.ig] ∧ Blk wx (fb) 43 #[.int .i64 f.lv, .int .u64 (u f.c), .int .i64 f.ig, .int .i64 h.lv, .int .u64 (u h.c), .int .i64 h.ig] ∧ Blk wx (w.heap.size) 24 #[.int .i64 a.lv, .int .u64 (u a.c), .int .i64 a.ig] ∧ Below w.heap.size w wx ∧ fb ≠ g3 ∧ w.heap.size ≠ g3 ∧ w.heap.size ≤ g3)
  case first =>
    refine wp_region_gen (S := (fun W' => Blk W' (fb) 43 #[.int .i64 f.lv, .int .u64 (u f.c), .int .i64 f.ig, .int .i64 h.lv, .int .u64 (u h.c), .int .i64 h.ig] ∧ Blk W' (w.heap.size) 24 #[.int .i64 a.lv, .int .u64 (u a.c), .int .i64 a.ig] ∧ Below w.heap.size w W')) (by kernel_rfl) ⟨(by repeat (first | exact B0.out | exact Blk.new' (by simp; done) | exact Blk.new' rfl | refine Blk.drew ?_ | refine Blk.alloc ?_ _)), (by repeat (first | exact Blk.new' (by simp; done) | exact Blk.new' rfl | refine Blk.drew ?_ | refine Blk.alloc ?_ _)), (by repeat (first | exact HB.out | refine below_alloc ?_ _ | refine Below.drew ?_ | refine below_set ?_ (by omega) _))⟩ (fun w1 hS => ?_)
    refine wpAnyH_take (i := 0) (v := ?_) (op_at rfl) (by kernel_rfl) (by kernel_rfl) (by kernel_rfl) (fun _ _ _ h => h) (Or.inl ⟨by rfl, ?_⟩) hS ?_; rotate_left; focus ((intro w' hSw; clear hSw; go_simp) <;> with_reducible rfl)
    try simp only [Act.put, List.setIfInBounds_toArray, List.set_cons_zero, List.set_cons_succ]
    refine wpAnyH_take (i := 1) (v := ?_) (op_at rfl) (by kernel_rfl) (by kernel_rfl) (by kernel_rfl) (fun _ _ _ h => h) (Or.inl ⟨by rfl, ?_⟩) hS ?_; rotate_left; focus ((intro w' hSw; clear hSw; go_simp) <;> with_reducible rfl)
    try simp only [Act.put, List.setIfInBounds_toArray, List.set_cons_zero, List.set_cons_succ]
    refine wpAnyH_take (i := 2) (v := ?_) (op_at rfl) (by kernel_rfl) (by kernel_rfl) (by kernel_rfl) (fun _ _ _ h => h) (Or.inl ⟨by rfl, ?_⟩) hS ?_; rotate_left; focus ((intro w' hSw; clear hSw; go_simp) <;> with_reducible rfl)
    try simp only [Act.put, List.setIfInBounds_toArray, List.set_cons_zero, List.set_cons_succ]
    refine wpAnyH_take (i := 3) (v := ?_) (op_at rfl) (by kernel_rfl) (by kernel_rfl) (by kernel_rfl) (fun _ _ _ h => h) (Or.inl ⟨by rfl, ?_⟩) hS ?_; rotate_left; focus ((intro w' hSw; obtain ⟨q, -⟩ := hSw; have c0 := q.at_ (i := 0) (v := .int .i64 f.lv) rfl; have c1 := q.at_ (i := 1) (v := .int .u64 (u f.c)) rfl; have c2 := q.at_ (i := 2) (v := .int .i64 f.ig) rfl; clear q; go_simp) <;> with_reducible rfl)
    try simp only [Act.put, List.setIfInBounds_toArray, List.set_cons_zero, List.set_cons_succ]
    refine wpAnyH_take (i := 4) (v := ?_) (op_at rfl) (by kernel_rfl) (by kernel_rfl) (by kernel_rfl) (fun _ _ _ h => h) (Or.inl ⟨by rfl, ?_⟩) hS ?_; rotate_left; focus ((intro w' hSw; obtain ⟨-, q, -⟩ := hSw; have c0 := q.at_ (i := 0) (v := .int .i64 a.lv) rfl; have c1 := q.at_ (i := 1) (v := .int .u64 (u a.c)) rfl; have c2 := q.at_ (i := 2) (v := .int .i64 a.ig) rfl; clear q; go_simp) <;> with_reducible rfl)
    try simp only [Act.put, List.setIfInBounds_toArray, List.set_cons_zero, List.set_cons_succ]
    refine wpAnyH_ready (rs := [5, 9]) (by kernel_rfl) (by simp) ?_
    refine (AllReadyH.cons (op_at rfl) (fun K hK => ?_) (AllReadyH.cons (op_at rfl) (fun K hK => ?_) AllReadyH.nil))
    ·
      go_simp
      obtain ⟨b0, b1, hb⟩ := hS
      refine (H0.out _ (HH.out.up hb).h).mono ?_
      rintro e w2 ⟨rfl, hB⟩
      refine hK.out _ _ ⟨b0.after hB, b1.after hB, below_call hb hB⟩ (fun hS => ?_)
      clear hK K hB b0 b1 hb
      try simp only [Act.put, List.setIfInBounds_toArray, List.set_cons_zero, List.set_cons_succ]
      refine wpAnyH_take (i := 6) (v := ?_) (op_at rfl) (by kernel_rfl) (by kernel_rfl) (by kernel_rfl) (fun _ _ _ h => h) (Or.inl ⟨by rfl, ?_⟩) hS ?_; rotate_left; focus ((intro w' hSw; clear hSw; go_simp) <;> with_reducible rfl)
      try simp only [Act.put, List.setIfInBounds_toArray, List.set_cons_zero, List.set_cons_succ]
      refine wpAnyH_take (i := 7) (v := ?_) (op_at rfl) (by kernel_rfl) (by kernel_rfl) (by kernel_rfl) (fun _ _ _ h => h) (Or.inl ⟨by rfl, ?_⟩) hS ?_; rotate_left; focus ((intro w' hSw; clear hSw; go_simp) <;> with_reducible rfl)
      try simp only [Act.put, List.setIfInBounds_toArray, List.set_cons_zero, List.set_cons_succ]
      refine wpAnyH_take (i := 8) (v := ?_) (op_at rfl) (by kernel_rfl) (by kernel_rfl) (by kernel_rfl) (fun _ _ _ h => h) (Or.inl ⟨by rfl, ?_⟩) hS ?_; rotate_left; focus ((intro w' hSw; clear hSw; go_simp) <;> with_reducible rfl)
      try simp only [Act.put, List.setIfInBounds_toArray, List.set_cons_zero, List.set_cons_succ]
      refine wpAnyH_ready (rs := [9]) (by kernel_rfl) (by simp) ?_
      refine (AllReadyH.cons (op_at rfl) (fun K hK => ?_) AllReadyH.nil)
      go_simp
      obtain ⟨b0, b1, hb⟩ := hS
      have N0 : Hid (Blk (w2.alloc (.cells #[.int .i64 0, .int .u64 0, .int .i64 0] 24)) w2.heap.size 24 #[.int .i64 0, .int .u64 0, .int .i64 0]) := Lib.hid (Blk.new' rfl)
      have d0_N0 : fb ≠ w2.heap.size := Nat.ne_of_lt b0.lt
      have d1_N0 : w.heap.size ≠ w2.heap.size := Nat.ne_of_lt b1.lt
      have dd_N0 : w.heap.size ≤ w2.heap.size := hb.size
      refine hK.out _ _ ⟨b0.alloc _, b1.alloc _, below_alloc hb _⟩ (fun hS => ?_)
      clear hK K b0 b1 hb
      try simp only [Act.put, List.setIfInBounds_toArray, List.set_cons_zero, List.set_cons_succ]
      refine wpAnyH_ready (rs := [10]) (by kernel_rfl) (by simp) ?_
      refine (AllReadyH.cons (op_at rfl) (fun K hK => ?_) AllReadyH.nil)
      go_simp
      obtain ⟨b0, b1, hb⟩ := hS
      refine hK.out _ _ ⟨(Blk.realloc b0 d0_N0), (Blk.realloc b1 d1_N0), (below_realloc hb dd_N0)⟩ (fun hS => ?_)
      replace N0 : Hid (Blk (w2.alloc (.cells #[.int .i64 x.lv, .int .u64 (u x.c), .int .i64 x.ig] 24)) w2.heap.size 24 #[.int .i64 x.lv, .int .u64 (u x.c), .int .i64 x.ig]) := Lib.hid (Blk.new' rfl)
      clear hK K b0 b1 hb
      try simp only [Act.put, List.setIfInBounds_toArray, List.set_cons_zero, List.set_cons_succ]
      refine wpAnyH_take (i := 11) (v := ?_) (op_at rfl) (by kernel_rfl) (by kernel_rfl) (by kernel_rfl) (fun _ _ _ h => h) (Or.inl ⟨by rfl, ?_⟩) hS ?_; rotate_left; focus ((intro w' hSw; clear hSw; go_simp) <;> with_reducible rfl)
      try simp only [Act.put, List.setIfInBounds_toArray, List.set_cons_zero, List.set_cons_succ]
      refine wpAnyH_done (by kernel_rfl) ?_ _
      obtain ⟨b0, b1, hb⟩ := hS
      go_wp2_with fail
      go_meet
      exact ⟨_, rfl, rfl, N0.out, b0, b1, hb, d0_N0, d1_N0, dd_N0⟩
    ·
      go_simp
      obtain ⟨b0, b1, hb⟩ := hS
      have N0 : Hid (Blk (w1.alloc (.cells #[.int .i64 0, .int .u64 0, .int .i64 0] 24)) w1.heap.size 24 #[.int .i64 0, .int .u64 0, .int .i64 0]) := Lib.hid (Blk.new' rfl)
      have d0_N0 : fb ≠ w1.heap.size := Nat.ne_of_lt b0.lt
      have d1_N0 : w.heap.size ≠ w1.heap.size := Nat.ne_of_lt b1.lt
      have dd_N0 : w.heap.size ≤ w1.heap.size := hb.size
      refine hK.out _ _ ⟨b0.alloc _, b1.alloc _, below_alloc hb _⟩ (fun hS => ?_)
      clear hK K b0 b1 hb
      try simp only [Act.put, List.setIfInBounds_toArray, List.set_cons_zero, List.set_cons_succ]
      refine wpAnyH_ready (rs := [5]) (by kernel_rfl) (by simp) ?_
      refine (AllReadyH.cons (op_at rfl) (fun K hK => ?_) AllReadyH.nil)
      go_simp
      obtain ⟨b0, b1, hb⟩ := hS
      refine (H0.out _ (HH.out.up hb).h).mono ?_
      rintro e w3 ⟨rfl, hB⟩
      replace N0 := Lib.hid (N0.out.after hB)
      refine hK.out _ _ ⟨b0.after hB, b1.after hB, below_call hb hB⟩ (fun hS => ?_)
      clear hK K hB b0 b1 hb
      try simp only [Act.put, List.setIfInBounds_toArray, List.set_cons_zero, List.set_cons_succ]
      refine wpAnyH_take (i := 6) (v := ?_) (op_at rfl) (by kernel_rfl) (by kernel_rfl) (by kernel_rfl) (fun _ _ _ h => h) (Or.inl ⟨by rfl, ?_⟩) hS ?_; rotate_left; focus ((intro w' hSw; clear hSw; go_simp) <;> with_reducible rfl)
      try simp only [Act.put, List.setIfInBounds_toArray, List.set_cons_zero, List.set_cons_succ]
      refine wpAnyH_take (i := 7) (v := ?_) (op_at rfl) (by kernel_rfl) (by kernel_rfl) (by kernel_rfl) (fun _ _ _ h => h) (Or.inl ⟨by rfl, ?_⟩) hS ?_; rotate_left; focus ((intro w' hSw; clear hSw; go_simp) <;> with_reducible rfl)
      try simp only [Act.put, List.setIfInBounds_toArray, List.set_cons_zero, List.set_cons_succ]
      refine wpAnyH_take (i := 8) (v := ?_) (op_at rfl) (by kernel_rfl) (by kernel_rfl) (by kernel_rfl) (fun _ _ _ h => h) (Or.inl ⟨by rfl, ?_⟩) hS ?_; rotate_left; focus ((intro w' hSw; clear hSw; go_simp) <;> with_reducible rfl)
      try simp only [Act.put, List.setIfInBounds_toArray, List.set_cons_zero, List.set_cons_succ]
      refine wpAnyH_ready (rs := [10]) (by kernel_rfl) (by simp) ?_
      refine (AllReadyH.cons (op_at rfl) (fun K hK => ?_) AllReadyH.nil)
      have p_0 := N0.out.at_ (i := 0) (v := .int .i64 0) rfl
      have f_0 := N0.out.frozen 0
      have p_1 := N0.out.at_ (i := 1) (v := .int .u64 0) rfl
      have f_1 := N0.out.frozen 1
      have p_2 := N0.out.at_ (i := 2) (v := .int .i64 0) rfl
      have f_2 := N0.out.frozen 2
      go_simp
      clear p_0 f_0 p_1 f_1 p_2 f_2
      obtain ⟨b0, b1, hb⟩ := hS
      refine hK.out _ _ ⟨(Blk.far (Blk.far (Blk.far b0 d0_N0 _) d0_N0 _) d0_N0 _), (Blk.far (Blk.far (Blk.far b1 d1_N0 _) d1_N0 _) d1_N0 _), (below_set (below_set (below_set hb dd_N0 _) dd_N0 _) dd_N0 _)⟩ (fun hS => ?_)
      replace N0 := Lib.hid (Blk.set' (u := .int .i64 x.ig) (i := 2) (cs' := #[.int .i64 x.lv, .int .u64 (u x.c), .int .i64 x.ig]) (Blk.set' (u := .int .u64 (u x.c)) (i := 1) (cs' := #[.int .i64 x.lv, .int .u64 (u x.c), .int .i64 0]) (Blk.set' (u := .int .i64 x.lv) (i := 0) (cs' := #[.int .i64 x.lv, .int .u64 0, .int .i64 0]) N0.out rfl) rfl) rfl)
      clear hK K b0 b1 hb
      try simp only [Act.put, List.setIfInBounds_toArray, List.set_cons_zero, List.set_cons_succ]
      refine wpAnyH_take (i := 11) (v := ?_) (op_at rfl) (by kernel_rfl) (by kernel_rfl) (by kernel_rfl) (fun _ _ _ h => h) (Or.inl ⟨by rfl, ?_⟩) hS ?_; rotate_left; focus ((intro w' hSw; clear hSw; go_simp) <;> with_reducible rfl)
      try simp only [Act.put, List.setIfInBounds_toArray, List.set_cons_zero, List.set_cons_succ]
      refine wpAnyH_done (by kernel_rfl) ?_ _
      obtain ⟨b0, b1, hb⟩ := hS
      go_wp2_with fail
      go_meet
      exact ⟨_, rfl, rfl, N0.out, b0, b1, hb, d0_N0, d1_N0, dd_N0⟩
  case rest =>
    obtain ⟨g3, rfl, rfl, hn, h_0, h_1, hb, e0_g3, e1_g3, ee_g3⟩ := hcut
    replace B0 := Lib.hid h_0
    clear h_0
    replace B1 := Lib.hid h_1
    clear h_1
    have B2 := Lib.hid hn
    clear hn
    replace HB := Lib.hid hb
    clear hb
    go_wp2_with fail
    refine wp_region_gen (S := (fun W' => Blk W' (fb) 43 #[.int .i64 f.lv, .int .u64 (u f.c), .int .i64 f.ig, .int .i64 h.lv, .int .u64 (u h.c), .int .i64 h.ig] ∧ Blk W' (w.heap.size) 24 #[.int .i64 a.lv, .int .u64 (u a.c), .int .i64 a.ig] ∧ Blk W' (g3) 24 #[.int .i64 x.lv, .int .u64 (u x.c), .int .i64 x.ig] ∧ Below w.heap.size w W')) (by kernel_rfl) ⟨(by repeat (first | exact B0.out | exact Blk.new' (by simp; done) | exact Blk.new' rfl | refine Blk.drew ?_ | refine Blk.alloc ?_ _)), (by repeat (first | exact B1.out | exact Blk.new' (by simp; done) | exact Blk.new' rfl | refine Blk.drew ?_ | refine Blk.alloc ?_ _)), (by repeat (first | exact B2.out | exact Blk.new' (by simp; done) | exact Blk.new' rfl | refine Blk.drew ?_ | refine Blk.alloc ?_ _)), (by repeat (first | exact HB.out | refine below_alloc ?_ _ | refine Below.drew ?_ | refine below_set ?_ (by omega) _))⟩ (fun w4 hS => ?_)
    refine wpAnyH_take (i := 0) (v := ?_) (op_at rfl) (by kernel_rfl) (by kernel_rfl) (by kernel_rfl) (fun _ _ _ h => h) (Or.inl ⟨by rfl, ?_⟩) hS ?_; rotate_left; focus ((intro w' hSw; obtain ⟨-, -, q, -⟩ := hSw; have c0 := q.at_ (i := 0) (v := .int .i64 x.lv) rfl; have c1 := q.at_ (i := 1) (v := .int .u64 (u x.c)) rfl; have c2 := q.at_ (i := 2) (v := .int .i64 x.ig) rfl; clear q; go_simp) <;> with_reducible rfl)
    try simp only [Act.put, List.setIfInBounds_toArray, List.set_cons_zero, List.set_cons_succ]
    refine wpAnyH_take (i := 1) (v := ?_) (op_at rfl) (by kernel_rfl) (by kernel_rfl) (by kernel_rfl) (fun _ _ _ h => h) (Or.inl ⟨by rfl, ?_⟩) hS ?_; rotate_left; focus ((intro w' hSw; clear hSw; go_simp) <;> with_reducible rfl)
    try simp only [Act.put, List.setIfInBounds_toArray, List.set_cons_zero, List.set_cons_succ]
    refine wpAnyH_take (i := 2) (v := ?_) (op_at rfl) (by kernel_rfl) (by kernel_rfl) (by kernel_rfl) (fun _ _ _ h => h) (Or.inl ⟨by rfl, ?_⟩) hS ?_; rotate_left; focus ((intro w' hSw; clear hSw; go_simp) <;> with_reducible rfl)
    try simp only [Act.put, List.setIfInBounds_toArray, List.set_cons_zero, List.set_cons_succ]
    refine wpAnyH_take (i := 3) (v := ?_) (op_at rfl) (by kernel_rfl) (by kernel_rfl) (by kernel_rfl) (fun _ _ _ h => h) (Or.inl ⟨by rfl, ?_⟩) hS ?_; rotate_left; focus ((intro w' hSw; clear hSw; go_simp) <;> with_reducible rfl)
    try simp only [Act.put, List.setIfInBounds_toArray, List.set_cons_zero, List.set_cons_succ]
    refine wpAnyH_take (i := 4) (v := ?_) (op_at rfl) (by kernel_rfl) (by kernel_rfl) (by kernel_rfl) (fun _ _ _ h => h) (Or.inl ⟨by rfl, ?_⟩) hS ?_; rotate_left; focus ((intro w' hSw; obtain ⟨q, -⟩ := hSw; have c3 := q.at_ (i := 3) (v := .int .i64 h.lv) rfl; have c4 := q.at_ (i := 4) (v := .int .u64 (u h.c)) rfl; have c5 := q.at_ (i := 5) (v := .int .i64 h.ig) rfl; clear q; go_simp) <;> with_reducible rfl)
    try simp only [Act.put, List.setIfInBounds_toArray, List.set_cons_zero, List.set_cons_succ]
    refine wpAnyH_take (i := 5) (v := ?_) (op_at rfl) (by kernel_rfl) (by kernel_rfl) (by kernel_rfl) (fun _ _ _ h => h) (Or.inl ⟨by rfl, ?_⟩) hS ?_; rotate_left; focus ((intro w' hSw; clear hSw; go_simp) <;> with_reducible rfl)
    try simp only [Act.put, List.setIfInBounds_toArray, List.set_cons_zero, List.set_cons_succ]
    refine wpAnyH_take (i := 6) (v := ?_) (op_at rfl) (by kernel_rfl) (by kernel_rfl) (by kernel_rfl) (fun _ _ _ h => h) (Or.inl ⟨by rfl, ?_⟩) hS ?_; rotate_left; focus ((intro w' hSw; clear hSw; go_simp) <;> with_reducible rfl)
    try simp only [Act.put, List.setIfInBounds_toArray, List.set_cons_zero, List.set_cons_succ]
    refine wpAnyH_take (i := 7) (v := ?_) (op_at rfl) (by kernel_rfl) (by kernel_rfl) (by kernel_rfl) (fun _ _ _ h => h) (Or.inl ⟨by rfl, ?_⟩) hS ?_; rotate_left; focus ((intro w' hSw; obtain ⟨-, -, q, -⟩ := hSw; have c0 := q.at_ (i := 0) (v := .int .i64 x.lv) rfl; have c1 := q.at_ (i := 1) (v := .int .u64 (u x.c)) rfl; have c2 := q.at_ (i := 2) (v := .int .i64 x.ig) rfl; clear q; go_simp) <;> with_reducible rfl)
    try simp only [Act.put, List.setIfInBounds_toArray, List.set_cons_zero, List.set_cons_succ]
    refine wpAnyH_take (i := 8) (v := ?_) (op_at rfl) (by kernel_rfl) (by kernel_rfl) (by kernel_rfl) (fun _ _ _ h => h) (Or.inl ⟨by rfl, ?_⟩) hS ?_; rotate_left; focus ((intro w' hSw; clear hSw; go_simp) <;> with_reducible rfl)
    try simp only [Act.put, List.setIfInBounds_toArray, List.set_cons_zero, List.set_cons_succ]
    refine wpAnyH_take (i := 9) (v := ?_) (op_at rfl) (by kernel_rfl) (by kernel_rfl) (by kernel_rfl) (fun _ _ _ h => h) (Or.inl ⟨by rfl, ?_⟩) hS ?_; rotate_left; focus ((intro w' hSw; clear hSw; go_simp) <;> with_reducible rfl)
    try simp only [Act.put, List.setIfInBounds_toArray, List.set_cons_zero, List.set_cons_succ]
    refine wpAnyH_take (i := 10) (v := ?_) (op_at rfl) (by kernel_rfl) (by kernel_rfl) (by kernel_rfl) (fun _ _ _ h => h) (Or.inl ⟨by rfl, ?_⟩) hS ?_; rotate_left; focus ((intro w' hSw; clear hSw; go_simp) <;> with_reducible rfl)
    try simp only [Act.put, List.setIfInBounds_toArray, List.set_cons_zero, List.set_cons_succ]
    refine wpAnyH_take (i := 11) (v := ?_) (op_at rfl) (by kernel_rfl) (by kernel_rfl) (by kernel_rfl) (fun _ _ _ h => h) (Or.inl ⟨by rfl, ?_⟩) hS ?_; rotate_left; focus ((intro w' hSw; obtain ⟨q, -⟩ := hSw; have c3 := q.at_ (i := 3) (v := .int .i64 h.lv) rfl; have c4 := q.at_ (i := 4) (v := .int .u64 (u h.c)) rfl; have c5 := q.at_ (i := 5) (v := .int .i64 h.ig) rfl; clear q; go_simp) <;> with_reducible rfl)
    try simp only [Act.put, List.setIfInBounds_toArray, List.set_cons_zero, List.set_cons_succ]
    refine wpAnyH_ready (rs := [12]) (by kernel_rfl) (by simp) ?_
    refine (AllReadyH.cons (op_at rfl) (fun K hK => ?_) AllReadyH.nil)
    go_simp
    obtain ⟨b0, b1, b2, hb⟩ := hS
    refine (H2.out _).mono ?_
    rintro e w5 ⟨rfl, hB⟩
    refine hK.out _ _ ⟨b0.after hB, b1.after hB, b2.after hB, below_call hb hB⟩ (fun hS => ?_)
    clear hK K hB b0 b1 b2 hb
    try simp only [Act.put, List.setIfInBounds_toArray, List.set_cons_zero, List.set_cons_succ]
    refine wpAnyH_take (i := 13) (v := ?_) (op_at rfl) (by kernel_rfl) (by kernel_rfl) (by kernel_rfl) (fun _ _ _ h => h) (Or.inl ⟨by rfl, ?_⟩) hS ?_; rotate_left; focus ((intro w' hSw; clear hSw; go_simp) <;> with_reducible rfl)
    try simp only [Act.put, List.setIfInBounds_toArray, List.set_cons_zero, List.set_cons_succ]
    refine wpAnyH_take (i := 14) (v := ?_) (op_at rfl) (by kernel_rfl) (by kernel_rfl) (by kernel_rfl) (fun _ _ _ h => h) (Or.inl ⟨by rfl, ?_⟩) hS ?_; rotate_left; focus ((intro w' hSw; clear hSw; go_simp) <;> with_reducible rfl)
    try simp only [Act.put, List.setIfInBounds_toArray, List.set_cons_zero, List.set_cons_succ]
    refine wpAnyH_done (by kernel_rfl) ?_ _
    obtain ⟨b0, b1, b2, hb⟩ := hS
    replace B0 := Lib.hid b0
    clear b0
    replace B1 := Lib.hid b1
    clear b1
    replace B2 := Lib.hid b2
    clear b2
    replace HB := Lib.hid hb
    clear hb
    have g_0 : w5.cell? ⟨0, 0, none⟩ = some (.iface 109 (.pointer (some sa))) := (HH.out.up HB.out).s
    have gl_0 : 0 < w5.heap.size := (HH.out.up HB.out).s.lt
    have p1_0 := B1.out.at_ (i := 0) (v := .int .i64 a.lv) rfl
    have p1_1 := B1.out.at_ (i := 1) (v := .int .u64 (u a.c)) rfl
    have p1_2 := B1.out.at_ (i := 2) (v := .int .i64 a.ig) rfl
    have k1_0 : w.heap.size < w5.heap.size := by have := B1.out.lt; omega
    go_wp2_with fail
    go_ret
    exact ⟨rfl, (by repeat (first | exact HB.out | refine below_alloc ?_ _ | refine Below.drew ?_ | refine below_set ?_ (by omega) _))⟩
set_option maxRecDepth 100000 in
set_option maxHeartbeats 4000000 in
theorem to_same (f h a x : Lab) (sa : Addr) (fb : Nat) (w : World) (hh : Env sa w) (hf : Blk w fb 43 #[.int .i64 f.lv, .int .u64 (u f.c), .int .i64 f.ig, .int .i64 h.lv, .int .u64 (u h.c), .int .i64 h.ig]) (h0 : JoinIs f a x 0) (h1 : ∀ W, (binOp .neq 24 (.agg #[.int .i64 x.lv, .int .u64 (u x.c), .int .i64 x.ig]) (.agg #[.int .i64 h.lv, .int .u64 (u h.c), .int .i64 h.ig])).run Tryd.prog W = .ok (.bool false) W) :
    Calls Tryd.prog 30 #[.pointer (some ⟨fb, 0, none⟩), .agg #[.int .i64 a.lv, .int .u64 (u a.c), .int .i64 a.ig]] w (fun e w' => e = .returned .nilIface ∧ Blk w' fb 43 #[.int .i64 x.lv, .int .u64 (u x.c), .int .i64 x.ig, .int .i64 h.lv, .int .u64 (u h.c), .int .i64 h.ig] ∧ Turns (· = fb) w w') := by
  have H0 := Lib.hid h0
  clear h0
  have HH := Lib.hid hh
  clear hh
  have B0 := Lib.hid hf
  clear hf
  have HB := Lib.hid (Below.refl w.heap.size w)
  go_enter Tryd.func30, Tryd.ntmps30
  go_upto_region 1 with fail
  go_cut [5, 6] (fun s5 s6 wx => ∃ g3 : Nat, s5 = .pointer (some ⟨g3, 0, none⟩) ∧ s6 = .int .i64 0 ∧ Blk wx (g3) 24 #[.int .i64 x.lv, .int .u64 (u x.c), .int .i64 x.ig] ∧ Blk wx (fb) 43 #[.int .i64 f.lv, .int .u64 (u f.c), .int .i64 f.ig, .int .i64 h.lv, .int .u64 (u h.c), .int .i64 h.ig] ∧ Blk wx (w.heap.size) 24 #[.int .i64 a.lv, .int .u64 (u a.c), .int .i64 a.ig] ∧ Below w.heap.size w wx ∧ fb ≠ g3 ∧ w.heap.size ≠ g3 ∧ w.heap.size ≤ g3)
  case first =>
    refine wp_region_gen (S := (fun W' => Blk W' (fb) 43 #[.int .i64 f.lv, .int .u64 (u f.c), .int .i64 f.ig, .int .i64 h.lv, .int .u64 (u h.c), .int .i64 h.ig] ∧ Blk W' (w.heap.size) 24 #[.int .i64 a.lv, .int .u64 (u a.c), .int .i64 a.ig] ∧ Below w.heap.size w W')) (by kernel_rfl) ⟨(by repeat (first | exact B0.out | exact Blk.new' (by simp; done) | exact Blk.new' rfl | refine Blk.drew ?_ | refine Blk.alloc ?_ _)), (by repeat (first | exact Blk.new' (by simp; done) | exact Blk.new' rfl | refine Blk.drew ?_ | refine Blk.alloc ?_ _)), (by repeat (first | exact HB.out | refine below_alloc ?_ _ | refine Below.drew ?_ | refine below_set ?_ (by omega) _))⟩ (fun w1 hS => ?_)
    refine wpAnyH_take (i := 0) (v := ?_) (op_at rfl) (by kernel_rfl) (by kernel_rfl) (by kernel_rfl) (fun _ _ _ h => h) (Or.inl ⟨by rfl, ?_⟩) hS ?_; rotate_left; focus ((intro w' hSw; clear hSw; go_simp) <;> with_reducible rfl)
    try simp only [Act.put, List.setIfInBounds_toArray, List.set_cons_zero, List.set_cons_succ]
    refine wpAnyH_take (i := 1) (v := ?_) (op_at rfl) (by kernel_rfl) (by kernel_rfl) (by kernel_rfl) (fun _ _ _ h => h) (Or.inl ⟨by rfl, ?_⟩) hS ?_; rotate_left; focus ((intro w' hSw; clear hSw; go_simp) <;> with_reducible rfl)
    try simp only [Act.put, List.setIfInBounds_toArray, List.set_cons_zero, List.set_cons_succ]
    refine wpAnyH_take (i := 2) (v := ?_) (op_at rfl) (by kernel_rfl) (by kernel_rfl) (by kernel_rfl) (fun _ _ _ h => h) (Or.inl ⟨by rfl, ?_⟩) hS ?_; rotate_left; focus ((intro w' hSw; clear hSw; go_simp) <;> with_reducible rfl)
    try simp only [Act.put, List.setIfInBounds_toArray, List.set_cons_zero, List.set_cons_succ]
    refine wpAnyH_take (i := 3) (v := ?_) (op_at rfl) (by kernel_rfl) (by kernel_rfl) (by kernel_rfl) (fun _ _ _ h => h) (Or.inl ⟨by rfl, ?_⟩) hS ?_; rotate_left; focus ((intro w' hSw; obtain ⟨q, -⟩ := hSw; have c0 := q.at_ (i := 0) (v := .int .i64 f.lv) rfl; have c1 := q.at_ (i := 1) (v := .int .u64 (u f.c)) rfl; have c2 := q.at_ (i := 2) (v := .int .i64 f.ig) rfl; clear q; go_simp) <;> with_reducible rfl)
    try simp only [Act.put, List.setIfInBounds_toArray, List.set_cons_zero, List.set_cons_succ]
    refine wpAnyH_take (i := 4) (v := ?_) (op_at rfl) (by kernel_rfl) (by kernel_rfl) (by kernel_rfl) (fun _ _ _ h => h) (Or.inl ⟨by rfl, ?_⟩) hS ?_; rotate_left; focus ((intro w' hSw; obtain ⟨-, q, -⟩ := hSw; have c0 := q.at_ (i := 0) (v := .int .i64 a.lv) rfl; have c1 := q.at_ (i := 1) (v := .int .u64 (u a.c)) rfl; have c2 := q.at_ (i := 2) (v := .int .i64 a.ig) rfl; clear q; go_simp) <;> with_reducible rfl)
    try simp only [Act.put, List.setIfInBounds_toArray, List.set_cons_zero, List.set_cons_succ]
    refine wpAnyH_ready (rs := [5, 9]) (by kernel_rfl) (by simp) ?_
    refine (AllReadyH.cons (op_at rfl) (fun K hK => ?_) (AllReadyH.cons (op_at rfl) (fun K hK => ?_) AllReadyH.nil))
    ·
      go_simp
      obtain ⟨b0, b1, hb⟩ := hS
      refine (H0.out _ (HH.out.up hb).h).mono ?_
      rintro e w2 ⟨rfl, hB⟩
      refine hK.out _ _ ⟨b0.after hB, b1.after hB, below_call hb hB⟩ (fun hS => ?_)
      clear hK K hB b0 b1 hb
      try simp only [Act.put, List.setIfInBounds_toArray, List.set_cons_zero, List.set_cons_succ]
      refine wpAnyH_take (i := 6) (v := ?_) (op_at rfl) (by kernel_rfl) (by kernel_rfl) (by kernel_rfl) (fun _ _ _ h => h) (Or.inl ⟨by rfl, ?_⟩) hS ?_; rotate_left; focus ((intro w' hSw; clear hSw; go_simp) <;> with_reducible rfl)
      try simp only [Act.put, List.setIfInBounds_toArray, List.set_cons_zero, List.set_cons_succ]
      refine wpAnyH_take (i := 7) (v := ?_) (op_at rfl) (by kernel_rfl) (by kernel_rfl) (by kernel_rfl) (fun _ _ _ h => h) (Or.inl ⟨by rfl, ?_⟩) hS ?_; rotate_left; focus ((intro w' hSw; clear hSw; go_simp) <;> with_reducible rfl)
      try simp only [Act.put, List.setIfInBounds_toArray, List.set_cons_zero, List.set_cons_succ]
      refine wpAnyH_take (i := 8) (v := ?_) (op_at rfl) (by kernel_rfl) (by kernel_rfl) (by kernel_rfl) (fun _ _ _ h => h) (Or.inl ⟨by rfl, ?_⟩) hS ?_; rotate_left; focus ((intro w' hSw; clear hSw; go_simp) <;> with_reducible rfl)
      try simp only [Act.put, List.setIfInBounds_toArray, List.set_cons_zero, List.set_cons_succ]
      refine wpAnyH_ready (rs := [9]) (by kernel_rfl) (by simp) ?_
      refine (AllReadyH.cons (op_at rfl) (fun K hK => ?_) AllReadyH.nil)
      go_simp
      obtain ⟨b0, b1, hb⟩ := hS
      have N0 : Hid (Blk (w2.alloc (.cells #[.int .i64 0, .int .u64 0, .int .i64 0] 24)) w2.heap.size 24 #[.int .i64 0, .int .u64 0, .int .i64 0]) := Lib.hid (Blk.new' rfl)
      have d0_N0 : fb ≠ w2.heap.size := Nat.ne_of_lt b0.lt
      have d1_N0 : w.heap.size ≠ w2.heap.size := Nat.ne_of_lt b1.lt
      have dd_N0 : w.heap.size ≤ w2.heap.size := hb.size
      refine hK.out _ _ ⟨b0.alloc _, b1.alloc _, below_alloc hb _⟩ (fun hS => ?_)
      clear hK K b0 b1 hb
      try simp only [Act.put, List.setIfInBounds_toArray, List.set_cons_zero, List.set_cons_succ]
      refine wpAnyH_ready (rs := [10]) (by kernel_rfl) (by simp) ?_
      refine (AllReadyH.cons (op_at rfl) (fun K hK => ?_) AllReadyH.nil)
      go_simp
      obtain ⟨b0, b1, hb⟩ := hS
      refine hK.out _ _ ⟨(Blk.realloc b0 d0_N0), (Blk.realloc b1 d1_N0), (below_realloc hb dd_N0)⟩ (fun hS => ?_)
      replace N0 : Hid (Blk (w2.alloc (.cells #[.int .i64 x.lv, .int .u64 (u x.c), .int .i64 x.ig] 24)) w2.heap.size 24 #[.int .i64 x.lv, .int .u64 (u x.c), .int .i64 x.ig]) := Lib.hid (Blk.new' rfl)
      clear hK K b0 b1 hb
      try simp only [Act.put, List.setIfInBounds_toArray, List.set_cons_zero, List.set_cons_succ]
      refine wpAnyH_take (i := 11) (v := ?_) (op_at rfl) (by kernel_rfl) (by kernel_rfl) (by kernel_rfl) (fun _ _ _ h => h) (Or.inl ⟨by rfl, ?_⟩) hS ?_; rotate_left; focus ((intro w' hSw; clear hSw; go_simp) <;> with_reducible rfl)
      try simp only [Act.put, List.setIfInBounds_toArray, List.set_cons_zero, List.set_cons_succ]
      refine wpAnyH_done (by kernel_rfl) ?_ _
      obtain ⟨b0, b1, hb⟩ := hS
      go_wp2_with fail
      go_meet
      exact ⟨_, rfl, rfl, N0.out, b0, b1, hb, d0_N0, d1_N0, dd_N0⟩
    ·
      go_simp
      obtain ⟨b0, b1, hb⟩ := hS
      have N0 : Hid (Blk (w1.alloc (.cells #[.int .i64 0, .int .u64 0, .int .i64 0] 24)) w1.heap.size 24 #[.int .i64 0, .int .u64 0, .int .i64 0]) := Lib.hid (Blk.new' rfl)
      have d0_N0 : fb ≠ w1.heap.size := Nat.ne_of_lt b0.lt
      have d1_N0 : w.heap.size ≠ w1.heap.size := Nat.ne_of_lt b1.lt
      have dd_N0 : w.heap.size ≤ w1.heap.size := hb.size
      refine hK.out _ _ ⟨b0.alloc _, b1.alloc _, below_alloc hb _⟩ (fun hS => ?_)
      clear hK K b0 b1 hb
      try simp only [Act.put, List.setIfInBounds_toArray, List.set_cons_zero, List.set_cons_succ]
      refine wpAnyH_ready (rs := [5]) (by kernel_rfl) (by simp) ?_
      refine (AllReadyH.cons (op_at rfl) (fun K hK => ?_) AllReadyH.nil)
      go_simp
      obtain ⟨b0, b1, hb⟩ := hS
      refine (H0.out _ (HH.out.up hb).h).mono ?_
      rintro e w3 ⟨rfl, hB⟩
      replace N0 := Lib.hid (N0.out.after hB)
      refine hK.out _ _ ⟨b0.after hB, b1.after hB, below_call hb hB⟩ (fun hS => ?_)
      clear hK K hB b0 b1 hb
      try simp only [Act.put, List.setIfInBounds_toArray, List.set_cons_zero, List.set_cons_succ]
      refine wpAnyH_take (i := 6) (v := ?_) (op_at rfl) (by kernel_rfl) (by kernel_rfl) (by kernel_rfl) (fun _ _ _ h => h) (Or.inl ⟨by rfl, ?_⟩) hS ?_; rotate_left; focus ((intro w' hSw; clear hSw; go_simp) <;> with_reducible rfl)
      try simp only [Act.put, List.setIfInBounds_toArray, List.set_cons_zero, List.set_cons_succ]
      refine wpAnyH_take (i := 7) (v := ?_) (op_at rfl) (by kernel_rfl) (by kernel_rfl) (by kernel_rfl) (fun _ _ _ h => h) (Or.inl ⟨by rfl, ?_⟩) hS ?_; rotate_left; focus ((intro w' hSw; clear hSw; go_simp) <;> with_reducible rfl)
      try simp only [Act.put, List.setIfInBounds_toArray, List.set_cons_zero, List.set_cons_succ]
      refine wpAnyH_take (i := 8) (v := ?_) (op_at rfl) (by kernel_rfl) (by kernel_rfl) (by kernel_rfl) (fun _ _ _ h => h) (Or.inl ⟨by rfl, ?_⟩) hS ?_; rotate_left; focus ((intro w' hSw; clear hSw; go_simp) <;> with_reducible rfl)
      try simp only [Act.put, List.setIfInBounds_toArray, List.set_cons_zero, List.set_cons_succ]
      refine wpAnyH_ready (rs := [10]) (by kernel_rfl) (by simp) ?_
      refine (AllReadyH.cons (op_at rfl) (fun K hK => ?_) AllReadyH.nil)
      have p_0 := N0.out.at_ (i := 0) (v := .int .i64 0) rfl
      have f_0 := N0.out.frozen 0
      have p_1 := N0.out.at_ (i := 1) (v := .int .u64 0) rfl
      have f_1 := N0.out.frozen 1
      have p_2 := N0.out.at_ (i := 2) (v := .int .i64 0) rfl
      have f_2 := N0.out.frozen 2
      go_simp
      clear p_0 f_0 p_1 f_1 p_2 f_2
      obtain ⟨b0, b1, hb⟩ := hS
      refine hK.out _ _ ⟨(Blk.far (Blk.far (Blk.far b0 d0_N0 _) d0_N0 _) d0_N0 _), (Blk.far (Blk.far (Blk.far b1 d1_N0 _) d1_N0 _) d1_N0 _), (below_set (below_set (below_set hb dd_N0 _) dd_N0 _) dd_N0 _)⟩ (fun hS => ?_)
      replace N0 := Lib.hid (Blk.set' (u := .int .i64 x.ig) (i := 2) (cs' := #[.int .i64 x.lv, .int .u64 (u x.c), .int .i64 x.ig]) (Blk.set' (u := .int .u64 (u x.c)) (i := 1) (cs' := #[.int .i64 x.lv, .int .u64 (u x.c), .int .i64 0]) (Blk.set' (u := .int .i64 x.lv) (i := 0) (cs' := #[.int .i64 x.lv, .int .u64 0, .int .i64 0]) N0.out rfl) rfl) rfl)
      clear hK K b0 b1 hb
      try simp only [Act.put, List.setIfInBounds_toArray, List.set_cons_zero, List.set_cons_succ]
      refine wpAnyH_take (i := 11) (v := ?_) (op_at rfl) (by kernel_rfl) (by kernel_rfl) (by kernel_rfl) (fun _ _ _ h => h) (Or.inl ⟨by rfl, ?_⟩) hS ?_; rotate_left; focus ((intro w' hSw; clear hSw; go_simp) <;> with_reducible rfl)
      try simp only [Act.put, List.setIfInBounds_toArray, List.set_cons_zero, List.set_cons_succ]
      refine wpAnyH_done (by kernel_rfl) ?_ _
      obtain ⟨b0, b1, hb⟩ := hS
      go_wp2_with fail
      go_meet
      exact ⟨_, rfl, rfl, N0.out, b0, b1, hb, d0_N0, d1_N0, dd_N0⟩
  case rest =>
    obtain ⟨g3, rfl, rfl, hn, h_0, h_1, hb, e0_g3, e1_g3, ee_g3⟩ := hcut
    replace B0 := Lib.hid h_0
    clear h_0
    replace B1 := Lib.hid h_1
    clear h_1
    have B2 := Lib.hid hn
    clear hn
    replace HB := Lib.hid hb
    clear hb
    go_wp2_with fail
    refine wp_region_gen (S := (fun W' => Blk W' (fb) 43 #[.int .i64 f.lv, .int .u64 (u f.c), .int .i64 f.ig, .int .i64 h.lv, .int .u64 (u h.c), .int .i64 h.ig] ∧ Blk W' (w.heap.size) 24 #[.int .i64 a.lv, .int .u64 (u a.c), .int .i64 a.ig] ∧ Blk W' (g3) 24 #[.int .i64 x.lv, .int .u64 (u x.c), .int .i64 x.ig] ∧ Below w.heap.size w W')) (by kernel_rfl) ⟨(by repeat (first | exact B0.out | exact Blk.new' (by simp; done) | exact Blk.new' rfl | refine Blk.drew ?_ | refine Blk.alloc ?_ _)), (by repeat (first | exact B1.out | exact Blk.new' (by simp; done) | exact Blk.new' rfl | refine Blk.drew ?_ | refine Blk.alloc ?_ _)), (by repeat (first | exact B2.out | exact Blk.new' (by simp; done) | exact Blk.new' rfl | refine Blk.drew ?_ | refine Blk.alloc ?_ _)), (by repeat (first | exact HB.out | refine below_alloc ?_ _ | refine Below.drew ?_ | refine below_set ?_ (by omega) _))⟩ (fun w4 hS => ?_)
    refine wpAnyH_take (i := 0) (v := ?_) (op_at rfl) (by kernel_rfl) (by kernel_rfl) (by kernel_rfl) (fun _ _ _ h => h) (Or.inl ⟨by rfl, ?_⟩) hS ?_; rotate_left; focus ((intro w' hSw; obtain ⟨-, -, q, -⟩ := hSw; have c0 := q.at_ (i := 0) (v := .int .i64 x.lv) rfl; have c1 := q.at_ (i := 1) (v := .int .u64 (u x.c)) rfl; have c2 := q.at_ (i := 2) (v := .int .i64 x.ig) rfl; clear q; go_simp) <;> with_reducible rfl)
    try simp only [Act.put, List.setIfInBounds_toArray, List.set_cons_zero, List.set_cons_succ]
    refine wpAnyH_take (i := 1) (v := ?_) (op_at rfl) (by kernel_rfl) (by kernel_rfl) (by kernel_rfl) (fun _ _ _ h => h) (Or.inl ⟨by rfl, ?_⟩) hS ?_; rotate_left; focus ((intro w' hSw; clear hSw; go_simp) <;> with_reducible rfl)
    try simp only [Act.put, List.setIfInBounds_toArray, List.set_cons_zero, List.set_cons_succ]
    refine wpAnyH_take (i := 2) (v := ?_) (op_at rfl) (by kernel_rfl) (by kernel_rfl) (by kernel_rfl) (fun _ _ _ h => h) (Or.inl ⟨by rfl, ?_⟩) hS ?_; rotate_left; focus ((intro w' hSw; clear hSw; go_simp) <;> with_reducible rfl)
    try simp only [Act.put, List.setIfInBounds_toArray, List.set_cons_zero, List.set_cons_succ]
    refine wpAnyH_take (i := 3) (v := ?_) (op_at rfl) (by kernel_rfl) (by kernel_rfl) (by kernel_rfl) (fun _ _ _ h => h) (Or.inl ⟨by rfl, ?_⟩) hS ?_; rotate_left; focus ((intro w' hSw; clear hSw; go_simp) <;> with_reducible rfl)
    try simp only [Act.put, List.setIfInBounds_toArray, List.set_cons_zero, List.set_cons_succ]
    refine wpAnyH_take (i := 4) (v := ?_) (op_at rfl) (by kernel_rfl) (by kernel_rfl) (by kernel_rfl) (fun _ _ _ h => h) (Or.inl ⟨by rfl, ?_⟩) hS ?_; rotate_left; focus ((intro w' hSw; obtain ⟨q, -⟩ := hSw; have c3 := q.at_ (i := 3) (v := .int .i64 h.lv) rfl; have c4 := q.at_ (i := 4) (v := .int .u64 (u h.c)) rfl; have c5 := q.at_ (i := 5) (v := .int .i64 h.ig) rfl; clear q; go_simp) <;> with_reducible rfl)
    try simp only [Act.put, List.setIfInBounds_toArray, List.set_cons_zero, List.set_cons_succ]
    refine wpAnyH_take (i := 5) (v := ?_) (op_at rfl) (by kernel_rfl) (by kernel_rfl) (by kernel_rfl) (fun _ _ _ h => h) (Or.inl ⟨by rfl, ?_⟩) hS ?_; rotate_left; focus ((intro w' hSw; clear hSw; go_simp) <;> with_reducible rfl)
    try simp only [Act.put, List.setIfInBounds_toArray, List.set_cons_zero, List.set_cons_succ]
    refine wpAnyH_take (i := 6) (v := ?_) (op_at rfl) (by kernel_rfl) (by kernel_rfl) (by kernel_rfl) (fun _ _ _ h => h) (Or.inl ⟨by rfl, ?_⟩) hS ?_; rotate_left; focus ((intro w' hSw; clear hSw; go_simp) <;> with_reducible rfl)
    try simp only [Act.put, List.setIfInBounds_toArray, List.set_cons_zero, List.set_cons_succ]
    refine wpAnyH_take (i := 7) (v := undef) (op_at rfl) (by kernel_rfl) (by kernel_rfl) (by kernel_rfl) (fun _ _ _ h => h) (Or.inr ⟨by rfl, rfl⟩) hS ?_
    try simp only [Act.put, List.setIfInBounds_toArray, List.set_cons_zero, List.set_cons_succ]
    refine wpAnyH_take (i := 8) (v := undef) (op_at rfl) (by kernel_rfl) (by kernel_rfl) (by kernel_rfl) (fun _ _ _ h => h) (Or.inr ⟨by rfl, rfl⟩) hS ?_
    try simp only [Act.put, List.setIfInBounds_toArray, List.set_cons_zero, List.set_cons_succ]
    refine wpAnyH_take (i := 9) (v := undef) (op_at rfl) (by kernel_rfl) (by kernel_rfl) (by kernel_rfl) (fun _ _ _ h => h) (Or.inr ⟨by rfl, rfl⟩) hS ?_
    try simp only [Act.put, List.setIfInBounds_toArray, List.set_cons_zero, List.set_cons_succ]
    refine wpAnyH_take (i := 10) (v := undef) (op_at rfl) (by kernel_rfl) (by kernel_rfl) (by kernel_rfl) (fun _ _ _ h => h) (Or.inr ⟨by rfl, rfl⟩) hS ?_
    try simp only [Act.put, List.setIfInBounds_toArray, List.set_cons_zero, List.set_cons_succ]
    refine wpAnyH_take (i := 11) (v := undef) (op_at rfl) (by kernel_rfl) (by kernel_rfl) (by kernel_rfl) (fun _ _ _ h => h) (Or.inr ⟨by rfl, rfl⟩) hS ?_
    try simp only [Act.put, List.setIfInBounds_toArray, List.set_cons_zero, List.set_cons_succ]
    refine wpAnyH_take (i := 12) (v := undef) (op_at rfl) (by kernel_rfl) (by kernel_rfl) (by kernel_rfl) (fun _ _ _ h => h) (Or.inr ⟨by rfl, rfl⟩) hS ?_
    try simp only [Act.put, List.setIfInBounds_toArray, List.set_cons_zero, List.set_cons_succ]
    refine wpAnyH_take (i := 13) (v := undef) (op_at rfl) (by kernel_rfl) (by kernel_rfl) (by kernel_rfl) (fun _ _ _ h => h) (Or.inr ⟨by rfl, rfl⟩) hS ?_
    try simp only [Act.put, List.setIfInBounds_toArray, List.set_cons_zero, List.set_cons_succ]
    refine wpAnyH_take (i := 14) (v := ?_) (op_at rfl) (by kernel_rfl) (by kernel_rfl) (by kernel_rfl) (fun _ _ _ h => h) (Or.inl ⟨by rfl, ?_⟩) hS ?_; rotate_left; focus ((intro w' hSw; clear hSw; go_simp) <;> with_reducible rfl)
    try simp only [Act.put, List.setIfInBounds_toArray, List.set_cons_zero, List.set_cons_succ]
    refine wpAnyH_done (by kernel_rfl) ?_ _
    obtain ⟨b0, b1, b2, hb⟩ := hS
    replace B0 := Lib.hid b0
    clear b0
    replace B1 := Lib.hid b1
    clear b1
    replace B2 := Lib.hid b2
    clear b2
    replace HB := Lib.hid hb
    clear hb
    have p0_0 := B0.out.at_ (i := 0) (v := .int .i64 f.lv) rfl
    have p0_1 := B0.out.at_ (i := 1) (v := .int .u64 (u f.c)) rfl
    have p0_2 := B0.out.at_ (i := 2) (v := .int .i64 f.ig) rfl
    have f0_0 := B0.out.frozen 0
    have f0_1 := B0.out.frozen 1
    have f0_2 := B0.out.frozen 2
    have k0_0 : fb < w4.heap.size := by have := B0.out.lt; omega
    have p2_0 := B2.out.at_ (i := 0) (v := .int .i64 x.lv) rfl
    have p2_1 := B2.out.at_ (i := 1) (v := .int .u64 (u x.c)) rfl
    have p2_2 := B2.out.at_ (i := 2) (v := .int .i64 x.ig) rfl
    have k2_0 : g3 < w4.heap.size := by have := B2.out.lt; omega
    go_wp2_with fail
    go_ret
    exact ⟨rfl, (Blk.set' (u := .int .i64 x.ig) (i := 2) (cs' := #[.int .i64 x.lv, .int .u64 (u x.c), .int .i64 x.ig, .int .i64 h.lv, .int .u64 (u h.c), .int .i64 h.ig]) (Blk.set' (u := .int .u64 (u x.c)) (i := 1) (cs' := #[.int .i64 x.lv, .int .u64 (u x.c), .int .i64 f.ig, .int .i64 h.lv, .int .u64 (u h.c), .int .i64 h.ig]) (Blk.set' (u := .int .i64 x.lv) (i := 0) (cs' := #[.int .i64 x.lv, .int .u64 (u f.c), .int .i64 f.ig, .int .i64 h.lv, .int .u64 (u h.c), .int .i64 h.ig]) B0.out rfl) rfl) rfl), (((Turns.of_below (T := (· = fb)) HB.out).setCell (p := ⟨fb, 0, none⟩) rfl _).setCell (p := ⟨fb, 1, none⟩) rfl _).setCell (p := ⟨fb, 2, none⟩) rfl _⟩
set_option maxRecDepth 100000 in
set_option maxHeartbeats 4000000 in
theorem to_under (f h a x : Lab) (sa : Addr) (fb : Nat) (w : World) (hh : Env sa w) (hf : Blk w fb 43 #[.int .i64 f.lv, .int .u64 (u f.c), .int .i64 f.ig, .int .i64 h.lv, .int .u64 (u h.c), .int .i64 h.ig]) (h0 : JoinIs f a x 0) (h1 : ∀ W, (binOp .neq 24 (.agg #[.int .i64 x.lv, .int .u64 (u x.c), .int .i64 x.ig]) (.agg #[.int .i64 h.lv, .int .u64 (u h.c), .int .i64 h.ig])).run Tryd.prog W = .ok (.bool true) W) (h2 : UnderIs x h true) :
    Calls Tryd.prog 30 #[.pointer (some ⟨fb, 0, none⟩), .agg #[.int .i64 a.lv, .int .u64 (u a.c), .int .i64 a.ig]] w (fun e w' => e = .returned .nilIface ∧ Blk w' fb 43 #[.int .i64 x.lv, .int .u64 (u x.c), .int .i64 x.ig, .int .i64 h.lv, .int .u64 (u h.c), .int .i64 h.ig] ∧ Turns (· = fb) w w') := by
  have H0 := Lib.hid h0
  clear h0
  have H2 := Lib.hid h2
  clear h2
  have HH := Lib.hid hh
  clear hh
  have B0 := Lib.hid hf
  clear hf
  have HB := Lib.hid (Below.refl w.heap.size w)
  go_enter Tryd.func30, Tryd.ntmps30
  go_upto_region 1 with fail
  go_cut [5, 6] (fun s5 s6 wx => ∃ g3 : Nat, s5 = .pointer (some ⟨g3, 0, none⟩) ∧ s6 = .int .i64 0 ∧ Blk wx (g3) 24 #[.int .i64 x.lv, .int .u64 (u x.c), .int .i64 x.ig] ∧ Blk wx (fb) 43 #[.int .i64 f.lv, .int .u64 (u f.c), .int .i64 f.ig, .int .i64 h.lv, .int .u64 (u h.c), .int .i64 h.ig] ∧ Blk wx (w.heap.size) 24 #[.int .i64 a.lv, .int .u64 (u a.c), .int .i64 a.ig] ∧ Below w.heap.size w wx ∧ fb ≠ g3 ∧ w.heap.size ≠ g3 ∧ w.heap.size ≤ g3)
  case first =>
    refine wp_region_gen (S := (fun W' => Blk W' (fb) 43 #[.int .i64 f.lv, .int .u64 (u f.c), .int .i64 f.ig, .int .i64 h.lv, .int .u64 (u h.c), .int .i64 h.ig] ∧ Blk W' (w.heap.size) 24 #[.int .i64 a.lv, .int .u64 (u a.c), .int .i64 a.ig] ∧ Below w.heap.size w W')) (by kernel_rfl) ⟨(by repeat (first | exact B0.out | exact Blk.new' (by simp; done) | exact Blk.new' rfl | refine Blk.drew ?_ | refine Blk.alloc ?_ _)), (by repeat (first | exact Blk.new' (by simp; done) | exact Blk.new' rfl | refine Blk.drew ?_ | refine Blk.alloc ?_ _)), (by repeat (first | exact HB.out | refine below_alloc ?_ _ | refine Below.drew ?_ | refine below_set ?_ (by omega) _))⟩ (fun w1 hS => ?_)
    refine wpAnyH_take (i := 0) (v := ?_) (op_at rfl) (by kernel_rfl) (by kernel_rfl) (by kernel_rfl) (fun _ _ _ h => h) (Or.inl ⟨by rfl, ?_⟩) hS ?_; rotate_left; focus ((intro w' hSw; clear hSw; go_simp) <;> with_reducible rfl)
    try simp only [Act.put, List.setIfInBounds_toArray, List.set_cons_zero, List.set_cons_succ]
    refine wpAnyH_take (i := 1) (v := ?_) (op_at rfl) (by kernel_rfl) (by kernel_rfl) (by kernel_rfl) (fun _ _ _ h => h) (Or.inl ⟨by rfl, ?_⟩) hS ?_; rotate_left; focus ((intro w' hSw; clear hSw; go_simp) <;> with_reducible rfl)
    try simp only [Act.put, List.setIfInBounds_toArray, List.set_cons_zero, List.set_cons_succ]
    refine wpAnyH_take (i := 2) (v := ?_) (op_at rfl) (by kernel_rfl) (by kernel_rfl) (by kernel_rfl) (fun _ _ _ h => h) (Or.inl ⟨by rfl, ?_⟩) hS ?_; rotate_left; focus ((intro w' hSw; clear hSw; go_simp) <;> with_reducible rfl)
    try simp only [Act.put, List.setIfInBounds_toArray, List.set_cons_zero, List.set_cons_succ]
    refine wpAnyH_take (i := 3) (v := ?_) (op_at rfl) (by kernel_rfl) (by kernel_rfl) (by kernel_rfl) (fun _ _ _ h => h) (Or.inl ⟨by rfl, ?_⟩) hS ?_; rotate_left; focus ((intro w' hSw; obtain ⟨q, -⟩ := hSw; have c0 := q.at_ (i := 0) (v := .int .i64 f.lv) rfl; have c1 := q.at_ (i := 1) (v := .int .u64 (u f.c)) rfl; have c2 := q.at_ (i := 2) (v := .int .i64 f.ig) rfl; clear q; go_simp) <;> with_reducible rfl)
    try simp only [Act.put, List.setIfInBounds_toArray, List.set_cons_zero, List.set_cons_succ]
    refine wpAnyH_take (i := 4) (v := ?_) (op_at rfl) (by kernel_rfl) (by kernel_rfl) (by kernel_rfl) (fun _ _ _ h => h) (Or.inl ⟨by rfl, ?_⟩) hS ?_; rotate_left; focus ((intro w' hSw; obtain ⟨-, q, -⟩ := hSw; have c0 := q.at_ (i := 0) (v := .int .i64 a.lv) rfl; have c1 := q.at_ (i := 1) (v := .int .u64 (u a.c)) rfl; have c2 := q.at_ (i := 2) (v := .int .i64 a.ig) rfl; clear q; go_simp) <;> with_reducible rfl)
    try simp only [Act.put, List.setIfInBounds_toArray, List.set_cons_zero, List.set_cons_succ]
    refine wpAnyH_ready (rs := [5, 9]) (by kernel_rfl) (by simp) ?_
    refine (AllReadyH.cons (op_at rfl) (fun K hK => ?_) (AllReadyH.cons (op_at rfl) (fun K hK => ?_) AllReadyH.nil))
    ·
      go_simp
      obtain ⟨b0, b1, hb⟩ := hS
      refine (H0.out _ (HH.out.up hb).h).mono ?_
      rintro e w2 ⟨rfl, hB⟩
      refine hK.out _ _ ⟨b0.after hB, b1.after hB, below_call hb hB⟩ (fun hS => ?_)
      clear hK K hB b0 b1 hb
      try simp only [Act.put, List.setIfInBounds_toArray, List.set_cons_zero, List.set_cons_succ]
      refine wpAnyH_take (i := 6) (v := ?_) (op_at rfl) (by kernel_rfl) (by kernel_rfl) (by kernel_rfl) (fun _ _ _ h => h) (Or.inl ⟨by rfl, ?_⟩) hS ?_; rotate_left; focus ((intro w' hSw; clear hSw; go_simp) <;> with_reducible rfl)
      try simp only [Act.put, List.setIfInBounds_toArray, List.set_cons_zero, List.set_cons_succ]
      refine wpAnyH_take (i := 7) (v := ?_) (op_at rfl) (by kernel_rfl) (by kernel_rfl) (by kernel_rfl) (fun _ _ _ h => h) (Or.inl ⟨by rfl, ?_⟩) hS ?_; rotate_left; focus ((intro w' hSw; clear hSw; go_simp) <;> with_reducible rfl)
      try simp only [Act.put, List.setIfInBounds_toArray, List.set_cons_zero, List.set_cons_succ]
      refine wpAnyH_take (i := 8) (v := ?_) (op_at rfl) (by kernel_rfl) (by kernel_rfl) (by kernel_rfl) (fun _ _ _ h => h) (Or.inl ⟨by rfl, ?_⟩) hS ?_; rotate_left; focus ((intro w' hSw; clear hSw; go_simp) <;> with_reducible rfl)
      try simp only [Act.put, List.setIfInBounds_toArray, List.set_cons_zero, List.set_cons_succ]
      refine wpAnyH_ready (rs := [9]) (by kernel_rfl) (by simp) ?_
      refine (AllReadyH.cons (op_at rfl) (fun K hK => ?_) AllReadyH.nil)
      go_simp
      obtain ⟨b0, b1, hb⟩ := hS
      have N0 : Hid (Blk (w2.alloc (.cells #[.int .i64 0, .int .u64 0, .int .i64 0] 24)) w2.heap.size 24 #[.int .i64 0, .int .u64 0, .int .i64 0]) := Lib.hid (Blk.new' rfl)
      have d0_N0 : fb ≠ w2.heap.size := Nat.ne_of_lt b0.lt
      have d1_N0 : w.heap.size ≠ w2.heap.size := Nat.ne_of_lt b1.lt
      have dd_N0 : w.heap.size ≤ w2.heap.size := hb.size
      refine hK.out _ _ ⟨b0.alloc _, b1.alloc _, below_alloc hb _⟩ (fun hS => ?_)
      clear hK K b0 b1 hb
      try simp only [Act.put, List.setIfInBounds_toArray, List.set_cons_zero, List.set_cons_succ]
      refine wpAnyH_ready (rs := [10]) (by kernel_rfl) (by simp) ?_
      refine (AllReadyH.cons (op_at rfl) (fun K hK => ?_) AllReadyH.nil)
      go_simp
      obtain ⟨b0, b1, hb⟩ := hS
      refine hK.out _ _ ⟨(Blk.realloc b0 d0_N0), (Blk.realloc b1 d1_N0), (below_realloc hb dd_N0)⟩ (fun hS => ?_)
      replace N0 : Hid (Blk (w2.alloc (.cells #[.int .i64 x.lv, .int .u64 (u x.c), .int .i64 x.ig] 24)) w2.heap.size 24 #[.int .i64 x.lv, .int .u64 (u x.c), .int .i64 x.ig]) := Lib.hid (Blk.new' rfl)
      clear hK K b0 b1 hb
      try simp only [Act.put, List.setIfInBounds_toArray, List.set_cons_zero, List.set_cons_succ]
      refine wpAnyH_take (i := 11) (v := ?_) (op_at rfl) (by kernel_rfl) (by kernel_rfl) (by kernel_rfl) (fun _ _ _ h => h) (Or.inl ⟨by rfl, ?_⟩) hS ?_; rotate_left; focus ((intro w' hSw; clear hSw; go_simp) <;> with_reducible rfl)
      try simp only [Act.put, List.setIfInBounds_toArray, List.set_cons_zero, List.set_cons_succ]
      refine wpAnyH_done (by kernel_rfl) ?_ _
      obtain ⟨b0, b1, hb⟩ := hS
      go_wp2_with fail
      go_meet
      exact ⟨_, rfl, rfl, N0.out, b0, b1, hb, d0_N0, d1_N0, dd_N0⟩
    ·
      go_simp
      obtain ⟨b0, b1, hb⟩ := hS
      have N0 : Hid (Blk (w1.alloc (.cells #[.int .i64 0, .int .u64 0, .int .i64 0] 24)) w1.heap.size 24 #[.int .i64 0, .int .u64 0, .int .i64 0]) := Lib.hid (Blk.new' rfl)
      have d0_N0 : fb ≠ w1.heap.size := Nat.ne_of_lt b0.lt
      have d1_N0 : w.heap.size ≠ w1.heap.size := Nat.ne_of_lt b1.lt
      have dd_N0 : w.heap.size ≤ w1.heap.size := hb.size
      refine hK.out _ _ ⟨b0.alloc _, b1.alloc _, below_alloc hb _⟩ (fun hS => ?_)
      clear hK K b0 b1 hb
      try simp only [Act.put, List.setIfInBounds_toArray, List.set_cons_zero, List.set_cons_succ]
      refine wpAnyH_ready (rs := [5]) (by kernel_rfl) (by simp) ?_
      refine (AllReadyH.cons (op_at rfl) (fun K hK => ?_) AllReadyH.nil)
      go_simp
      obtain ⟨b0, b1, hb⟩ := hS
      refine (H0.out _ (HH.out.up hb).h).mono ?_
      rintro e w3 ⟨rfl, hB⟩
      replace N0 := Lib.hid (N0.out.after hB)
      refine hK.out _ _ ⟨b0.after hB, b1.after hB, below_call hb hB⟩ (fun hS => ?_)
      clear hK K hB b0 b1 hb
      try simp only [Act.put, List.setIfInBounds_toArray, List.set_cons_zero, List.set_cons_succ]
      refine wpAnyH_take (i := 6) (v := ?_) (op_at rfl) (by kernel_rfl) (by kernel_rfl) (by kernel_rfl) (fun _ _ _ h => h) (Or.inl ⟨by rfl, ?_⟩) hS ?_; rotate_left; focus ((intro w' hSw; clear hSw; go_simp) <;> with_reducible rfl)
      try simp only [Act.put, List.setIfInBounds_toArray, List.set_cons_zero, List.set_cons_succ]
      refine wpAnyH_take (i := 7) (v := ?_) (op_at rfl) (by kernel_rfl) (by kernel_rfl) (by kernel_rfl) (fun _ _ _ h => h) (Or.inl ⟨by rfl, ?_⟩) hS ?_; rotate_left; focus ((intro w' hSw; clear hSw; go_simp) <;> with_reducible rfl)
      try simp only [Act.put, List.setIfInBounds_toArray, List.set_cons_zero, List.set_cons_succ]
      refine wpAnyH_take (i := 8) (v := ?_) (op_at rfl) (by kernel_rfl) (by kernel_rfl) (by kernel_rfl) (fun _ _ _ h => h) (Or.inl ⟨by rfl, ?_⟩) hS ?_; rotate_left; focus ((intro w' hSw; clear hSw; go_simp) <;> with_reducible rfl)
      try simp only [Act.put, List.setIfInBounds_toArray, List.set_cons_zero, List.set_cons_succ]
      refine wpAnyH_ready (rs := [10]) (by kernel_rfl) (by simp) ?_
      refine (AllReadyH.cons (op_at rfl) (fun K hK => ?_) AllReadyH.nil)
      have p_0 := N0.out.at_ (i := 0) (v := .int .i64 0) rfl
      have f_0 := N0.out.frozen 0
      have p_1 := N0.out.at_ (i := 1) (v := .int .u64 0) rfl
      have f_1 := N0.out.frozen 1
      have p_2 := N0.out.at_ (i := 2) (v := .int .i64 0) rfl
      have f_2 := N0.out.frozen 2
      go_simp
      clear p_0 f_0 p_1 f_1 p_2 f_2
      obtain ⟨b0, b1, hb⟩ := hS
      refine hK.out _ _ ⟨(Blk.far (Blk.far (Blk.far b0 d0_N0 _) d0_N0 _) d0_N0 _), (Blk.far (Blk.far (Blk.far b1 d1_N0 _) d1_N0 _) d1_N0 _), (below_set (below_set (below_set hb dd_N0 _) dd_N0 _) dd_N0 _)⟩ (fun hS => ?_)
      replace N0 := Lib.hid (Blk.set' (u := .int .i64 x.ig) (i := 2) (cs' := #[.int .i64 x.lv, .int .u64 (u x.c), .int .i64 x.ig]) (Blk.set' (u := .int .u64 (u x.c)) (i := 1) (cs' := #[.int .i64 x.lv, .int .u64 (u x.c), .int .i64 0]) (Blk.set' (u := .int .i64 x.lv) (i := 0) (cs' := #[.int .i64 x.lv, .int .u64 0, .int .i64 0]) N0.out rfl) rfl) rfl)
      clear hK K b0 b1 hb
      try simp only [Act.put, List.setIfInBounds_toArray, List.set_cons_zero, List.set_cons_succ]
      refine wpAnyH_take (i := 11) (v := ?_) (op_at rfl) (by kernel_rfl) (by kernel_rfl) (by kernel_rfl) (fun _ _ _ h => h) (Or.inl ⟨by rfl, ?_⟩) hS ?_; rotate_left; focus ((intro w' hSw; clear hSw; go_simp) <;> with_reducible rfl)
      try simp only [Act.put, List.setIfInBounds_toArray, List.set_cons_zero, List.set_cons_succ]
      refine wpAnyH_done (by kernel_rfl) ?_ _
      obtain ⟨b0, b1, hb⟩ := hS
      go_wp2_with fail
      go_meet
      exact ⟨_, rfl, rfl, N0.out, b0, b1, hb, d0_N0, d1_N0, dd_N0⟩
  case rest =>
    obtain ⟨g3, rfl, rfl, hn, h_0, h_1, hb, e0_g3, e1_g3, ee_g3⟩ := hcut
    replace B0 := Lib.hid h_0
    clear h_0
    replace B1 := Lib.hid h_1
    clear h_1
    have B2 := Lib.hid hn
    clear hn
    replace HB := Lib.hid hb
    clear hb
    go_wp2_with fail
    refine wp_region_gen (S := (fun W' => Blk W' (fb) 43 #[.int .i64 f.lv, .int .u64 (u f.c), .int .i64 f.ig, .int .i64 h.lv, .int .u64 (u h.c), .int .i64 h.ig] ∧ Blk W' (w.heap.size) 24 #[.int .i64 a.lv, .int .u64 (u a.c), .int .i64 a.ig] ∧ Blk W' (g3) 24 #[.int .i64 x.lv, .int .u64 (u x.c), .int .i64 x.ig] ∧ Below w.heap.size w W')) (by kernel_rfl) ⟨(by repeat (first | exact B0.out | exact Blk.new' (by simp; done) | exact Blk.new' rfl | refine Blk.drew ?_ | refine Blk.alloc ?_ _)), (by repeat (first | exact B1.out | exact Blk.new' (by simp; done) | exact Blk.new' rfl | refine Blk.drew ?_ | refine Blk.alloc ?_ _)), (by repeat (first | exact B2.out | exact Blk.new' (by simp; done) | exact Blk.new' rfl | refine Blk.drew ?_ | refine Blk.alloc ?_ _)), (by repeat (first | exact HB.out | refine below_alloc ?_ _ | refine Below.drew ?_ | refine below_set ?_ (by omega) _))⟩ (fun w4 hS => ?_)
    refine wpAnyH_take (i := 0) (v := ?_) (op_at rfl) (by kernel_rfl) (by kernel_rfl) (by kernel_rfl) (fun _ _ _ h => h) (Or.inl ⟨by rfl, ?_⟩) hS ?_; rotate_left; focus ((intro w' hSw; obtain ⟨-, -, q, -⟩ := hSw; have c0 := q.at_ (i := 0) (v := .int .i64 x.lv) rfl; have c1 := q.at_ (i := 1) (v := .int .u64 (u x.c)) rfl; have c2 := q.at_ (i := 2) (v := .int .i64 x.ig) rfl; clear q; go_simp) <;> with_reducible rfl)
    try simp only [Act.put, List.setIfInBounds_toArray, List.set_cons_zero, List.set_cons_succ]
    refine wpAnyH_take (i := 1) (v := ?_) (op_at rfl) (by kernel_rfl) (by kernel_rfl) (by kernel_rfl) (fun _ _ _ h => h) (Or.inl ⟨by rfl, ?_⟩) hS ?_; rotate_left; focus ((intro w' hSw; clear hSw; go_simp) <;> with_reducible rfl)
    try simp only [Act.put, List.setIfInBounds_toArray, List.set_cons_zero, List.set_cons_succ]
    refine wpAnyH_take (i := 2) (v := ?_) (op_at rfl) (by kernel_rfl) (by kernel_rfl) (by kernel_rfl) (fun _ _ _ h => h) (Or.inl ⟨by rfl, ?_⟩) hS ?_; rotate_left; focus ((intro w' hSw; clear hSw; go_simp) <;> with_reducible rfl)
    try simp only [Act.put, List.setIfInBounds_toArray, List.set_cons_zero, List.set_cons_succ]
    refine wpAnyH_take (i := 3) (v := ?_) (op_at rfl) (by kernel_rfl) (by kernel_rfl) (by kernel_rfl) (fun _ _ _ h => h) (Or.inl ⟨by rfl, ?_⟩) hS ?_; rotate_left; focus ((intro w' hSw; clear hSw; go_simp) <;> with_reducible rfl)
    try simp only [Act.put, List.setIfInBounds_toArray, List.set_cons_zero, List.set_cons_succ]
    refine wpAnyH_take (i := 4) (v := ?_) (op_at rfl) (by kernel_rfl) (by kernel_rfl) (by kernel_rfl) (fun _ _ _ h => h) (Or.inl ⟨by rfl, ?_⟩) hS ?_; rotate_left; focus ((intro w' hSw; obtain ⟨q, -⟩ := hSw; have c3 := q.at_ (i := 3) (v := .int .i64 h.lv) rfl; have c4 := q.at_ (i := 4) (v := .int .u64 (u h.c)) rfl; have c5 := q.at_ (i := 5) (v := .int .i64 h.ig) rfl; clear q; go_simp) <;> with_reducible rfl)
    try simp only [Act.put, List.setIfInBounds_toArray, List.set_cons_zero, List.set_cons_succ]
    refine wpAnyH_take (i := 5) (v := ?_) (op_at rfl) (by kernel_rfl) (by kernel_rfl) (by kernel_rfl) (fun _ _ _ h => h) (Or.inl ⟨by rfl, ?_⟩) hS ?_; rotate_left; focus ((intro w' hSw; clear hSw; go_simp) <;> with_reducible rfl)
    try simp only [Act.put, List.setIfInBounds_toArray, List.set_cons_zero, List.set_cons_succ]
    refine wpAnyH_take (i := 6) (v := ?_) (op_at rfl) (by kernel_rfl) (by kernel_rfl) (by kernel_rfl) (fun _ _ _ h => h) (Or.inl ⟨by rfl, ?_⟩) hS ?_; rotate_left; focus ((intro w' hSw; clear hSw; go_simp) <;> with_reducible rfl)
    try simp only [Act.put, List.setIfInBounds_toArray, List.set_cons_zero, List.set_cons_succ]
    refine wpAnyH_take (i := 7) (v := ?_) (op_at rfl) (by kernel_rfl) (by kernel_rfl) (by kernel_rfl) (fun _ _ _ h => h) (Or.inl ⟨by rfl, ?_⟩) hS ?_; rotate_left; focus ((intro w' hSw; obtain ⟨-, -, q, -⟩ := hSw; have c0 := q.at_ (i := 0) (v := .int .i64 x.lv) rfl; have c1 := q.at_ (i := 1) (v := .int .u64 (u x.c)) rfl; have c2 := q.at_ (i := 2) (v := .int .i64 x.ig) rfl; clear q; go_simp) <;> with_reducible rfl)
    try simp only [Act.put, List.setIfInBounds_toArray, List.set_cons_zero, List.set_cons_succ]
    refine wpAnyH_take (i := 8) (v := ?_) (op_at rfl) (by kernel_rfl) (by kernel_rfl) (by kernel_rfl) (fun _ _ _ h => h) (Or.inl ⟨by rfl, ?_⟩) hS ?_; rotate_left; focus ((intro w' hSw; clear hSw; go_simp) <;> with_reducible rfl)
    try simp only [Act.put, List.setIfInBounds_toArray, List.set_cons_zero, List.set_cons_succ]
    refine wpAnyH_take (i := 9) (v := ?_) (op_at rfl) (by kernel_rfl) (by kernel_rfl) (by kernel_rfl) (fun _ _ _ h => h) (Or.inl ⟨by rfl, ?_⟩) hS ?_; rotate_left; focus ((intro w' hSw; clear hSw; go_simp) <;> with_reducible rfl)
    try simp only [Act.put, List.setIfInBounds_toArray, List.set_cons_zero, List.set_cons_succ]
    refine wpAnyH_take (i := 10) (v := ?_) (op_at rfl) (by kernel_rfl) (by kernel_rfl) (by kernel_rfl) (fun _ _ _ h => h) (Or.inl ⟨by rfl, ?_⟩) hS ?_; rotate_left; focus ((intro w' hSw; clear hSw; go_simp) <;> with_reducible rfl)
    try simp only [Act.put, List.setIfInBounds_toArray, List.set_cons_zero, List.set_cons_succ]
    refine wpAnyH_take (i := 11) (v := ?_) (op_at rfl) (by kernel_rfl) (by kernel_rfl) (by kernel_rfl) (fun _ _ _ h => h) (Or.inl ⟨by rfl, ?_⟩) hS ?_; rotate_left; focus ((intro w' hSw; obtain ⟨q, -⟩ := hSw; have c3 := q.at_ (i := 3) (v := .int .i64 h.lv) rfl; have c4 := q.at_ (i := 4) (v := .int .u64 (u h.c)) rfl; have c5 := q.at_ (i := 5) (v := .int .i64 h.ig) rfl; clear q; go_simp) <;> with_reducible rfl)
    try simp only [Act.put, List.setIfInBounds_toArray, List.set_cons_zero, List.set_cons_succ]
    refine wpAnyH_ready (rs := [12]) (by kernel_rfl) (by simp) ?_
    refine (AllReadyH.cons (op_at rfl) (fun K hK => ?_) AllReadyH.nil)
    go_simp
    obtain ⟨b0, b1, b2, hb⟩ := hS
    refine (H2.out _).mono ?_
    rintro e w5 ⟨rfl, hB⟩
    refine hK.out _ _ ⟨b0.after hB, b1.after hB, b2.after hB, below_call hb hB⟩ (fun hS => ?_)
    clear hK K hB b0 b1 b2 hb
    try simp only [Act.put, List.setIfInBounds_toArray, List.set_cons_zero, List.set_cons_succ]
    refine wpAnyH_take (i := 13) (v := ?_) (op_at rfl) (by kernel_rfl) (by kernel_rfl) (by kernel_rfl) (fun _ _ _ h => h) (Or.inl ⟨by rfl, ?_⟩) hS ?_; rotate_left; focus ((intro w' hSw; clear hSw; go_simp) <;> with_reducible rfl)
    try simp only [Act.put, List.setIfInBounds_toArray, List.set_cons_zero, List.set_cons_succ]
    refine wpAnyH_take (i := 14) (v := ?_) (op_at rfl) (by kernel_rfl) (by kernel_rfl) (by kernel_rfl) (fun _ _ _ h => h) (Or.inl ⟨by rfl, ?_⟩) hS ?_; rotate_left; focus ((intro w' hSw; clear hSw; go_simp) <;> with_reducible rfl)
    try simp only [Act.put, List.setIfInBounds_toArray, List.set_cons_zero, List.set_cons_succ]
    refine wpAnyH_done (by kernel_rfl) ?_ _
    obtain ⟨b0, b1, b2, hb⟩ := hS
    replace B0 := Lib.hid b0
    clear b0
    replace B1 := Lib.hid b1
    clear b1
    replace B2 := Lib.hid b2
    clear b2
    replace HB := Lib.hid hb
    clear hb
    have p0_0 := B0.out.at_ (i := 0) (v := .int .i64 f.lv) rfl
    have p0_1 := B0.out.at_ (i := 1) (v := .int .u64 (u f.c)) rfl
    have p0_2 := B0.out.at_ (i := 2) (v := .int .i64 f.ig) rfl
    have f0_0 := B0.out.frozen 0
    have f0_1 := B0.out.frozen 1
    have f0_2 := B0.out.frozen 2
    have k0_0 : fb < w5.heap.size := by have := B0.out.lt; omega
    have p2_0 := B2.out.at_ (i := 0) (v := .int .i64 x.lv) rfl
    have p2_1 := B2.out.at_ (i := 1) (v := .int .u64 (u x.c)) rfl
    have p2_2 := B2.out.at_ (i := 2) (v := .int .i64 x.ig) rfl
    have k2_0 : g3 < w5.heap.size := by have := B2.out.lt; omega
    go_wp2_with fail
    go_ret
    exact ⟨rfl, (Blk.set' (u := .int .i64 x.ig) (i := 2) (cs' := #[.int .i64 x.lv, .int .u64 (u x.c), .int .i64 x.ig, .int .i64 h.lv, .int .u64 (u h.c), .int .i64 h.ig]) (Blk.set' (u := .int .u64 (u x.c)) (i := 1) (cs' := #[.int .i64 x.lv, .int .u64 (u x.c), .int .i64 f.ig, .int .i64 h.lv, .int .u64 (u h.c), .int .i64 h.ig]) (Blk.set' (u := .int .i64 x.lv) (i := 0) (cs' := #[.int .i64 x.lv, .int .u64 (u f.c), .int .i64 f.ig, .int .i64 h.lv, .int .u64 (u h.c), .int .i64 h.ig]) B0.out rfl) rfl) rfl), (((Turns.of_below (T := (· = fb)) HB.out).setCell (p := ⟨fb, 0, none⟩) rfl _).setCell (p := ⟨fb, 1, none⟩) rfl _).setCell (p := ⟨fb, 2, none⟩) rfl _⟩
/-- what floater.to does -/
def ToPost (f h a : Lab) (sa : Addr) (fb : Nat) (w : World) (e : Ending) (w' : World) : Prop :=
  e = .returned (if le3 (joinL f a) h = true then .nilIface else stopV (.iface 109 (.pointer (some sa))) a) ∧
    Blk w' fb 43 #[.int .i64 (if le3 (joinL f a) h = true then joinL f a else f).lv, .int .u64 (u (if le3 (joinL f a) h = true then joinL f a else f).c), .int .i64 (if le3 (joinL f a) h = true then joinL f a else f).ig, .int .i64 h.lv, .int .u64 (u h.c), .int .i64 h.ig] ∧ Turns (· = fb) w w'
theorem to_any (f h a : Lab) (sa : Addr) (fb : Nat) (w : World) (hh : Env sa w) (hf : Blk w fb 43 #[.int .i64 f.lv, .int .u64 (u f.c), .int .i64 f.ig, .int .i64 h.lv, .int .u64 (u h.c), .int .i64 h.ig]) (of : okL f = true) (oh : okL h = true) (oa : okL a = true) :
    Calls Tryd.prog 30 #[.pointer (some ⟨fb, 0, none⟩), .agg #[.int .i64 a.lv, .int .u64 (u a.c), .int .i64 a.ig]] w (ToPost f h a sa fb w) := by
  unfold ToPost
  have h0 := joinIs of oa
  have ox := okL_join of oa
  by_cases hl : le3 (joinL f a) h = true
  · rw [if_pos hl, if_pos hl]
    by_cases he : eqL (joinL f a) h = true
    · exact (to_same f h a _ sa fb w hh hf h0 (neqIs (by rw [he]; rfl))).mono fun e w' hp => hp
    · exact (to_under f h a _ sa fb w hh hf h0 (neqIs (by rw [nbool he]; rfl)) (underIs (underL_iff.2 ⟨ox, oh, hl⟩))).mono fun e w' hp => hp
  · rw [if_neg hl, if_neg hl]
    have he : eqL (joinL f a) h = false := nbool fun k => hl (by rw [eqL_iff.1 k]; exact le3_self h)
    refine (to_high f h a _ sa fb w hh hf h0 (neqIs (by rw [he]; rfl)) (underIs (nbool fun k => hl (underL_iff.1 k).2.2))).mono fun e w' hp => ⟨hp.1, hf.after hp.2, Turns.of_below hp.2⟩
end Go.Proofs.YtmbafllkiofhnaaDoor
