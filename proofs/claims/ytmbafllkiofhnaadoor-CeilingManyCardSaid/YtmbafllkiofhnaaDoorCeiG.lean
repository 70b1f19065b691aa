/-
  THE WALKS OF THE STATEMENTS on ceilings without lists: shown, CeilingFloats, CeilingRises, CeilingFlows, CeilingSends, CeilingGains (printed by wip/genceil.py).
-/
import Derived.Test.YtmbafllkiofhnaaDoorCeiE
import Derived.Test.YtmbafllkiofhnaaDoorClose
namespace Go.Proofs.YtmbafllkiofhnaaDoor
open Go.RowKit

attribute [local go_sem] u_and u_or u_andNot u_add u_sub u_bit u_eq_zero u_beq

def FloatIs (sa : Addr) (cur a high x : Lab) (n : Int) : Prop := ∀ W, Env sa W → Calls Tryd.prog 12 #[.agg #[.int .i64 cur.lv, .int .u64 (u cur.c), .int .i64 cur.ig], .agg #[.int .i64 a.lv, .int .u64 (u a.c), .int .i64 a.ig], .agg #[.int .i64 high.lv, .int .u64 (u high.c), .int .i64 high.ig]] W fun e w' => e = .returned (.tuple #[.agg #[.int .i64 x.lv, .int .u64 (u x.c), .int .i64 x.ig], .int .i64 n]) ∧ Below W.heap.size W w'
def SendIs (sa : Addr) (cur a : Lab) (r : Bool) (n : Int) : Prop := ∀ W, Env sa W → Calls Tryd.prog 15 #[.agg #[.int .i64 cur.lv, .int .u64 (u cur.c), .int .i64 cur.ig], .agg #[.int .i64 a.lv, .int .u64 (u a.c), .int .i64 a.ig]] W fun e w' => e = .returned (.tuple #[.bool r, .int .i64 n]) ∧ Below W.heap.size W w'
def GainIs (sa : Addr) (cur a x : Lab) (n : Int) : Prop := ∀ W, Env sa W → Calls Tryd.prog 19 #[.agg #[.int .i64 cur.lv, .int .u64 (u cur.c), .int .i64 cur.ig], .agg #[.int .i64 a.lv, .int .u64 (u a.c), .int .i64 a.ig]] W fun e w' => e = .returned (.tuple #[.agg #[.int .i64 x.lv, .int .u64 (u x.c), .int .i64 x.ig], .int .i64 n]) ∧ Below W.heap.size W w'
def ReadsIs (cur a : Lab) (r : Bool) : Prop := ∀ W, Calls Tryd.prog 14 #[.agg #[.int .i64 cur.lv, .int .u64 (u cur.c), .int .i64 cur.ig], .agg #[.int .i64 a.lv, .int .u64 (u a.c), .int .i64 a.ig]] W fun e w' => e = .returned (.bool r) ∧ Below W.heap.size W w'
def RFloatIs (cur a high x : Lab) (n : Int) : Prop := ∀ W, Calls Tryd.prog 17 #[.agg #[.int .i64 cur.lv, .int .u64 (u cur.c), .int .i64 cur.ig], .agg #[.int .i64 a.lv, .int .u64 (u a.c), .int .i64 a.ig], .agg #[.int .i64 high.lv, .int .u64 (u high.c), .int .i64 high.ig]] W fun e w' => e = .returned (.tuple #[.agg #[.int .i64 x.lv, .int .u64 (u x.c), .int .i64 x.ig], .int .i64 n]) ∧ Below W.heap.size W w'
def RSendIs (cur a : Lab) (r : Bool) (n : Int) : Prop := ∀ W, Calls Tryd.prog 18 #[.agg #[.int .i64 cur.lv, .int .u64 (u cur.c), .int .i64 cur.ig], .agg #[.int .i64 a.lv, .int .u64 (u a.c), .int .i64 a.ig]] W fun e w' => e = .returned (.tuple #[.bool r, .int .i64 n]) ∧ Below W.heap.size W w'
def RGainIs (cur a x : Lab) (n : Int) : Prop := ∀ W, Calls Tryd.prog 20 #[.agg #[.int .i64 cur.lv, .int .u64 (u cur.c), .int .i64 cur.ig], .agg #[.int .i64 a.lv, .int .u64 (u a.c), .int .i64 a.ig]] W fun e w' => e = .returned (.tuple #[.agg #[.int .i64 x.lv, .int .u64 (u x.c), .int .i64 x.ig], .int .i64 n]) ∧ Below W.heap.size W w'
def RReadsIs (cur a : Lab) (r : Bool) : Prop := ∀ W, Calls Tryd.prog 21 #[.agg #[.int .i64 cur.lv, .int .u64 (u cur.c), .int .i64 cur.ig], .agg #[.int .i64 a.lv, .int .u64 (u a.c), .int .i64 a.ig]] W fun e w' => e = .returned (.bool r) ∧ Below W.heap.size W w'
def RWritesIs (cur a : Lab) (r : Bool) : Prop := ∀ W, Calls Tryd.prog 22 #[.agg #[.int .i64 cur.lv, .int .u64 (u cur.c), .int .i64 cur.ig], .agg #[.int .i64 a.lv, .int .u64 (u a.c), .int .i64 a.ig]] W fun e w' => e = .returned (.bool r) ∧ Below W.heap.size W w'
theorem floatIs {sa : Addr} {cur a high x : Lab} {n : Int} (hx : floatL cur a high = x) (hn : floatE cur a high = n) : FloatIs sa cur a high x n := fun W hW => by subst hx hn; exact Float_any cur a high sa W hW
theorem sendIs {sa : Addr} {cur a : Lab} {r : Bool} {n : Int} (hx : sendB cur a = r) (hn : sendE cur a = n) : SendIs sa cur a r n := fun W hW => by subst hx hn; exact Send_any cur a sa W hW
theorem gainIs {sa : Addr} {cur a x : Lab} {n : Int} (hx : gainL cur a = x) (hn : gainE cur a = n) : GainIs sa cur a x n := fun W hW => by subst hx hn; exact Gain_any cur a sa W hW
theorem readsIs {cur a : Lab} {r : Bool} (h : underL a cur = r) : ReadsIs cur a r := fun W => by subst h; exact Reads_any cur a W
theorem writesIs {cur a : Lab} {r : Bool} (h : writesL cur a = r) : WritesIs cur a r := fun W => by subst h; exact Writes_any cur a W
theorem less_all (W : World) : Calls Tryd.prog 37 #[.int .u64 18446744073709551615, .int .u64 0] W fun e w' => e = .returned (.int .u64 18446744073709551615) ∧ W = w' := by
  have h := less_any (BitVec.allOnes 64) 0#64 W
  rw [show u (BitVec.allOnes 64) = 18446744073709551615 by decide +kernel, show u 0#64 = 0 by decide +kernel, show u (BitVec.allOnes 64 &&& ~~~0#64) = 18446744073709551615 by decide +kernel] at h
  exact h
theorem Top_any (w : World) : Calls Tryd.prog 28 #[] w fun e w' => e = .returned (.agg #[.int .i64 15, .int .u64 18446744073709551615, .int .i64 0]) ∧ Below w.heap.size w w' := by
  go_enter Tryd.func28, Tryd.ntmps28
  go_wp2_with (go_at_call 37; refine (less_all _).mono ?_; rintro e w1 ⟨rfl, rfl⟩)
  go_returns
  exact ⟨rfl, by go_grown⟩
set_option maxRecDepth 100000 in
set_option maxHeartbeats 4000000 in
theorem shown_core (sa : Addr) (w : World) (hh : Env sa w) (h0 : ∀ W, Calls Tryd.prog 24 #[] W fun e w' => e = .returned (.agg #[.int .i64 0, .int .u64 0, .int .i64 7]) ∧ Below W.heap.size W w') (h1 : ∀ W, Env sa W → Calls Tryd.prog 12 #[.agg #[.int .i64 0, .int .u64 0, .int .i64 7], .agg #[.int .i64 2, .int .u64 1, .int .i64 5], .agg #[.int .i64 3, .int .u64 3, .int .i64 0]] W fun e w' => e = .returned (.tuple #[.agg #[.int .i64 2, .int .u64 1, .int .i64 5], .int .i64 0]) ∧ Below W.heap.size W w') (h2 : ∀ W, Calls Tryd.prog 28 #[] W fun e w' => e = .returned (.agg #[.int .i64 15, .int .u64 18446744073709551615, .int .i64 0]) ∧ Below W.heap.size W w') (h3 : ∀ W, Env sa W → Calls Tryd.prog 12 #[.agg #[.int .i64 0, .int .u64 0, .int .i64 7], .agg #[.int .i64 15, .int .u64 18446744073709551615, .int .i64 0], .agg #[.int .i64 3, .int .u64 3, .int .i64 0]] W fun e w' => e = .returned (.tuple #[.agg #[.int .i64 0, .int .u64 0, .int .i64 0], .int .i64 120]) ∧ Below W.heap.size W w') (h4 : ∀ W, Env sa W → Calls Tryd.prog 15 #[.agg #[.int .i64 0, .int .u64 0, .int .i64 7], .agg #[.int .i64 2, .int .u64 1, .int .i64 5]] W fun e w' => e = .returned (.tuple #[.bool true, .int .i64 0]) ∧ Below W.heap.size W w') (h5 : ∀ W, Env sa W → Calls Tryd.prog 15 #[.agg #[.int .i64 2, .int .u64 1, .int .i64 5], .agg #[.int .i64 0, .int .u64 0, .int .i64 7]] W fun e w' => e = .returned (.tuple #[.bool false, .int .i64 121]) ∧ Below W.heap.size W w') (h6 : ∀ W, Calls Tryd.prog 14 #[.agg #[.int .i64 2, .int .u64 1, .int .i64 5], .agg #[.int .i64 0, .int .u64 0, .int .i64 7]] W fun e w' => e = .returned (.bool true) ∧ Below W.heap.size W w') (h7 : ∀ W, Calls Tryd.prog 16 #[.agg #[.int .i64 2, .int .u64 1, .int .i64 5], .agg #[.int .i64 2, .int .u64 1, .int .i64 5]] W fun e w' => e = .returned (.bool true) ∧ Below W.heap.size W w') :
    Calls Tryd.prog 11 #[] w (fun e w' => e = .returned (.bool true) ∧ Below w.heap.size w w') := by
  have H0 := Lib.hid h0
  clear h0
  have H1 := Lib.hid h1
  clear h1
  have H2 := Lib.hid h2
  clear h2
  have H3 := Lib.hid h3
  clear h3
  have H4 := Lib.hid h4
  clear h4
  have H5 := Lib.hid h5
  clear h5
  have H6 := Lib.hid h6
  clear h6
  have H7 := Lib.hid h7
  clear h7
  have HH := Lib.hid hh
  clear hh
  have HB := Lib.hid (Below.refl w.heap.size w)
  go_enter Tryd.func11, Tryd.ntmps11
  go_upto_region 3 with fail
  go_cut [3, 4] (fun s3 s4 wx => ∃ g6 : Nat, s3 = .pointer (some ⟨g6, 0, none⟩) ∧ s4 = .int .i64 0 ∧ Blk wx (g6) 24 #[.int .i64 2, .int .u64 1, .int .i64 5] ∧ Blk wx (w.heap.size) 24 #[.int .i64 2, .int .u64 1, .int .i64 5] ∧ Blk wx (w.heap.size + 1) 24 #[.int .i64 3, .int .u64 3, .int .i64 0] ∧ Below w.heap.size w wx ∧ w.heap.size ≠ g6 ∧ w.heap.size + 1 ≠ g6 ∧ w.heap.size ≤ g6)
  case first =>
    refine wp_region_gen (S := (fun W' => Blk W' (w.heap.size) 24 #[.int .i64 2, .int .u64 1, .int .i64 5] ∧ Blk W' (w.heap.size + 1) 24 #[.int .i64 3, .int .u64 3, .int .i64 0] ∧ Below w.heap.size w W')) (by kernel_rfl) ⟨(by repeat (first | exact Blk.new' (by simp; done) | exact Blk.new' rfl | refine Blk.drew ?_ | refine Blk.alloc ?_ _)), (by repeat (first | exact Blk.new' (by simp; done) | exact Blk.new' rfl | refine Blk.drew ?_ | refine Blk.alloc ?_ _)), (by repeat (first | exact HB.out | refine below_alloc ?_ _ | refine Below.drew ?_ | refine below_set ?_ (by omega) _))⟩ (fun w1 hS => ?_)
    refine wpAnyH_take (i := 1) (v := ?_) (op_at rfl) (by kernel_rfl) (by kernel_rfl) (by kernel_rfl) (fun _ _ _ h => h) (Or.inl ⟨by rfl, ?_⟩) hS ?_; rotate_left; focus ((intro w' hSw; obtain ⟨q, -⟩ := hSw; have c0 := q.at_ (i := 0) (v := .int .i64 2) rfl; have c1 := q.at_ (i := 1) (v := .int .u64 1) rfl; have c2 := q.at_ (i := 2) (v := .int .i64 5) rfl; clear q; go_simp) <;> with_reducible rfl)
    try simp only [Act.put, List.setIfInBounds_toArray, List.set_cons_zero, List.set_cons_succ]
    refine wpAnyH_take (i := 2) (v := ?_) (op_at rfl) (by kernel_rfl) (by kernel_rfl) (by kernel_rfl) (fun _ _ _ h => h) (Or.inl ⟨by rfl, ?_⟩) hS ?_; rotate_left; focus ((intro w' hSw; obtain ⟨-, q, -⟩ := hSw; have c0 := q.at_ (i := 0) (v := .int .i64 3) rfl; have c1 := q.at_ (i := 1) (v := .int .u64 3) rfl; have c2 := q.at_ (i := 2) (v := .int .i64 0) rfl; clear q; go_simp) <;> with_reducible rfl)
    try simp only [Act.put, List.setIfInBounds_toArray, List.set_cons_zero, List.set_cons_succ]
    refine wpAnyH_ready (rs := [0, 7]) (by kernel_rfl) (by simp) ?_
    refine (AllReadyH.cons (op_at rfl) (fun K hK => ?_) (AllReadyH.cons (op_at rfl) (fun K hK => ?_) AllReadyH.nil))
    ·
      go_simp
      obtain ⟨b0, b1, hb⟩ := hS
      refine (H0.out _).mono ?_
      rintro e w2 ⟨rfl, hB⟩
      refine hK.out _ _ ⟨b0.after hB, b1.after hB, below_call hb hB⟩ (fun hS => ?_)
      clear hK K hB b0 b1 hb
      try simp only [Act.put, List.setIfInBounds_toArray, List.set_cons_zero, List.set_cons_succ]
      refine wpAnyH_ready (rs := [3, 7]) (by kernel_rfl) (by simp) ?_
      refine (AllReadyH.cons (op_at rfl) (fun K hK => ?_) (AllReadyH.cons (op_at rfl) (fun K hK => ?_) AllReadyH.nil))
      ·
        go_simp
        obtain ⟨b0, b1, hb⟩ := hS
        refine (H1.out _ (HH.out.up hb)).mono ?_
        rintro e w3 ⟨rfl, hB⟩
        refine hK.out _ _ ⟨b0.after hB, b1.after hB, below_call hb hB⟩ (fun hS => ?_)
        clear hK K hB b0 b1 hb
        try simp only [Act.put, List.setIfInBounds_toArray, List.set_cons_zero, List.set_cons_succ]
        refine wpAnyH_take (i := 4) (v := ?_) (op_at rfl) (by kernel_rfl) (by kernel_rfl) (by kernel_rfl) (fun _ _ _ h => h) (Or.inl ⟨by rfl, ?_⟩) hS ?_; rotate_left; focus ((intro w' hSw; clear hSw; go_simp) <;> with_reducible rfl)
        try simp only [Act.put, List.setIfInBounds_toArray, List.set_cons_zero, List.set_cons_succ]
        refine wpAnyH_take (i := 5) (v := ?_) (op_at rfl) (by kernel_rfl) (by kernel_rfl) (by kernel_rfl) (fun _ _ _ h => h) (Or.inl ⟨by rfl, ?_⟩) hS ?_; rotate_left; focus ((intro w' hSw; clear hSw; go_simp) <;> with_reducible rfl)
        try simp only [Act.put, List.setIfInBounds_toArray, List.set_cons_zero, List.set_cons_succ]
        refine wpAnyH_take (i := 6) (v := ?_) (op_at rfl) (by kernel_rfl) (by kernel_rfl) (by kernel_rfl) (fun _ _ _ h => h) (Or.inl ⟨by rfl, ?_⟩) hS ?_; rotate_left; focus ((intro w' hSw; clear hSw; go_simp) <;> with_reducible rfl)
        try simp only [Act.put, List.setIfInBounds_toArray, List.set_cons_zero, List.set_cons_succ]
        refine wpAnyH_ready (rs := [7]) (by kernel_rfl) (by simp) ?_
        refine (AllReadyH.cons (op_at rfl) (fun K hK => ?_) AllReadyH.nil)
        go_simp
        obtain ⟨b0, b1, hb⟩ := hS
        have N0 : Hid (Blk (w3.alloc (.cells #[.int .i64 0, .int .u64 0, .int .i64 0] 24)) w3.heap.size 24 #[.int .i64 0, .int .u64 0, .int .i64 0]) := Lib.hid (Blk.new' rfl)
        have d0_N0 : w.heap.size ≠ w3.heap.size := Nat.ne_of_lt b0.lt
        have d1_N0 : w.heap.size + 1 ≠ w3.heap.size := Nat.ne_of_lt b1.lt
        have dd_N0 : w.heap.size ≤ w3.heap.size := hb.size
        refine hK.out _ _ ⟨b0.alloc _, b1.alloc _, below_alloc hb _⟩ (fun hS => ?_)
        clear hK K b0 b1 hb
        try simp only [Act.put, List.setIfInBounds_toArray, List.set_cons_zero, List.set_cons_succ]
        refine wpAnyH_ready (rs := [8]) (by kernel_rfl) (by simp) ?_
        refine (AllReadyH.cons (op_at rfl) (fun K hK => ?_) AllReadyH.nil)
        go_simp
        obtain ⟨b0, b1, hb⟩ := hS
        refine hK.out _ _ ⟨(Blk.realloc b0 d0_N0), (Blk.realloc b1 d1_N0), (below_realloc hb dd_N0)⟩ (fun hS => ?_)
        replace N0 : Hid (Blk (w3.alloc (.cells #[.int .i64 2, .int .u64 1, .int .i64 5] 24)) w3.heap.size 24 #[.int .i64 2, .int .u64 1, .int .i64 5]) := Lib.hid (Blk.new' rfl)
        clear hK K b0 b1 hb
        try simp only [Act.put, List.setIfInBounds_toArray, List.set_cons_zero, List.set_cons_succ]
        refine wpAnyH_take (i := 9) (v := ?_) (op_at rfl) (by kernel_rfl) (by kernel_rfl) (by kernel_rfl) (fun _ _ _ h => h) (Or.inl ⟨by rfl, ?_⟩) hS ?_; rotate_left; focus ((intro w' hSw; clear hSw; go_simp) <;> with_reducible rfl)
        try simp only [Act.put, List.setIfInBounds_toArray, List.set_cons_zero, List.set_cons_succ]
        refine wpAnyH_done (by kernel_rfl) ?_ _
        obtain ⟨b0, b1, hb⟩ := hS
        go_wp2_with fail
        go_meet
        exact ⟨_, rfl, rfl, N0.out, b0, b1, hb, d0_N0, d1_N0, dd_N0⟩
      ·
        go_simp
        obtain ⟨b0, b1, hb⟩ := hS
        have N0 : Hid (Blk (w2.alloc (.cells #[.int .i64 0, .int .u64 0, .int .i64 0] 24)) w2.heap.size 24 #[.int .i64 0, .int .u64 0, .int .i64 0]) := Lib.hid (Blk.new' rfl)
        have d0_N0 : w.heap.size ≠ w2.heap.size := Nat.ne_of_lt b0.lt
        have d1_N0 : w.heap.size + 1 ≠ w2.heap.size := Nat.ne_of_lt b1.lt
        have dd_N0 : w.heap.size ≤ w2.heap.size := hb.size
        refine hK.out _ _ ⟨b0.alloc _, b1.alloc _, below_alloc hb _⟩ (fun hS => ?_)
        clear hK K b0 b1 hb
        try simp only [Act.put, List.setIfInBounds_toArray, List.set_cons_zero, List.set_cons_succ]
        refine wpAnyH_ready (rs := [3]) (by kernel_rfl) (by simp) ?_
        refine (AllReadyH.cons (op_at rfl) (fun K hK => ?_) AllReadyH.nil)
        go_simp
        obtain ⟨b0, b1, hb⟩ := hS
        refine (H1.out _ (HH.out.up hb)).mono ?_
        rintro e w4 ⟨rfl, hB⟩
        replace N0 := Lib.hid (N0.out.after hB)
        refine hK.out _ _ ⟨b0.after hB, b1.after hB, below_call hb hB⟩ (fun hS => ?_)
        clear hK K hB b0 b1 hb
        try simp only [Act.put, List.setIfInBounds_toArray, List.set_cons_zero, List.set_cons_succ]
        refine wpAnyH_take (i := 4) (v := ?_) (op_at rfl) (by kernel_rfl) (by kernel_rfl) (by kernel_rfl) (fun _ _ _ h => h) (Or.inl ⟨by rfl, ?_⟩) hS ?_; rotate_left; focus ((intro w' hSw; clear hSw; go_simp) <;> with_reducible rfl)
        try simp only [Act.put, List.setIfInBounds_toArray, List.set_cons_zero, List.set_cons_succ]
        refine wpAnyH_take (i := 5) (v := ?_) (op_at rfl) (by kernel_rfl) (by kernel_rfl) (by kernel_rfl) (fun _ _ _ h => h) (Or.inl ⟨by rfl, ?_⟩) hS ?_; rotate_left; focus ((intro w' hSw; clear hSw; go_simp) <;> with_reducible rfl)
        try simp only [Act.put, List.setIfInBounds_toArray, List.set_cons_zero, List.set_cons_succ]
        refine wpAnyH_take (i := 6) (v := ?_) (op_at rfl) (by kernel_rfl) (by kernel_rfl) (by kernel_rfl) (fun _ _ _ h => h) (Or.inl ⟨by rfl, ?_⟩) hS ?_; rotate_left; focus ((intro w' hSw; clear hSw; go_simp) <;> with_reducible rfl)
        try simp only [Act.put, List.setIfInBounds_toArray, List.set_cons_zero, List.set_cons_succ]
        refine wpAnyH_ready (rs := [8]) (by kernel_rfl) (by simp) ?_
        refine (AllReadyH.cons (op_at rfl) (fun K hK => ?_) AllReadyH.nil)
        have p_0 := N0.out.at_ (i := 0) (v := .int .i64 0) rfl
        have f_0 := N0.out.frozen 0
        have p_1 := N0.out.at_ (i := 1) (v := .int .u64 0) rfl
        have f_1 := N0.out.frozen 1
        have p_2 := N0.out.at_ (i := 2) (v := .int .i64 0) rfl
        have f_2 := N0.out.frozen 2
        go_simp
        clear p_0 f_0 p_1 f_1 p_2 f_2
        obtain ⟨b0, b1, hb⟩ := hS
        refine hK.out _ _ ⟨(Blk.far (Blk.far (Blk.far b0 d0_N0 _) d0_N0 _) d0_N0 _), (Blk.far (Blk.far (Blk.far b1 d1_N0 _) d1_N0 _) d1_N0 _), (below_set (below_set (below_set hb dd_N0 _) dd_N0 _) dd_N0 _)⟩ (fun hS => ?_)
        replace N0 := Lib.hid (Blk.set' (u := .int .i64 5) (i := 2) (cs' := #[.int .i64 2, .int .u64 1, .int .i64 5]) (Blk.set' (u := .int .u64 1) (i := 1) (cs' := #[.int .i64 2, .int .u64 1, .int .i64 0]) (Blk.set' (u := .int .i64 2) (i := 0) (cs' := #[.int .i64 2, .int .u64 0, .int .i64 0]) N0.out rfl) rfl) rfl)
        clear hK K b0 b1 hb
        try simp only [Act.put, List.setIfInBounds_toArray, List.set_cons_zero, List.set_cons_succ]
        refine wpAnyH_take (i := 9) (v := ?_) (op_at rfl) (by kernel_rfl) (by kernel_rfl) (by kernel_rfl) (fun _ _ _ h => h) (Or.inl ⟨by rfl, ?_⟩) hS ?_; rotate_left; focus ((intro w' hSw; clear hSw; go_simp) <;> with_reducible rfl)
        try simp only [Act.put, List.setIfInBounds_toArray, List.set_cons_zero, List.set_cons_succ]
        refine wpAnyH_done (by kernel_rfl) ?_ _
        obtain ⟨b0, b1, hb⟩ := hS
        go_wp2_with fail
        go_meet
        exact ⟨_, rfl, rfl, N0.out, b0, b1, hb, d0_N0, d1_N0, dd_N0⟩
    ·
      go_simp
      obtain ⟨b0, b1, hb⟩ := hS
      have N0 : Hid (Blk (w1.alloc (.cells #[.int .i64 0, .int .u64 0, .int .i64 0] 24)) w1.heap.size 24 #[.int .i64 0, .int .u64 0, .int .i64 0]) := Lib.hid (Blk.new' rfl)
      have d0_N0 : w.heap.size ≠ w1.heap.size := Nat.ne_of_lt b0.lt
      have d1_N0 : w.heap.size + 1 ≠ w1.heap.size := Nat.ne_of_lt b1.lt
      have dd_N0 : w.heap.size ≤ w1.heap.size := hb.size
      refine hK.out _ _ ⟨b0.alloc _, b1.alloc _, below_alloc hb _⟩ (fun hS => ?_)
      clear hK K b0 b1 hb
      try simp only [Act.put, List.setIfInBounds_toArray, List.set_cons_zero, List.set_cons_succ]
      refine wpAnyH_ready (rs := [0]) (by kernel_rfl) (by simp) ?_
      refine (AllReadyH.cons (op_at rfl) (fun K hK => ?_) AllReadyH.nil)
      go_simp
      obtain ⟨b0, b1, hb⟩ := hS
      refine (H0.out _).mono ?_
      rintro e w5 ⟨rfl, hB⟩
      replace N0 := Lib.hid (N0.out.after hB)
      refine hK.out _ _ ⟨b0.after hB, b1.after hB, below_call hb hB⟩ (fun hS => ?_)
      clear hK K hB b0 b1 hb
      try simp only [Act.put, List.setIfInBounds_toArray, List.set_cons_zero, List.set_cons_succ]
      refine wpAnyH_ready (rs := [3]) (by kernel_rfl) (by simp) ?_
      refine (AllReadyH.cons (op_at rfl) (fun K hK => ?_) AllReadyH.nil)
      go_simp
      obtain ⟨b0, b1, hb⟩ := hS
      refine (H1.out _ (HH.out.up hb)).mono ?_
      rintro e w6 ⟨rfl, hB⟩
      replace N0 := Lib.hid (N0.out.after hB)
      refine hK.out _ _ ⟨b0.after hB, b1.after hB, below_call hb hB⟩ (fun hS => ?_)
      clear hK K hB b0 b1 hb
      try simp only [Act.put, List.setIfInBounds_toArray, List.set_cons_zero, List.set_cons_succ]
      refine wpAnyH_take (i := 4) (v := ?_) (op_at rfl) (by kernel_rfl) (by kernel_rfl) (by kernel_rfl) (fun _ _ _ h => h) (Or.inl ⟨by rfl, ?_⟩) hS ?_; rotate_left; focus ((intro w' hSw; clear hSw; go_simp) <;> with_reducible rfl)
      try simp only [Act.put, List.setIfInBounds_toArray, List.set_cons_zero, List.set_cons_succ]
      refine wpAnyH_take (i := 5) (v := ?_) (op_at rfl) (by kernel_rfl) (by kernel_rfl) (by kernel_rfl) (fun _ _ _ h => h) (Or.inl ⟨by rfl, ?_⟩) hS ?_; rotate_left; focus ((intro w' hSw; clear hSw; go_simp) <;> with_reducible rfl)
      try simp only [Act.put, List.setIfInBounds_toArray, List.set_cons_zero, List.set_cons_succ]
      refine wpAnyH_take (i := 6) (v := ?_) (op_at rfl) (by kernel_rfl) (by kernel_rfl) (by kernel_rfl) (fun _ _ _ h => h) (Or.inl ⟨by rfl, ?_⟩) hS ?_; rotate_left; focus ((intro w' hSw; clear hSw; go_simp) <;> with_reducible rfl)
      try simp only [Act.put, List.setIfInBounds_toArray, List.set_cons_zero, List.set_cons_succ]
      refine wpAnyH_ready (rs := [8]) (by kernel_rfl) (by simp) ?_
      refine (AllReadyH.cons (op_at rfl) (fun K hK => ?_) AllReadyH.nil)
      have p_0 := N0.out.at_ (i := 0) (v := .int .i64 0) rfl
      have f_0 := N0.out.frozen 0
      have p_1 := N0.out.at_ (i := 1) (v := .int .u64 0) rfl
      have f_1 := N0.out.frozen 1
      have p_2 := N0.out.at_ (i := 2) (v := .int .i64 0) rfl
      have f_2 := N0.out.frozen 2
      go_simp
      clear p_0 f_0 p_1 f_1 p_2 f_2
      obtain ⟨b0, b1, hb⟩ := hS
      refine hK.out _ _ ⟨(Blk.far (Blk.far (Blk.far b0 d0_N0 _) d0_N0 _) d0_N0 _), (Blk.far (Blk.far (Blk.far b1 d1_N0 _) d1_N0 _) d1_N0 _), (below_set (below_set (below_set hb dd_N0 _) dd_N0 _) dd_N0 _)⟩ (fun hS => ?_)
      replace N0 := Lib.hid (Blk.set' (u := .int .i64 5) (i := 2) (cs' := #[.int .i64 2, .int .u64 1, .int .i64 5]) (Blk.set' (u := .int .u64 1) (i := 1) (cs' := #[.int .i64 2, .int .u64 1, .int .i64 0]) (Blk.set' (u := .int .i64 2) (i := 0) (cs' := #[.int .i64 2, .int .u64 0, .int .i64 0]) N0.out rfl) rfl) rfl)
      clear hK K b0 b1 hb
      try simp only [Act.put, List.setIfInBounds_toArray, List.set_cons_zero, List.set_cons_succ]
      refine wpAnyH_take (i := 9) (v := ?_) (op_at rfl) (by kernel_rfl) (by kernel_rfl) (by kernel_rfl) (fun _ _ _ h => h) (Or.inl ⟨by rfl, ?_⟩) hS ?_; rotate_left; focus ((intro w' hSw; clear hSw; go_simp) <;> with_reducible rfl)
      try simp only [Act.put, List.setIfInBounds_toArray, List.set_cons_zero, List.set_cons_succ]
      refine wpAnyH_done (by kernel_rfl) ?_ _
      obtain ⟨b0, b1, hb⟩ := hS
      go_wp2_with fail
      go_meet
      exact ⟨_, rfl, rfl, N0.out, b0, b1, hb, d0_N0, d1_N0, dd_N0⟩
  case rest =>
    obtain ⟨g6, rfl, rfl, hn, h_0, h_1, hb, e0_g6, e1_g6, ee_g6⟩ := hcut
    replace B0 := Lib.hid h_0
    clear h_0
    replace B1 := Lib.hid h_1
    clear h_1
    have B2 := Lib.hid hn
    clear hn
    replace HB := Lib.hid hb
    clear hb
    go_upto_region 4 with fail
    go_cut [6] (fun s6 wx => ∃ g16 : Nat, s6 = .int .i64 120 ∧ Blk wx (g16) 24 #[.int .i64 0, .int .u64 0, .int .i64 0] ∧ Blk wx (w.heap.size) 24 #[.int .i64 2, .int .u64 1, .int .i64 5] ∧ Blk wx (w.heap.size + 1) 24 #[.int .i64 3, .int .u64 3, .int .i64 0] ∧ Blk wx (g6) 24 #[.int .i64 2, .int .u64 1, .int .i64 5] ∧ Below w.heap.size w wx ∧ w.heap.size ≠ g16 ∧ w.heap.size + 1 ≠ g16 ∧ g6 ≠ g16 ∧ w.heap.size ≤ g16)
    case first =>
      refine wp_region_gen (S := (fun W' => Blk W' (w.heap.size) 24 #[.int .i64 2, .int .u64 1, .int .i64 5] ∧ Blk W' (w.heap.size + 1) 24 #[.int .i64 3, .int .u64 3, .int .i64 0] ∧ Blk W' (g6) 24 #[.int .i64 2, .int .u64 1, .int .i64 5] ∧ Below w.heap.size w W')) (by kernel_rfl) ⟨(by repeat (first | exact B0.out | exact Blk.new' (by simp; done) | exact Blk.new' rfl | refine Blk.drew ?_ | refine Blk.alloc ?_ _)), (by repeat (first | exact B1.out | exact Blk.new' (by simp; done) | exact Blk.new' rfl | refine Blk.drew ?_ | refine Blk.alloc ?_ _)), (by repeat (first | exact B2.out | exact Blk.new' (by simp; done) | exact Blk.new' rfl | refine Blk.drew ?_ | refine Blk.alloc ?_ _)), (by repeat (first | exact HB.out | refine below_alloc ?_ _ | refine Below.drew ?_ | refine below_set ?_ (by omega) _))⟩ (fun w7 hS => ?_)
      refine wpAnyH_take (i := 2) (v := ?_) (op_at rfl) (by kernel_rfl) (by kernel_rfl) (by kernel_rfl) (fun _ _ _ h => h) (Or.inl ⟨by rfl, ?_⟩) hS ?_; rotate_left; focus ((intro w' hSw; obtain ⟨-, q, -⟩ := hSw; have c0 := q.at_ (i := 0) (v := .int .i64 3) rfl; have c1 := q.at_ (i := 1) (v := .int .u64 3) rfl; have c2 := q.at_ (i := 2) (v := .int .i64 0) rfl; clear q; go_simp) <;> with_reducible rfl)
      try simp only [Act.put, List.setIfInBounds_toArray, List.set_cons_zero, List.set_cons_succ]
      refine wpAnyH_ready (rs := [0, 7]) (by kernel_rfl) (by simp) ?_
      refine (AllReadyH.cons (op_at rfl) (fun K hK => ?_) (AllReadyH.cons (op_at rfl) (fun K hK => ?_) AllReadyH.nil))
      ·
        go_simp
        obtain ⟨b0, b1, b2, hb⟩ := hS
        refine (H0.out _).mono ?_
        rintro e w8 ⟨rfl, hB⟩
        refine hK.out _ _ ⟨b0.after hB, b1.after hB, b2.after hB, below_call hb hB⟩ (fun hS => ?_)
        clear hK K hB b0 b1 b2 hb
        try simp only [Act.put, List.setIfInBounds_toArray, List.set_cons_zero, List.set_cons_succ]
        refine wpAnyH_ready (rs := [1, 7]) (by kernel_rfl) (by simp) ?_
        refine (AllReadyH.cons (op_at rfl) (fun K hK => ?_) (AllReadyH.cons (op_at rfl) (fun K hK => ?_) AllReadyH.nil))
        ·
          go_simp
          obtain ⟨b0, b1, b2, hb⟩ := hS
          refine (H2.out _).mono ?_
          rintro e w9 ⟨rfl, hB⟩
          refine hK.out _ _ ⟨b0.after hB, b1.after hB, b2.after hB, below_call hb hB⟩ (fun hS => ?_)
          clear hK K hB b0 b1 b2 hb
          try simp only [Act.put, List.setIfInBounds_toArray, List.set_cons_zero, List.set_cons_succ]
          refine wpAnyH_ready (rs := [3, 7]) (by kernel_rfl) (by simp) ?_
          refine (AllReadyH.cons (op_at rfl) (fun K hK => ?_) (AllReadyH.cons (op_at rfl) (fun K hK => ?_) AllReadyH.nil))
          ·
            go_simp
            obtain ⟨b0, b1, b2, hb⟩ := hS
            refine (H3.out _ (HH.out.up hb)).mono ?_
            rintro e w10 ⟨rfl, hB⟩
            refine hK.out _ _ ⟨b0.after hB, b1.after hB, b2.after hB, below_call hb hB⟩ (fun hS => ?_)
            clear hK K hB b0 b1 b2 hb
            try simp only [Act.put, List.setIfInBounds_toArray, List.set_cons_zero, List.set_cons_succ]
            refine wpAnyH_take (i := 4) (v := ?_) (op_at rfl) (by kernel_rfl) (by kernel_rfl) (by kernel_rfl) (fun _ _ _ h => h) (Or.inl ⟨by rfl, ?_⟩) hS ?_; rotate_left; focus ((intro w' hSw; clear hSw; go_simp) <;> with_reducible rfl)
            try simp only [Act.put, List.setIfInBounds_toArray, List.set_cons_zero, List.set_cons_succ]
            refine wpAnyH_take (i := 5) (v := ?_) (op_at rfl) (by kernel_rfl) (by kernel_rfl) (by kernel_rfl) (fun _ _ _ h => h) (Or.inl ⟨by rfl, ?_⟩) hS ?_; rotate_left; focus ((intro w' hSw; clear hSw; go_simp) <;> with_reducible rfl)
            try simp only [Act.put, List.setIfInBounds_toArray, List.set_cons_zero, List.set_cons_succ]
            refine wpAnyH_take (i := 6) (v := ?_) (op_at rfl) (by kernel_rfl) (by kernel_rfl) (by kernel_rfl) (fun _ _ _ h => h) (Or.inl ⟨by rfl, ?_⟩) hS ?_; rotate_left; focus ((intro w' hSw; clear hSw; go_simp) <;> with_reducible rfl)
            try simp only [Act.put, List.setIfInBounds_toArray, List.set_cons_zero, List.set_cons_succ]
            refine wpAnyH_ready (rs := [7]) (by kernel_rfl) (by simp) ?_
            refine (AllReadyH.cons (op_at rfl) (fun K hK => ?_) AllReadyH.nil)
            go_simp
            obtain ⟨b0, b1, b2, hb⟩ := hS
            have N0 : Hid (Blk (w10.alloc (.cells #[.int .i64 0, .int .u64 0, .int .i64 0] 24)) w10.heap.size 24 #[.int .i64 0, .int .u64 0, .int .i64 0]) := Lib.hid (Blk.new' rfl)
            have d0_N0 : w.heap.size ≠ w10.heap.size := Nat.ne_of_lt b0.lt
            have d1_N0 : w.heap.size + 1 ≠ w10.heap.size := Nat.ne_of_lt b1.lt
            have d2_N0 : g6 ≠ w10.heap.size := Nat.ne_of_lt b2.lt
            have dd_N0 : w.heap.size ≤ w10.heap.size := hb.size
            refine hK.out _ _ ⟨b0.alloc _, b1.alloc _, b2.alloc _, below_alloc hb _⟩ (fun hS => ?_)
            clear hK K b0 b1 b2 hb
            try simp only [Act.put, List.setIfInBounds_toArray, List.set_cons_zero, List.set_cons_succ]
            refine wpAnyH_ready (rs := [8]) (by kernel_rfl) (by simp) ?_
            refine (AllReadyH.cons (op_at rfl) (fun K hK => ?_) AllReadyH.nil)
            go_simp
            obtain ⟨b0, b1, b2, hb⟩ := hS
            refine hK.out _ _ ⟨(Blk.realloc b0 d0_N0), (Blk.realloc b1 d1_N0), (Blk.realloc b2 d2_N0), (below_realloc hb dd_N0)⟩ (fun hS => ?_)
            replace N0 : Hid (Blk (w10.alloc (.cells #[.int .i64 0, .int .u64 0, .int .i64 0] 24)) w10.heap.size 24 #[.int .i64 0, .int .u64 0, .int .i64 0]) := Lib.hid (Blk.new' rfl)
            clear hK K b0 b1 b2 hb
            try simp only [Act.put, List.setIfInBounds_toArray, List.set_cons_zero, List.set_cons_succ]
            refine wpAnyH_take (i := 9) (v := ?_) (op_at rfl) (by kernel_rfl) (by kernel_rfl) (by kernel_rfl) (fun _ _ _ h => h) (Or.inl ⟨by rfl, ?_⟩) hS ?_; rotate_left; focus ((intro w' hSw; clear hSw; go_simp) <;> with_reducible rfl)
            try simp only [Act.put, List.setIfInBounds_toArray, List.set_cons_zero, List.set_cons_succ]
            refine wpAnyH_done (by kernel_rfl) ?_ _
            obtain ⟨b0, b1, b2, hb⟩ := hS
            go_wp2_with fail
            go_meet
            exact ⟨_, rfl, N0.out, b0, b1, b2, hb, d0_N0, d1_N0, d2_N0, dd_N0⟩
          ·
            go_simp
            obtain ⟨b0, b1, b2, hb⟩ := hS
            have N0 : Hid (Blk (w9.alloc (.cells #[.int .i64 0, .int .u64 0, .int .i64 0] 24)) w9.heap.size 24 #[.int .i64 0, .int .u64 0, .int .i64 0]) := Lib.hid (Blk.new' rfl)
            have d0_N0 : w.heap.size ≠ w9.heap.size := Nat.ne_of_lt b0.lt
            have d1_N0 : w.heap.size + 1 ≠ w9.heap.size := Nat.ne_of_lt b1.lt
            have d2_N0 : g6 ≠ w9.heap.size := Nat.ne_of_lt b2.lt
            have dd_N0 : w.heap.size ≤ w9.heap.size := hb.size
            refine hK.out _ _ ⟨b0.alloc _, b1.alloc _, b2.alloc _, below_alloc hb _⟩ (fun hS => ?_)
            clear hK K b0 b1 b2 hb
            try simp only [Act.put, List.setIfInBounds_toArray, List.set_cons_zero, List.set_cons_succ]
            refine wpAnyH_ready (rs := [3]) (by kernel_rfl) (by simp) ?_
            refine (AllReadyH.cons (op_at rfl) (fun K hK => ?_) AllReadyH.nil)
            go_simp
            obtain ⟨b0, b1, b2, hb⟩ := hS
            refine (H3.out _ (HH.out.up hb)).mono ?_
            rintro e w11 ⟨rfl, hB⟩
            replace N0 := Lib.hid (N0.out.after hB)
            refine hK.out _ _ ⟨b0.after hB, b1.after hB, b2.after hB, below_call hb hB⟩ (fun hS => ?_)
            clear hK K hB b0 b1 b2 hb
            try simp only [Act.put, List.setIfInBounds_toArray, List.set_cons_zero, List.set_cons_succ]
            refine wpAnyH_take (i := 4) (v := ?_) (op_at rfl) (by kernel_rfl) (by kernel_rfl) (by kernel_rfl) (fun _ _ _ h => h) (Or.inl ⟨by rfl, ?_⟩) hS ?_; rotate_left; focus ((intro w' hSw; clear hSw; go_simp) <;> with_reducible rfl)
            try simp only [Act.put, List.setIfInBounds_toArray, List.set_cons_zero, List.set_cons_succ]
            refine wpAnyH_take (i := 5) (v := ?_) (op_at rfl) (by kernel_rfl) (by kernel_rfl) (by kernel_rfl) (fun _ _ _ h => h) (Or.inl ⟨by rfl, ?_⟩) hS ?_; rotate_left; focus ((intro w' hSw; clear hSw; go_simp) <;> with_reducible rfl)
            try simp only [Act.put, List.setIfInBounds_toArray, List.set_cons_zero, List.set_cons_succ]
            refine wpAnyH_take (i := 6) (v := ?_) (op_at rfl) (by kernel_rfl) (by kernel_rfl) (by kernel_rfl) (fun _ _ _ h => h) (Or.inl ⟨by rfl, ?_⟩) hS ?_; rotate_left; focus ((intro w' hSw; clear hSw; go_simp) <;> with_reducible rfl)
            try simp only [Act.put, List.setIfInBounds_toArray, List.set_cons_zero, List.set_cons_succ]
            refine wpAnyH_ready (rs := [8]) (by kernel_rfl) (by simp) ?_
            refine (AllReadyH.cons (op_at rfl) (fun K hK => ?_) AllReadyH.nil)
            have p_0 := N0.out.at_ (i := 0) (v := .int .i64 0) rfl
            have f_0 := N0.out.frozen 0
            have p_1 := N0.out.at_ (i := 1) (v := .int .u64 0) rfl
            have f_1 := N0.out.frozen 1
            have p_2 := N0.out.at_ (i := 2) (v := .int .i64 0) rfl
            have f_2 := N0.out.frozen 2
            go_simp
            clear p_0 f_0 p_1 f_1 p_2 f_2
            obtain ⟨b0, b1, b2, hb⟩ := hS
            refine hK.out _ _ ⟨(Blk.far (Blk.far (Blk.far b0 d0_N0 _) d0_N0 _) d0_N0 _), (Blk.far (Blk.far (Blk.far b1 d1_N0 _) d1_N0 _) d1_N0 _), (Blk.far (Blk.far (Blk.far b2 d2_N0 _) d2_N0 _) d2_N0 _), (below_set (below_set (below_set hb dd_N0 _) dd_N0 _) dd_N0 _)⟩ (fun hS => ?_)
            replace N0 := Lib.hid (Blk.set' (u := .int .i64 0) (i := 2) (cs' := #[.int .i64 0, .int .u64 0, .int .i64 0]) (Blk.set' (u := .int .u64 0) (i := 1) (cs' := #[.int .i64 0, .int .u64 0, .int .i64 0]) (Blk.set' (u := .int .i64 0) (i := 0) (cs' := #[.int .i64 0, .int .u64 0, .int .i64 0]) N0.out rfl) rfl) rfl)
            clear hK K b0 b1 b2 hb
            try simp only [Act.put, List.setIfInBounds_toArray, List.set_cons_zero, List.set_cons_succ]
            refine wpAnyH_take (i := 9) (v := ?_) (op_at rfl) (by kernel_rfl) (by kernel_rfl) (by kernel_rfl) (fun _ _ _ h => h) (Or.inl ⟨by rfl, ?_⟩) hS ?_; rotate_left; focus ((intro w' hSw; clear hSw; go_simp) <;> with_reducible rfl)
            try simp only [Act.put, List.setIfInBounds_toArray, List.set_cons_zero, List.set_cons_succ]
            refine wpAnyH_done (by kernel_rfl) ?_ _
            obtain ⟨b0, b1, b2, hb⟩ := hS
            go_wp2_with fail
            go_meet
            exact ⟨_, rfl, N0.out, b0, b1, b2, hb, d0_N0, d1_N0, d2_N0, dd_N0⟩
        ·
          go_simp
          obtain ⟨b0, b1, b2, hb⟩ := hS
          have N0 : Hid (Blk (w8.alloc (.cells #[.int .i64 0, .int .u64 0, .int .i64 0] 24)) w8.heap.size 24 #[.int .i64 0, .int .u64 0, .int .i64 0]) := Lib.hid (Blk.new' rfl)
          have d0_N0 : w.heap.size ≠ w8.heap.size := Nat.ne_of_lt b0.lt
          have d1_N0 : w.heap.size + 1 ≠ w8.heap.size := Nat.ne_of_lt b1.lt
          have d2_N0 : g6 ≠ w8.heap.size := Nat.ne_of_lt b2.lt
          have dd_N0 : w.heap.size ≤ w8.heap.size := hb.size
          refine hK.out _ _ ⟨b0.alloc _, b1.alloc _, b2.alloc _, below_alloc hb _⟩ (fun hS => ?_)
          clear hK K b0 b1 b2 hb
          try simp only [Act.put, List.setIfInBounds_toArray, List.set_cons_zero, List.set_cons_succ]
          refine wpAnyH_ready (rs := [1]) (by kernel_rfl) (by simp) ?_
          refine (AllReadyH.cons (op_at rfl) (fun K hK => ?_) AllReadyH.nil)
          go_simp
          obtain ⟨b0, b1, b2, hb⟩ := hS
          refine (H2.out _).mono ?_
          rintro e w12 ⟨rfl, hB⟩
          replace N0 := Lib.hid (N0.out.after hB)
          refine hK.out _ _ ⟨b0.after hB, b1.after hB, b2.after hB, below_call hb hB⟩ (fun hS => ?_)
          clear hK K hB b0 b1 b2 hb
          try simp only [Act.put, List.setIfInBounds_toArray, List.set_cons_zero, List.set_cons_succ]
          refine wpAnyH_ready (rs := [3]) (by kernel_rfl) (by simp) ?_
          refine (AllReadyH.cons (op_at rfl) (fun K hK => ?_) AllReadyH.nil)
          go_simp
          obtain ⟨b0, b1, b2, hb⟩ := hS
          refine (H3.out _ (HH.out.up hb)).mono ?_
          rintro e w13 ⟨rfl, hB⟩
          replace N0 := Lib.hid (N0.out.after hB)
          refine hK.out _ _ ⟨b0.after hB, b1.after hB, b2.after hB, below_call hb hB⟩ (fun hS => ?_)
          clear hK K hB b0 b1 b2 hb
          try simp only [Act.put, List.setIfInBounds_toArray, List.set_cons_zero, List.set_cons_succ]
          refine wpAnyH_take (i := 4) (v := ?_) (op_at rfl) (by kernel_rfl) (by kernel_rfl) (by kernel_rfl) (fun _ _ _ h => h) (Or.inl ⟨by rfl, ?_⟩) hS ?_; rotate_left; focus ((intro w' hSw; clear hSw; go_simp) <;> with_reducible rfl)
          try simp only [Act.put, List.setIfInBounds_toArray, List.set_cons_zero, List.set_cons_succ]
          refine wpAnyH_take (i := 5) (v := ?_) (op_at rfl) (by kernel_rfl) (by kernel_rfl) (by kernel_rfl) (fun _ _ _ h => h) (Or.inl ⟨by rfl, ?_⟩) hS ?_; rotate_left; focus ((intro w' hSw; clear hSw; go_simp) <;> with_reducible rfl)
          try simp only [Act.put, List.setIfInBounds_toArray, List.set_cons_zero, List.set_cons_succ]
          refine wpAnyH_take (i := 6) (v := ?_) (op_at rfl) (by kernel_rfl) (by kernel_rfl) (by kernel_rfl) (fun _ _ _ h => h) (Or.inl ⟨by rfl, ?_⟩) hS ?_; rotate_left; focus ((intro w' hSw; clear hSw; go_simp) <;> with_reducible rfl)
          try simp only [Act.put, List.setIfInBounds_toArray, List.set_cons_zero, List.set_cons_succ]
          refine wpAnyH_ready (rs := [8]) (by kernel_rfl) (by simp) ?_
          refine (AllReadyH.cons (op_at rfl) (fun K hK => ?_) AllReadyH.nil)
          have p_0 := N0.out.at_ (i := 0) (v := .int .i64 0) rfl
          have f_0 := N0.out.frozen 0
          have p_1 := N0.out.at_ (i := 1) (v := .int .u64 0) rfl
          have f_1 := N0.out.frozen 1
          have p_2 := N0.out.at_ (i := 2) (v := .int .i64 0) rfl
          have f_2 := N0.out.frozen 2
          go_simp
          clear p_0 f_0 p_1 f_1 p_2 f_2
          obtain ⟨b0, b1, b2, hb⟩ := hS
          refine hK.out _ _ ⟨(Blk.far (Blk.far (Blk.far b0 d0_N0 _) d0_N0 _) d0_N0 _), (Blk.far (Blk.far (Blk.far b1 d1_N0 _) d1_N0 _) d1_N0 _), (Blk.far (Blk.far (Blk.far b2 d2_N0 _) d2_N0 _) d2_N0 _), (below_set (below_set (below_set hb dd_N0 _) dd_N0 _) dd_N0 _)⟩ (fun hS => ?_)
          replace N0 := Lib.hid (Blk.set' (u := .int .i64 0) (i := 2) (cs' := #[.int .i64 0, .int .u64 0, .int .i64 0]) (Blk.set' (u := .int .u64 0) (i := 1) (cs' := #[.int .i64 0, .int .u64 0, .int .i64 0]) (Blk.set' (u := .int .i64 0) (i := 0) (cs' := #[.int .i64 0, .int .u64 0, .int .i64 0]) N0.out rfl) rfl) rfl)
          clear hK K b0 b1 b2 hb
          try simp only [Act.put, List.setIfInBounds_toArray, List.set_cons_zero, List.set_cons_succ]
          refine wpAnyH_take (i := 9) (v := ?_) (op_at rfl) (by kernel_rfl) (by kernel_rfl) (by kernel_rfl) (fun _ _ _ h => h) (Or.inl ⟨by rfl, ?_⟩) hS ?_; rotate_left; focus ((intro w' hSw; clear hSw; go_simp) <;> with_reducible rfl)
          try simp only [Act.put, List.setIfInBounds_toArray, List.set_cons_zero, List.set_cons_succ]
          refine wpAnyH_done (by kernel_rfl) ?_ _
          obtain ⟨b0, b1, b2, hb⟩ := hS
          go_wp2_with fail
          go_meet
          exact ⟨_, rfl, N0.out, b0, b1, b2, hb, d0_N0, d1_N0, d2_N0, dd_N0⟩
      ·
        go_simp
        obtain ⟨b0, b1, b2, hb⟩ := hS
        have N0 : Hid (Blk (w7.alloc (.cells #[.int .i64 0, .int .u64 0, .int .i64 0] 24)) w7.heap.size 24 #[.int .i64 0, .int .u64 0, .int .i64 0]) := Lib.hid (Blk.new' rfl)
        have d0_N0 : w.heap.size ≠ w7.heap.size := Nat.ne_of_lt b0.lt
        have d1_N0 : w.heap.size + 1 ≠ w7.heap.size := Nat.ne_of_lt b1.lt
        have d2_N0 : g6 ≠ w7.heap.size := Nat.ne_of_lt b2.lt
        have dd_N0 : w.heap.size ≤ w7.heap.size := hb.size
        refine hK.out _ _ ⟨b0.alloc _, b1.alloc _, b2.alloc _, below_alloc hb _⟩ (fun hS => ?_)
        clear hK K b0 b1 b2 hb
        try simp only [Act.put, List.setIfInBounds_toArray, List.set_cons_zero, List.set_cons_succ]
        refine wpAnyH_ready (rs := [0]) (by kernel_rfl) (by simp) ?_
        refine (AllReadyH.cons (op_at rfl) (fun K hK => ?_) AllReadyH.nil)
        go_simp
        obtain ⟨b0, b1, b2, hb⟩ := hS
        refine (H0.out _).mono ?_
        rintro e w14 ⟨rfl, hB⟩
        replace N0 := Lib.hid (N0.out.after hB)
        refine hK.out _ _ ⟨b0.after hB, b1.after hB, b2.after hB, below_call hb hB⟩ (fun hS => ?_)
        clear hK K hB b0 b1 b2 hb
        try simp only [Act.put, List.setIfInBounds_toArray, List.set_cons_zero, List.set_cons_succ]
        refine wpAnyH_ready (rs := [1]) (by kernel_rfl) (by simp) ?_
        refine (AllReadyH.cons (op_at rfl) (fun K hK => ?_) AllReadyH.nil)
        go_simp
        obtain ⟨b0, b1, b2, hb⟩ := hS
        refine (H2.out _).mono ?_
        rintro e w15 ⟨rfl, hB⟩
        replace N0 := Lib.hid (N0.out.after hB)
        refine hK.out _ _ ⟨b0.after hB, b1.after hB, b2.after hB, below_call hb hB⟩ (fun hS => ?_)
        clear hK K hB b0 b1 b2 hb
        try simp only [Act.put, List.setIfInBounds_toArray, List.set_cons_zero, List.set_cons_succ]
        refine wpAnyH_ready (rs := [3]) (by kernel_rfl) (by simp) ?_
        refine (AllReadyH.cons (op_at rfl) (fun K hK => ?_) AllReadyH.nil)
        go_simp
        obtain ⟨b0, b1, b2, hb⟩ := hS
        refine (H3.out _ (HH.out.up hb)).mono ?_
        rintro e w16 ⟨rfl, hB⟩
        replace N0 := Lib.hid (N0.out.after hB)
        refine hK.out _ _ ⟨b0.after hB, b1.after hB, b2.after hB, below_call hb hB⟩ (fun hS => ?_)
        clear hK K hB b0 b1 b2 hb
        try simp only [Act.put, List.setIfInBounds_toArray, List.set_cons_zero, List.set_cons_succ]
        refine wpAnyH_take (i := 4) (v := ?_) (op_at rfl) (by kernel_rfl) (by kernel_rfl) (by kernel_rfl) (fun _ _ _ h => h) (Or.inl ⟨by rfl, ?_⟩) hS ?_; rotate_left; focus ((intro w' hSw; clear hSw; go_simp) <;> with_reducible rfl)
        try simp only [Act.put, List.setIfInBounds_toArray, List.set_cons_zero, List.set_cons_succ]
        refine wpAnyH_take (i := 5) (v := ?_) (op_at rfl) (by kernel_rfl) (by kernel_rfl) (by kernel_rfl) (fun _ _ _ h => h) (Or.inl ⟨by rfl, ?_⟩) hS ?_; rotate_left; focus ((intro w' hSw; clear hSw; go_simp) <;> with_reducible rfl)
        try simp only [Act.put, List.setIfInBounds_toArray, List.set_cons_zero, List.set_cons_succ]
        refine wpAnyH_take (i := 6) (v := ?_) (op_at rfl) (by kernel_rfl) (by kernel_rfl) (by kernel_rfl) (fun _ _ _ h => h) (Or.inl ⟨by rfl, ?_⟩) hS ?_; rotate_left; focus ((intro w' hSw; clear hSw; go_simp) <;> with_reducible rfl)
        try simp only [Act.put, List.setIfInBounds_toArray, List.set_cons_zero, List.set_cons_succ]
        refine wpAnyH_ready (rs := [8]) (by kernel_rfl) (by simp) ?_
        refine (AllReadyH.cons (op_at rfl) (fun K hK => ?_) AllReadyH.nil)
        have p_0 := N0.out.at_ (i := 0) (v := .int .i64 0) rfl
        have f_0 := N0.out.frozen 0
        have p_1 := N0.out.at_ (i := 1) (v := .int .u64 0) rfl
        have f_1 := N0.out.frozen 1
        have p_2 := N0.out.at_ (i := 2) (v := .int .i64 0) rfl
        have f_2 := N0.out.frozen 2
        go_simp
        clear p_0 f_0 p_1 f_1 p_2 f_2
        obtain ⟨b0, b1, b2, hb⟩ := hS
        refine hK.out _ _ ⟨(Blk.far (Blk.far (Blk.far b0 d0_N0 _) d0_N0 _) d0_N0 _), (Blk.far (Blk.far (Blk.far b1 d1_N0 _) d1_N0 _) d1_N0 _), (Blk.far (Blk.far (Blk.far b2 d2_N0 _) d2_N0 _) d2_N0 _), (below_set (below_set (below_set hb dd_N0 _) dd_N0 _) dd_N0 _)⟩ (fun hS => ?_)
        replace N0 := Lib.hid (Blk.set' (u := .int .i64 0) (i := 2) (cs' := #[.int .i64 0, .int .u64 0, .int .i64 0]) (Blk.set' (u := .int .u64 0) (i := 1) (cs' := #[.int .i64 0, .int .u64 0, .int .i64 0]) (Blk.set' (u := .int .i64 0) (i := 0) (cs' := #[.int .i64 0, .int .u64 0, .int .i64 0]) N0.out rfl) rfl) rfl)
        clear hK K b0 b1 b2 hb
        try simp only [Act.put, List.setIfInBounds_toArray, List.set_cons_zero, List.set_cons_succ]
        refine wpAnyH_take (i := 9) (v := ?_) (op_at rfl) (by kernel_rfl) (by kernel_rfl) (by kernel_rfl) (fun _ _ _ h => h) (Or.inl ⟨by rfl, ?_⟩) hS ?_; rotate_left; focus ((intro w' hSw; clear hSw; go_simp) <;> with_reducible rfl)
        try simp only [Act.put, List.setIfInBounds_toArray, List.set_cons_zero, List.set_cons_succ]
        refine wpAnyH_done (by kernel_rfl) ?_ _
        obtain ⟨b0, b1, b2, hb⟩ := hS
        go_wp2_with fail
        go_meet
        exact ⟨_, rfl, N0.out, b0, b1, b2, hb, d0_N0, d1_N0, d2_N0, dd_N0⟩
    case rest =>
      obtain ⟨g16, rfl, hn, h_0, h_1, h_2, hb, e0_g16, e1_g16, e2_g16, ee_g16⟩ := hcut
      replace B0 := Lib.hid h_0
      clear h_0
      replace B1 := Lib.hid h_1
      clear h_1
      replace B2 := Lib.hid h_2
      clear h_2
      have B3 := Lib.hid hn
      clear hn
      replace HB := Lib.hid hb
      clear hb
      go_wp2_with fail
      refine wp_region_gen (S := (fun W' => Blk W' (w.heap.size) 24 #[.int .i64 2, .int .u64 1, .int .i64 5] ∧ Blk W' (g6) 24 #[.int .i64 2, .int .u64 1, .int .i64 5] ∧ Below w.heap.size w W')) (by kernel_rfl) ⟨(by repeat (first | exact B0.out | exact Blk.new' (by simp; done) | exact Blk.new' rfl | refine Blk.drew ?_ | refine Blk.alloc ?_ _)), (by repeat (first | exact B2.out | exact Blk.new' (by simp; done) | exact Blk.new' rfl | refine Blk.drew ?_ | refine Blk.alloc ?_ _)), (by repeat (first | exact HB.out | refine below_alloc ?_ _ | refine Below.drew ?_ | refine below_set ?_ (by omega) _))⟩ (fun w17 hS => ?_)
      refine wpAnyH_take (i := 1) (v := ?_) (op_at rfl) (by kernel_rfl) (by kernel_rfl) (by kernel_rfl) (fun _ _ _ h => h) (Or.inl ⟨by rfl, ?_⟩) hS ?_; rotate_left; focus ((intro w' hSw; obtain ⟨q, -⟩ := hSw; have c0 := q.at_ (i := 0) (v := .int .i64 2) rfl; have c1 := q.at_ (i := 1) (v := .int .u64 1) rfl; have c2 := q.at_ (i := 2) (v := .int .i64 5) rfl; clear q; go_simp) <;> with_reducible rfl)
      try simp only [Act.put, List.setIfInBounds_toArray, List.set_cons_zero, List.set_cons_succ]
      refine wpAnyH_ready (rs := [0]) (by kernel_rfl) (by simp) ?_
      refine (AllReadyH.cons (op_at rfl) (fun K hK => ?_) AllReadyH.nil)
      go_simp
      obtain ⟨b0, b1, hb⟩ := hS
      refine (H0.out _).mono ?_
      rintro e w18 ⟨rfl, hB⟩
      refine hK.out _ _ ⟨b0.after hB, b1.after hB, below_call hb hB⟩ (fun hS => ?_)
      clear hK K hB b0 b1 hb
      try simp only [Act.put, List.setIfInBounds_toArray, List.set_cons_zero, List.set_cons_succ]
      refine wpAnyH_ready (rs := [2]) (by kernel_rfl) (by simp) ?_
      refine (AllReadyH.cons (op_at rfl) (fun K hK => ?_) AllReadyH.nil)
      go_simp
      obtain ⟨b0, b1, hb⟩ := hS
      refine (H4.out _ (HH.out.up hb)).mono ?_
      rintro e w19 ⟨rfl, hB⟩
      refine hK.out _ _ ⟨b0.after hB, b1.after hB, below_call hb hB⟩ (fun hS => ?_)
      clear hK K hB b0 b1 hb
      try simp only [Act.put, List.setIfInBounds_toArray, List.set_cons_zero, List.set_cons_succ]
      refine wpAnyH_take (i := 3) (v := ?_) (op_at rfl) (by kernel_rfl) (by kernel_rfl) (by kernel_rfl) (fun _ _ _ h => h) (Or.inl ⟨by rfl, ?_⟩) hS ?_; rotate_left; focus ((intro w' hSw; clear hSw; go_simp) <;> with_reducible rfl)
      try simp only [Act.put, List.setIfInBounds_toArray, List.set_cons_zero, List.set_cons_succ]
      refine wpAnyH_take (i := 4) (v := ?_) (op_at rfl) (by kernel_rfl) (by kernel_rfl) (by kernel_rfl) (fun _ _ _ h => h) (Or.inl ⟨by rfl, ?_⟩) hS ?_; rotate_left; focus ((intro w' hSw; clear hSw; go_simp) <;> with_reducible rfl)
      try simp only [Act.put, List.setIfInBounds_toArray, List.set_cons_zero, List.set_cons_succ]
      refine wpAnyH_take (i := 5) (v := ?_) (op_at rfl) (by kernel_rfl) (by kernel_rfl) (by kernel_rfl) (fun _ _ _ h => h) (Or.inl ⟨by rfl, ?_⟩) hS ?_; rotate_left; focus ((intro w' hSw; clear hSw; go_simp) <;> with_reducible rfl)
      try simp only [Act.put, List.setIfInBounds_toArray, List.set_cons_zero, List.set_cons_succ]
      refine wpAnyH_take (i := 6) (v := ?_) (op_at rfl) (by kernel_rfl) (by kernel_rfl) (by kernel_rfl) (fun _ _ _ h => h) (Or.inl ⟨by rfl, ?_⟩) hS ?_; rotate_left; focus ((intro w' hSw; clear hSw; go_simp) <;> with_reducible rfl)
      try simp only [Act.put, List.setIfInBounds_toArray, List.set_cons_zero, List.set_cons_succ]
      refine wpAnyH_take (i := 7) (v := ?_) (op_at rfl) (by kernel_rfl) (by kernel_rfl) (by kernel_rfl) (fun _ _ _ h => h) (Or.inl ⟨by rfl, ?_⟩) hS ?_; rotate_left; focus ((intro w' hSw; clear hSw; go_simp) <;> with_reducible rfl)
      try simp only [Act.put, List.setIfInBounds_toArray, List.set_cons_zero, List.set_cons_succ]
      refine wpAnyH_done (by kernel_rfl) ?_ _
      obtain ⟨b0, b1, hb⟩ := hS
      replace B0 := Lib.hid b0
      clear b0
      replace B2 := Lib.hid b1
      clear b1
      replace HB := Lib.hid hb
      clear hb
      go_wp2_with fail
      refine wp_region_gen (S := (fun W' => Blk W' (w.heap.size) 24 #[.int .i64 2, .int .u64 1, .int .i64 5] ∧ Blk W' (g6) 24 #[.int .i64 2, .int .u64 1, .int .i64 5] ∧ Below w.heap.size w W')) (by kernel_rfl) ⟨(by repeat (first | exact B0.out | exact Blk.new' (by simp; done) | exact Blk.new' rfl | refine Blk.drew ?_ | refine Blk.alloc ?_ _)), (by repeat (first | exact B2.out | exact Blk.new' (by simp; done) | exact Blk.new' rfl | refine Blk.drew ?_ | refine Blk.alloc ?_ _)), (by repeat (first | exact HB.out | refine below_alloc ?_ _ | refine Below.drew ?_ | refine below_set ?_ (by omega) _))⟩ (fun w20 hS => ?_)
      refine wpAnyH_take (i := 0) (v := ?_) (op_at rfl) (by kernel_rfl) (by kernel_rfl) (by kernel_rfl) (fun _ _ _ h => h) (Or.inl ⟨by rfl, ?_⟩) hS ?_; rotate_left; focus ((intro w' hSw; obtain ⟨q, -⟩ := hSw; have c0 := q.at_ (i := 0) (v := .int .i64 2) rfl; have c1 := q.at_ (i := 1) (v := .int .u64 1) rfl; have c2 := q.at_ (i := 2) (v := .int .i64 5) rfl; clear q; go_simp) <;> with_reducible rfl)
      try simp only [Act.put, List.setIfInBounds_toArray, List.set_cons_zero, List.set_cons_succ]
      refine wpAnyH_ready (rs := [1]) (by kernel_rfl) (by simp) ?_
      refine (AllReadyH.cons (op_at rfl) (fun K hK => ?_) AllReadyH.nil)
      go_simp
      obtain ⟨b0, b1, hb⟩ := hS
      refine (H0.out _).mono ?_
      rintro e w21 ⟨rfl, hB⟩
      refine hK.out _ _ ⟨b0.after hB, b1.after hB, below_call hb hB⟩ (fun hS => ?_)
      clear hK K hB b0 b1 hb
      try simp only [Act.put, List.setIfInBounds_toArray, List.set_cons_zero, List.set_cons_succ]
      refine wpAnyH_ready (rs := [2]) (by kernel_rfl) (by simp) ?_
      refine (AllReadyH.cons (op_at rfl) (fun K hK => ?_) AllReadyH.nil)
      go_simp
      obtain ⟨b0, b1, hb⟩ := hS
      refine (H5.out _ (HH.out.up hb)).mono ?_
      rintro e w22 ⟨rfl, hB⟩
      refine hK.out _ _ ⟨b0.after hB, b1.after hB, below_call hb hB⟩ (fun hS => ?_)
      clear hK K hB b0 b1 hb
      try simp only [Act.put, List.setIfInBounds_toArray, List.set_cons_zero, List.set_cons_succ]
      refine wpAnyH_take (i := 3) (v := ?_) (op_at rfl) (by kernel_rfl) (by kernel_rfl) (by kernel_rfl) (fun _ _ _ h => h) (Or.inl ⟨by rfl, ?_⟩) hS ?_; rotate_left; focus ((intro w' hSw; clear hSw; go_simp) <;> with_reducible rfl)
      try simp only [Act.put, List.setIfInBounds_toArray, List.set_cons_zero, List.set_cons_succ]
      refine wpAnyH_take (i := 4) (v := ?_) (op_at rfl) (by kernel_rfl) (by kernel_rfl) (by kernel_rfl) (fun _ _ _ h => h) (Or.inl ⟨by rfl, ?_⟩) hS ?_; rotate_left; focus ((intro w' hSw; clear hSw; go_simp) <;> with_reducible rfl)
      try simp only [Act.put, List.setIfInBounds_toArray, List.set_cons_zero, List.set_cons_succ]
      refine wpAnyH_take (i := 5) (v := ?_) (op_at rfl) (by kernel_rfl) (by kernel_rfl) (by kernel_rfl) (fun _ _ _ h => h) (Or.inl ⟨by rfl, ?_⟩) hS ?_; rotate_left; focus ((intro w' hSw; clear hSw; go_simp) <;> with_reducible rfl)
      try simp only [Act.put, List.setIfInBounds_toArray, List.set_cons_zero, List.set_cons_succ]
      refine wpAnyH_take (i := 6) (v := ?_) (op_at rfl) (by kernel_rfl) (by kernel_rfl) (by kernel_rfl) (fun _ _ _ h => h) (Or.inl ⟨by rfl, ?_⟩) hS ?_; rotate_left; focus ((intro w' hSw; clear hSw; go_simp) <;> with_reducible rfl)
      try simp only [Act.put, List.setIfInBounds_toArray, List.set_cons_zero, List.set_cons_succ]
      refine wpAnyH_take (i := 7) (v := ?_) (op_at rfl) (by kernel_rfl) (by kernel_rfl) (by kernel_rfl) (fun _ _ _ h => h) (Or.inl ⟨by rfl, ?_⟩) hS ?_; rotate_left; focus ((intro w' hSw; clear hSw; go_simp) <;> with_reducible rfl)
      try simp only [Act.put, List.setIfInBounds_toArray, List.set_cons_zero, List.set_cons_succ]
      refine wpAnyH_done (by kernel_rfl) ?_ _
      obtain ⟨b0, b1, hb⟩ := hS
      replace B0 := Lib.hid b0
      clear b0
      replace B2 := Lib.hid b1
      clear b1
      replace HB := Lib.hid hb
      clear hb
      go_wp2_with fail
      refine wp_region_gen (S := (fun W' => Blk W' (w.heap.size) 24 #[.int .i64 2, .int .u64 1, .int .i64 5] ∧ Blk W' (g6) 24 #[.int .i64 2, .int .u64 1, .int .i64 5] ∧ Below w.heap.size w W')) (by kernel_rfl) ⟨(by repeat (first | exact B0.out | exact Blk.new' (by simp; done) | exact Blk.new' rfl | refine Blk.drew ?_ | refine Blk.alloc ?_ _)), (by repeat (first | exact B2.out | exact Blk.new' (by simp; done) | exact Blk.new' rfl | refine Blk.drew ?_ | refine Blk.alloc ?_ _)), (by repeat (first | exact HB.out | refine below_alloc ?_ _ | refine Below.drew ?_ | refine below_set ?_ (by omega) _))⟩ (fun w23 hS => ?_)
      refine wpAnyH_take (i := 0) (v := ?_) (op_at rfl) (by kernel_rfl) (by kernel_rfl) (by kernel_rfl) (fun _ _ _ h => h) (Or.inl ⟨by rfl, ?_⟩) hS ?_; rotate_left; focus ((intro w' hSw; obtain ⟨-, q, -⟩ := hSw; have c0 := q.at_ (i := 0) (v := .int .i64 2) rfl; have c1 := q.at_ (i := 1) (v := .int .u64 1) rfl; have c2 := q.at_ (i := 2) (v := .int .i64 5) rfl; clear q; go_simp) <;> with_reducible rfl)
      try simp only [Act.put, List.setIfInBounds_toArray, List.set_cons_zero, List.set_cons_succ]
      refine wpAnyH_take (i := 1) (v := ?_) (op_at rfl) (by kernel_rfl) (by kernel_rfl) (by kernel_rfl) (fun _ _ _ h => h) (Or.inl ⟨by rfl, ?_⟩) hS ?_; rotate_left; focus ((intro w' hSw; obtain ⟨q, -⟩ := hSw; have c0 := q.at_ (i := 0) (v := .int .i64 2) rfl; have c1 := q.at_ (i := 1) (v := .int .u64 1) rfl; have c2 := q.at_ (i := 2) (v := .int .i64 5) rfl; clear q; go_simp) <;> with_reducible rfl)
      try simp only [Act.put, List.setIfInBounds_toArray, List.set_cons_zero, List.set_cons_succ]
      refine wpAnyH_take (i := 2) (v := ?_) (op_at rfl) (by kernel_rfl) (by kernel_rfl) (by kernel_rfl) (fun _ _ _ h => h) (Or.inl ⟨by rfl, ?_⟩) hS ?_; rotate_left; focus ((intro w' hSw; clear hSw; go_simp) <;> with_reducible rfl)
      try simp only [Act.put, List.setIfInBounds_toArray, List.set_cons_zero, List.set_cons_succ]
      refine wpAnyH_take (i := 3) (v := ?_) (op_at rfl) (by kernel_rfl) (by kernel_rfl) (by kernel_rfl) (fun _ _ _ h => h) (Or.inl ⟨by rfl, ?_⟩) hS ?_; rotate_left; focus ((intro w' hSw; clear hSw; go_simp) <;> with_reducible rfl)
      try simp only [Act.put, List.setIfInBounds_toArray, List.set_cons_zero, List.set_cons_succ]
      refine wpAnyH_take (i := 4) (v := ?_) (op_at rfl) (by kernel_rfl) (by kernel_rfl) (by kernel_rfl) (fun _ _ _ h => h) (Or.inl ⟨by rfl, ?_⟩) hS ?_; rotate_left; focus ((intro w' hSw; clear hSw; go_simp) <;> with_reducible rfl)
      try simp only [Act.put, List.setIfInBounds_toArray, List.set_cons_zero, List.set_cons_succ]
      refine wpAnyH_take (i := 5) (v := ?_) (op_at rfl) (by kernel_rfl) (by kernel_rfl) (by kernel_rfl) (fun _ _ _ h => h) (Or.inl ⟨by rfl, ?_⟩) hS ?_; rotate_left; focus ((intro w' hSw; clear hSw; go_simp) <;> with_reducible rfl)
      try simp only [Act.put, List.setIfInBounds_toArray, List.set_cons_zero, List.set_cons_succ]
      refine wpAnyH_take (i := 6) (v := ?_) (op_at rfl) (by kernel_rfl) (by kernel_rfl) (by kernel_rfl) (fun _ _ _ h => h) (Or.inl ⟨by rfl, ?_⟩) hS ?_; rotate_left; focus ((intro w' hSw; clear hSw; go_simp) <;> with_reducible rfl)
      try simp only [Act.put, List.setIfInBounds_toArray, List.set_cons_zero, List.set_cons_succ]
      refine wpAnyH_take (i := 7) (v := ?_) (op_at rfl) (by kernel_rfl) (by kernel_rfl) (by kernel_rfl) (fun _ _ _ h => h) (Or.inl ⟨by rfl, ?_⟩) hS ?_; rotate_left; focus ((intro w' hSw; clear hSw; go_simp) <;> with_reducible rfl)
      try simp only [Act.put, List.setIfInBounds_toArray, List.set_cons_zero, List.set_cons_succ]
      refine wpAnyH_take (i := 8) (v := ?_) (op_at rfl) (by kernel_rfl) (by kernel_rfl) (by kernel_rfl) (fun _ _ _ h => h) (Or.inl ⟨by rfl, ?_⟩) hS ?_; rotate_left; focus ((intro w' hSw; clear hSw; go_simp) <;> with_reducible rfl)
      try simp only [Act.put, List.setIfInBounds_toArray, List.set_cons_zero, List.set_cons_succ]
      refine wpAnyH_take (i := 9) (v := ?_) (op_at rfl) (by kernel_rfl) (by kernel_rfl) (by kernel_rfl) (fun _ _ _ h => h) (Or.inl ⟨by rfl, ?_⟩) hS ?_; rotate_left; focus ((intro w' hSw; clear hSw; go_simp) <;> with_reducible rfl)
      try simp only [Act.put, List.setIfInBounds_toArray, List.set_cons_zero, List.set_cons_succ]
      refine wpAnyH_take (i := 10) (v := ?_) (op_at rfl) (by kernel_rfl) (by kernel_rfl) (by kernel_rfl) (fun _ _ _ h => h) (Or.inl ⟨by rfl, ?_⟩) hS ?_; rotate_left; focus ((intro w' hSw; clear hSw; go_simp) <;> with_reducible rfl)
      try simp only [Act.put, List.setIfInBounds_toArray, List.set_cons_zero, List.set_cons_succ]
      refine wpAnyH_take (i := 11) (v := ?_) (op_at rfl) (by kernel_rfl) (by kernel_rfl) (by kernel_rfl) (fun _ _ _ h => h) (Or.inl ⟨by rfl, ?_⟩) hS ?_; rotate_left; focus ((intro w' hSw; clear hSw; go_simp) <;> with_reducible rfl)
      try simp only [Act.put, List.setIfInBounds_toArray, List.set_cons_zero, List.set_cons_succ]
      refine wpAnyH_take (i := 12) (v := ?_) (op_at rfl) (by kernel_rfl) (by kernel_rfl) (by kernel_rfl) (fun _ _ _ h => h) (Or.inl ⟨by rfl, ?_⟩) hS ?_; rotate_left; focus ((intro w' hSw; clear hSw; go_simp) <;> with_reducible rfl)
      try simp only [Act.put, List.setIfInBounds_toArray, List.set_cons_zero, List.set_cons_succ]
      refine wpAnyH_take (i := 13) (v := ?_) (op_at rfl) (by kernel_rfl) (by kernel_rfl) (by kernel_rfl) (fun _ _ _ h => h) (Or.inl ⟨by rfl, ?_⟩) hS ?_; rotate_left; focus ((intro w' hSw; clear hSw; go_simp) <;> with_reducible rfl)
      try simp only [Act.put, List.setIfInBounds_toArray, List.set_cons_zero, List.set_cons_succ]
      refine wpAnyH_take (i := 14) (v := ?_) (op_at rfl) (by kernel_rfl) (by kernel_rfl) (by kernel_rfl) (fun _ _ _ h => h) (Or.inl ⟨by rfl, ?_⟩) hS ?_; rotate_left; focus ((intro w' hSw; clear hSw; go_simp) <;> with_reducible rfl)
      try simp only [Act.put, List.setIfInBounds_toArray, List.set_cons_zero, List.set_cons_succ]
      refine wpAnyH_take (i := 15) (v := ?_) (op_at rfl) (by kernel_rfl) (by kernel_rfl) (by kernel_rfl) (fun _ _ _ h => h) (Or.inl ⟨by rfl, ?_⟩) hS ?_; rotate_left; focus ((intro w' hSw; clear hSw; go_simp) <;> with_reducible rfl)
      try simp only [Act.put, List.setIfInBounds_toArray, List.set_cons_zero, List.set_cons_succ]
      refine wpAnyH_take (i := 16) (v := ?_) (op_at rfl) (by kernel_rfl) (by kernel_rfl) (by kernel_rfl) (fun _ _ _ h => h) (Or.inl ⟨by rfl, ?_⟩) hS ?_; rotate_left; focus ((intro w' hSw; clear hSw; go_simp) <;> with_reducible rfl)
      try simp only [Act.put, List.setIfInBounds_toArray, List.set_cons_zero, List.set_cons_succ]
      refine wpAnyH_take (i := 17) (v := ?_) (op_at rfl) (by kernel_rfl) (by kernel_rfl) (by kernel_rfl) (fun _ _ _ h => h) (Or.inl ⟨by rfl, ?_⟩) hS ?_; rotate_left; focus ((intro w' hSw; clear hSw; go_simp) <;> with_reducible rfl)
      try simp only [Act.put, List.setIfInBounds_toArray, List.set_cons_zero, List.set_cons_succ]
      refine wpAnyH_take (i := 18) (v := ?_) (op_at rfl) (by kernel_rfl) (by kernel_rfl) (by kernel_rfl) (fun _ _ _ h => h) (Or.inl ⟨by rfl, ?_⟩) hS ?_; rotate_left; focus ((intro w' hSw; clear hSw; go_simp) <;> with_reducible rfl)
      try simp only [Act.put, List.setIfInBounds_toArray, List.set_cons_zero, List.set_cons_succ]
      refine wpAnyH_take (i := 19) (v := ?_) (op_at rfl) (by kernel_rfl) (by kernel_rfl) (by kernel_rfl) (fun _ _ _ h => h) (Or.inl ⟨by rfl, ?_⟩) hS ?_; rotate_left; focus ((intro w' hSw; clear hSw; go_simp) <;> with_reducible rfl)
      try simp only [Act.put, List.setIfInBounds_toArray, List.set_cons_zero, List.set_cons_succ]
      refine wpAnyH_take (i := 20) (v := ?_) (op_at rfl) (by kernel_rfl) (by kernel_rfl) (by kernel_rfl) (fun _ _ _ h => h) (Or.inl ⟨by rfl, ?_⟩) hS ?_; rotate_left; focus ((intro w' hSw; clear hSw; go_simp) <;> with_reducible rfl)
      try simp only [Act.put, List.setIfInBounds_toArray, List.set_cons_zero, List.set_cons_succ]
      refine wpAnyH_take (i := 21) (v := ?_) (op_at rfl) (by kernel_rfl) (by kernel_rfl) (by kernel_rfl) (fun _ _ _ h => h) (Or.inl ⟨by rfl, ?_⟩) hS ?_; rotate_left; focus ((intro w' hSw; clear hSw; go_simp) <;> with_reducible rfl)
      try simp only [Act.put, List.setIfInBounds_toArray, List.set_cons_zero, List.set_cons_succ]
      refine wpAnyH_take (i := 22) (v := ?_) (op_at rfl) (by kernel_rfl) (by kernel_rfl) (by kernel_rfl) (fun _ _ _ h => h) (Or.inl ⟨by rfl, ?_⟩) hS ?_; rotate_left; focus ((intro w' hSw; clear hSw; go_simp) <;> with_reducible rfl)
      try simp only [Act.put, List.setIfInBounds_toArray, List.set_cons_zero, List.set_cons_succ]
      refine wpAnyH_take (i := 23) (v := ?_) (op_at rfl) (by kernel_rfl) (by kernel_rfl) (by kernel_rfl) (fun _ _ _ h => h) (Or.inl ⟨by rfl, ?_⟩) hS ?_; rotate_left; focus ((intro w' hSw; obtain ⟨q, -⟩ := hSw; have c0 := q.at_ (i := 0) (v := .int .i64 2) rfl; have c1 := q.at_ (i := 1) (v := .int .u64 1) rfl; have c2 := q.at_ (i := 2) (v := .int .i64 5) rfl; clear q; go_simp) <;> with_reducible rfl)
      try simp only [Act.put, List.setIfInBounds_toArray, List.set_cons_zero, List.set_cons_succ]
      refine wpAnyH_ready (rs := [24]) (by kernel_rfl) (by simp) ?_
      refine (AllReadyH.cons (op_at rfl) (fun K hK => ?_) AllReadyH.nil)
      go_simp
      obtain ⟨b0, b1, hb⟩ := hS
      refine (H0.out _).mono ?_
      rintro e w24 ⟨rfl, hB⟩
      refine hK.out _ _ ⟨b0.after hB, b1.after hB, below_call hb hB⟩ (fun hS => ?_)
      clear hK K hB b0 b1 hb
      try simp only [Act.put, List.setIfInBounds_toArray, List.set_cons_zero, List.set_cons_succ]
      refine wpAnyH_ready (rs := [25]) (by kernel_rfl) (by simp) ?_
      refine (AllReadyH.cons (op_at rfl) (fun K hK => ?_) AllReadyH.nil)
      go_simp
      obtain ⟨b0, b1, hb⟩ := hS
      refine (H6.out _).mono ?_
      rintro e w25 ⟨rfl, hB⟩
      refine hK.out _ _ ⟨b0.after hB, b1.after hB, below_call hb hB⟩ (fun hS => ?_)
      clear hK K hB b0 b1 hb
      try simp only [Act.put, List.setIfInBounds_toArray, List.set_cons_zero, List.set_cons_succ]
      refine wpAnyH_take (i := 26) (v := ?_) (op_at rfl) (by kernel_rfl) (by kernel_rfl) (by kernel_rfl) (fun _ _ _ h => h) (Or.inl ⟨by rfl, ?_⟩) hS ?_; rotate_left; focus ((intro w' hSw; clear hSw; go_simp) <;> with_reducible rfl)
      try simp only [Act.put, List.setIfInBounds_toArray, List.set_cons_zero, List.set_cons_succ]
      refine wpAnyH_take (i := 27) (v := ?_) (op_at rfl) (by kernel_rfl) (by kernel_rfl) (by kernel_rfl) (fun _ _ _ h => h) (Or.inl ⟨by rfl, ?_⟩) hS ?_; rotate_left; focus ((intro w' hSw; clear hSw; go_simp) <;> with_reducible rfl)
      try simp only [Act.put, List.setIfInBounds_toArray, List.set_cons_zero, List.set_cons_succ]
      refine wpAnyH_take (i := 28) (v := ?_) (op_at rfl) (by kernel_rfl) (by kernel_rfl) (by kernel_rfl) (fun _ _ _ h => h) (Or.inl ⟨by rfl, ?_⟩) hS ?_; rotate_left; focus ((intro w' hSw; obtain ⟨q, -⟩ := hSw; have c0 := q.at_ (i := 0) (v := .int .i64 2) rfl; have c1 := q.at_ (i := 1) (v := .int .u64 1) rfl; have c2 := q.at_ (i := 2) (v := .int .i64 5) rfl; clear q; go_simp) <;> with_reducible rfl)
      try simp only [Act.put, List.setIfInBounds_toArray, List.set_cons_zero, List.set_cons_succ]
      refine wpAnyH_take (i := 29) (v := ?_) (op_at rfl) (by kernel_rfl) (by kernel_rfl) (by kernel_rfl) (fun _ _ _ h => h) (Or.inl ⟨by rfl, ?_⟩) hS ?_; rotate_left; focus ((intro w' hSw; obtain ⟨q, -⟩ := hSw; have c0 := q.at_ (i := 0) (v := .int .i64 2) rfl; have c1 := q.at_ (i := 1) (v := .int .u64 1) rfl; have c2 := q.at_ (i := 2) (v := .int .i64 5) rfl; clear q; go_simp) <;> with_reducible rfl)
      try simp only [Act.put, List.setIfInBounds_toArray, List.set_cons_zero, List.set_cons_succ]
      refine wpAnyH_ready (rs := [30]) (by kernel_rfl) (by simp) ?_
      refine (AllReadyH.cons (op_at rfl) (fun K hK => ?_) AllReadyH.nil)
      go_simp
      obtain ⟨b0, b1, hb⟩ := hS
      refine (H7.out _).mono ?_
      rintro e w26 ⟨rfl, hB⟩
      refine hK.out _ _ ⟨b0.after hB, b1.after hB, below_call hb hB⟩ (fun hS => ?_)
      clear hK K hB b0 b1 hb
      try simp only [Act.put, List.setIfInBounds_toArray, List.set_cons_zero, List.set_cons_succ]
      refine wpAnyH_take (i := 31) (v := ?_) (op_at rfl) (by kernel_rfl) (by kernel_rfl) (by kernel_rfl) (fun _ _ _ h => h) (Or.inl ⟨by rfl, ?_⟩) hS ?_; rotate_left; focus ((intro w' hSw; clear hSw; go_simp) <;> with_reducible rfl)
      try simp only [Act.put, List.setIfInBounds_toArray, List.set_cons_zero, List.set_cons_succ]
      refine wpAnyH_take (i := 32) (v := ?_) (op_at rfl) (by kernel_rfl) (by kernel_rfl) (by kernel_rfl) (fun _ _ _ h => h) (Or.inl ⟨by rfl, ?_⟩) hS ?_; rotate_left; focus ((intro w' hSw; clear hSw; go_simp) <;> with_reducible rfl)
      try simp only [Act.put, List.setIfInBounds_toArray, List.set_cons_zero]
      refine wpAnyH_done (by kernel_rfl) ?_ _
      obtain ⟨b0, b1, hb⟩ := hS
      replace B0 := Lib.hid b0
      clear b0
      replace B2 := Lib.hid b1
      clear b1
      replace HB := Lib.hid hb
      clear hb
      go_wp2_with fail
      go_ret
      exact ⟨rfl, (by repeat (first | exact HB.out | refine below_alloc ?_ _ | refine Below.drew ?_ | refine below_set ?_ (by omega) _))⟩
theorem shown_any (sa : Addr) (w : World) (hh : Env sa w) : Calls Tryd.prog 11 #[] w (Yes w) :=
  shown_core sa w hh (fun W => Bottom_any W) (fun W hW => Float_any ⟨0, 0#64, 7⟩ ⟨2, 1#64, 5⟩ ⟨3, 3#64, 0⟩ sa W hW) (fun W => Top_any W) (fun W hW => Float_any ⟨0, 0#64, 7⟩ ⟨15, 18446744073709551615#64, 0⟩ ⟨3, 3#64, 0⟩ sa W hW) (fun W hW => Send_any ⟨0, 0#64, 7⟩ ⟨2, 1#64, 5⟩ sa W hW) (fun W hW => Send_any ⟨2, 1#64, 5⟩ ⟨0, 0#64, 7⟩ sa W hW) (fun W => Reads_any ⟨2, 1#64, 5⟩ ⟨0, 0#64, 7⟩ W) (fun W => Writes_any ⟨2, 1#64, 5⟩ ⟨2, 1#64, 5⟩ W)
theorem zeroIs : ∀ W, (binOp .eql 24 (.agg #[.int .i64 zeroL.lv, .int .u64 (u zeroL.c), .int .i64 zeroL.ig]) (.agg #[.int .i64 0, .int .u64 0, .int .i64 0])).run Tryd.prog W = .ok (.bool true) W := fun W => eql_lab zeroL zeroL W
theorem float_bad {cur a high : Lab} (h : ¬ (okL cur = true ∧ okL a = true ∧ okL high = true)) : floatL cur a high = zeroL ∧ floatE cur a high = 20 := by
  have e : (okL cur && okL a && okL high) = false := nbool fun k => h (by simpa [and_assoc] using k)
  unfold floatL floatE
  rw [e]; exact ⟨rfl, rfl⟩
theorem float_high {cur a high : Lab} (hc : okL cur = true) (ha : okL a = true) (hg : okL high = true) (hl : ¬ le3 (joinL cur a) high = true) : floatL cur a high = zeroL ∧ floatE cur a high = 120 := by
  unfold floatL floatE
  rw [hc, ha, hg]
  exact ⟨if_neg hl, if_neg hl⟩
theorem float_ok {cur a high : Lab} (hc : okL cur = true) (ha : okL a = true) (hg : okL high = true) (hl : le3 (joinL cur a) high = true) : floatL cur a high = joinL cur a ∧ floatE cur a high = 0 := by
  unfold floatL floatE
  rw [hc, ha, hg]
  exact ⟨if_pos hl, if_pos hl⟩
end Go.Proofs.YtmbafllkiofhnaaDoor
