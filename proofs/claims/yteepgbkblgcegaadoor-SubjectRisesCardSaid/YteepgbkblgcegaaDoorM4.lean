/-
  THE WALKS OF PACKAGE subject: the closures of Float, Start (printed by wip/gensub10.py).
  THE WALKS OF PACKAGE subject: Start, path by path (printed by wip/gensub11.py).
  THE WALKS OF PACKAGE subject: Start, path by path (printed by wip/gensub11.py).
  THE WALKS OF PACKAGE plimsollref16: Start, path by path (printed by wip/gensub12.py).
-/
import Derived.Test.YteepgbkblgcegaaDoorM3
namespace Go.Proofs.YteepgbkblgcegaaDoor

section
open Go.RowKit

attribute [local go_sem] u_and u_or u_andNot u_add u_sub u_bit u_eq_zero u_beq

set_option maxRecDepth 100000 in
set_option maxHeartbeats 4000000 in
theorem start_do_ok (pb wb xb cb eb g m cap k c : Nat) (who : Int) (p x : Sub) (l : List Sub) (r : List Value) (cs : Array Value) (w0 w : World) (hbw : Below w0.heap.size w0 w) (hp : Blk w pb 54 #[.pointer (some ⟨eb, 0, none⟩)]) (hw : Blk w wb 3 #[.int .i64 k]) (ha : Blk w xb 41 #[.int .i64 x.par, .int .i64 x.st, .int .i64 x.cur.lv, .int .u64 (u x.cur.c), .int .i64 x.cur.ig, .int .i64 x.high.lv, .int .u64 (u x.high.c), .int .i64 x.high.ig]) (hcb : Blk w cb 3 #[.int .i64 c]) (he : Blk w eb 63 #[.slice (some ⟨g, 0, none⟩) m cap, .int .i64 who, .nilIface]) (hg : Blk w g 41 cs)
    (hk : k < m) (hc : c < m) (hr : cs.toList = (l.flatMap fun x => (encS x).toList) ++ r) (hp2 : l[k]? = some p) (hx2 : l[c]? = some x) (hu : underL p.cur x.high = true) (n1 : w0.heap.size ≤ eb) (n2 : w0.heap.size ≤ g) (n3 : pb ≠ g) (n4 : wb ≠ g) (n5 : xb ≠ g) (n6 : eb ≠ g) (n7 : pb ≠ eb) (n8 : wb ≠ eb) (n9 : xb ≠ eb) (n10 : cb ≠ g) (n11 : cb ≠ eb) :
    Calls Tryd.prog 36 #[.pointer (some ⟨pb, 0, none⟩), .pointer (some ⟨wb, 0, none⟩), .pointer (some ⟨xb, 0, none⟩), .pointer (some ⟨cb, 0, none⟩)] w fun e w' => e = .returned (.tuple #[]) ∧ Blk w' eb 63 #[.slice (some ⟨g, 0, none⟩) m cap, .int .i64 who, .nilIface] ∧ (∃ cs', Blk w' g 41 cs' ∧ cs'.toList = ((l.set c { x with st := 1, cur := p.cur }).flatMap fun x => (encS x).toList) ++ r) ∧ Below w0.heap.size w0 w' := by
  have HB := Lib.hid hbw
  have B0 := Lib.hid hp
  have B1 := Lib.hid hw
  have B2 := Lib.hid ha
  have B3 := Lib.hid hcb
  have B4 := Lib.hid he
  have B5 := Lib.hid hg
  have HU := Lib.hid hu
  have HR := Lib.hid hr
  have HX := Lib.hid hx2
  have HO2 : Hid (cs[k * 8 + 2]? = some (.int .i64 p.cur.lv)) := Lib.hid (tab_cell (j := 2) hr hp2 rfl)
  have HO3 : Hid (cs[k * 8 + 3]? = some (.int .u64 (u p.cur.c))) := Lib.hid (tab_cell (j := 3) hr hp2 rfl)
  have HO4 : Hid (cs[k * 8 + 4]? = some (.int .i64 p.cur.ig)) := Lib.hid (tab_cell (j := 4) hr hp2 rfl)
  have HC1 : Hid (cs[c * 8 + 1]? = some (.int .i64 x.st)) := Lib.hid (tab_cell (j := 1) hr hx2 rfl)
  have HC2 : Hid (cs[c * 8 + 2]? = some (.int .i64 x.cur.lv)) := Lib.hid (tab_cell (j := 2) hr hx2 rfl)
  have HC3 : Hid (cs[c * 8 + 3]? = some (.int .u64 (u x.cur.c))) := Lib.hid (tab_cell (j := 3) hr hx2 rfl)
  have HC4 : Hid (cs[c * 8 + 4]? = some (.int .i64 x.cur.ig)) := Lib.hid (tab_cell (j := 4) hr hx2 rfl)
  have hkz : (0 : Int) ≤ (k : Int) := by omega
  have hkz2 : (k : Int) < (m : Int) := by omega
  have hcz : (0 : Int) ≤ (c : Int) := by omega
  have hcz2 : (c : Int) < (m : Int) := by omega
  have l1 : pb < w.heap.size := hp.lt
  have l2 : wb < w.heap.size := hw.lt
  have l3 : xb < w.heap.size := ha.lt
  have l4 : eb < w.heap.size := he.lt
  have l5 : g < w.heap.size := hg.lt
  clear hbw hp hw ha hcb he hg hu hr hp2 hx2
  go_enter Tryd.func36, Tryd.ntmps36
  go_wp2_with fail
  refine wp_region_gen (S := (fun W' => Blk W' (pb) 54 #[.pointer (some ⟨eb, 0, none⟩)] ∧ Blk W' (wb) 3 #[.int .i64 k] ∧ Blk W' (xb) 41 #[.int .i64 x.par, .int .i64 x.st, .int .i64 x.cur.lv, .int .u64 (u x.cur.c), .int .i64 x.cur.ig, .int .i64 x.high.lv, .int .u64 (u x.high.c), .int .i64 x.high.ig] ∧ Blk W' (cb) 3 #[.int .i64 c] ∧ Blk W' (eb) 63 #[.slice (some ⟨g, 0, none⟩) m cap, .int .i64 who, .nilIface] ∧ Blk W' (g) 41 cs ∧ Below w0.heap.size w0 W')) (by kernel_rfl) ⟨(by repeat (first | exact B0.out | exact Blk.new' (by simp; done) | exact Blk.new' rfl | refine Blk.drew ?_ | refine Blk.alloc ?_ _)), (by repeat (first | exact B1.out | exact Blk.new' (by simp; done) | exact Blk.new' rfl | refine Blk.drew ?_ | refine Blk.alloc ?_ _)), (by repeat (first | exact B2.out | exact Blk.new' (by simp; done) | exact Blk.new' rfl | refine Blk.drew ?_ | refine Blk.alloc ?_ _)), (by repeat (first | exact B3.out | exact Blk.new' (by simp; done) | exact Blk.new' rfl | refine Blk.drew ?_ | refine Blk.alloc ?_ _)), (by repeat (first | exact B4.out | exact Blk.new' (by simp; done) | exact Blk.new' rfl | refine Blk.drew ?_ | refine Blk.alloc ?_ _)), (by repeat (first | exact B5.out | exact Blk.new' (by simp; done) | exact Blk.new' rfl | refine Blk.drew ?_ | refine Blk.alloc ?_ _)), (by repeat (first | exact HB.out | refine below_alloc ?_ _ | refine Below.drew ?_ | refine below_set ?_ (by omega) _))⟩ (fun w1 hS => ?_)
  refine wpAnyH_take (i := 0) (v := ?_) (op_at rfl) (by kernel_rfl) (by kernel_rfl) (by kernel_rfl) (fun _ _ _ h => h) (Or.inl ⟨by rfl, ?_⟩) hS ?_; rotate_left; focus ((intro w' hSw; obtain ⟨q, -⟩ := hSw; have c0 := q.at_ (i := 0) (v := .pointer (some ⟨eb, 0, none⟩)) rfl; clear q; go_simp) <;> with_reducible rfl)
  try simp only [Act.put, List.setIfInBounds_toArray, List.set_cons_zero, List.set_cons_succ]
  refine wpAnyH_take (i := 1) (v := ?_) (op_at rfl) (by kernel_rfl) (by kernel_rfl) (by kernel_rfl) (fun _ _ _ h => h) (Or.inl ⟨by rfl, ?_⟩) hS ?_; rotate_left; focus ((intro w' hSw; clear hSw; go_simp) <;> with_reducible rfl)
  try simp only [Act.put, List.setIfInBounds_toArray, List.set_cons_zero, List.set_cons_succ]
  refine wpAnyH_take (i := 2) (v := ?_) (op_at rfl) (by kernel_rfl) (by kernel_rfl) (by kernel_rfl) (fun _ _ _ h => h) (Or.inl ⟨by rfl, ?_⟩) hS ?_; rotate_left; focus ((intro w' hSw; clear hSw; go_simp) <;> with_reducible rfl)
  try simp only [Act.put, List.setIfInBounds_toArray, List.set_cons_zero, List.set_cons_succ]
  refine wpAnyH_take (i := 3) (v := ?_) (op_at rfl) (by kernel_rfl) (by kernel_rfl) (by kernel_rfl) (fun _ _ _ h => h) (Or.inl ⟨by rfl, ?_⟩) hS ?_; rotate_left; focus ((intro w' hSw; clear hSw; go_simp) <;> with_reducible rfl)
  try simp only [Act.put, List.setIfInBounds_toArray, List.set_cons_zero, List.set_cons_succ]
  refine wpAnyH_take (i := 4) (v := ?_) (op_at rfl) (by kernel_rfl) (by kernel_rfl) (by kernel_rfl) (fun _ _ _ h => h) (Or.inl ⟨by rfl, ?_⟩) hS ?_; rotate_left; focus ((intro w' hSw; obtain ⟨-, -, -, -, q, -⟩ := hSw; have c0 := q.at_ (i := 0) (v := .slice (some ⟨g, 0, none⟩) m cap) rfl; clear q; go_simp) <;> with_reducible rfl)
  try simp only [Act.put, List.setIfInBounds_toArray, List.set_cons_zero, List.set_cons_succ]
  refine wpAnyH_take (i := 5) (v := ?_) (op_at rfl) (by kernel_rfl) (by kernel_rfl) (by kernel_rfl) (fun _ _ _ h => h) (Or.inl ⟨by rfl, ?_⟩) hS ?_; rotate_left; focus ((intro w' hSw; obtain ⟨-, q, -⟩ := hSw; have c0 := q.at_ (i := 0) (v := .int .i64 k) rfl; clear q; go_simp) <;> with_reducible rfl)
  try simp only [Act.put, List.setIfInBounds_toArray, List.set_cons_zero, List.set_cons_succ]
  refine wpAnyH_take (i := 6) (v := ?_) (op_at rfl) (by kernel_rfl) (by kernel_rfl) (by kernel_rfl) (fun _ _ _ h => h) (Or.inl ⟨by rfl, ?_⟩) hS ?_; rotate_left; focus ((intro w' hSw; clear hSw; go_simp) <;> with_reducible rfl)
  try simp only [Act.put, List.setIfInBounds_toArray, List.set_cons_zero, List.set_cons_succ]
  refine wpAnyH_take (i := 7) (v := ?_) (op_at rfl) (by kernel_rfl) (by kernel_rfl) (by kernel_rfl) (fun _ _ _ h => h) (Or.inl ⟨by rfl, ?_⟩) hS ?_; rotate_left; focus ((intro w' hSw; clear hSw; go_simp) <;> with_reducible rfl)
  try simp only [Act.put, List.setIfInBounds_toArray, List.set_cons_zero, List.set_cons_succ]
  refine wpAnyH_take (i := 8) (v := ?_) (op_at rfl) (by kernel_rfl) (by kernel_rfl) (by kernel_rfl) (fun _ _ _ h => h) (Or.inl ⟨by rfl, ?_⟩) hS ?_; rotate_left; focus ((intro w' hSw; obtain ⟨-, -, -, -, -, q, -⟩ := hSw; have c2 : w'.cell? ⟨g, k * 8 + 2, none⟩ = some (.int .i64 p.cur.lv) := q.at_ HO2.out; have c3 : w'.cell? ⟨g, k * 8 + 3, none⟩ = some (.int .u64 (u p.cur.c)) := q.at_ HO3.out; have c4 : w'.cell? ⟨g, k * 8 + 4, none⟩ = some (.int .i64 p.cur.ig) := q.at_ HO4.out; clear q; go_simp) <;> with_reducible rfl)
  try simp only [Act.put, List.setIfInBounds_toArray, List.set_cons_zero, List.set_cons_succ]
  refine wpAnyH_ready (rs := [9]) (by kernel_rfl) (by simp) ?_
  refine (AllReadyH.cons (op_at rfl) (fun K hK => ?_) AllReadyH.nil)
  go_simp
  obtain ⟨b0, b1, b2, b3, b4, b5, hb⟩ := hS
  have N0 : Hid (Blk (w1.alloc (.cells #[.int .i64 0, .int .u64 0, .int .i64 0] 25)) w1.heap.size 25 #[.int .i64 0, .int .u64 0, .int .i64 0]) := Lib.hid (Blk.new' rfl)
  have d0_N0 : pb ≠ w1.heap.size := Nat.ne_of_lt b0.lt
  have d1_N0 : wb ≠ w1.heap.size := Nat.ne_of_lt b1.lt
  have d2_N0 : xb ≠ w1.heap.size := Nat.ne_of_lt b2.lt
  have d3_N0 : cb ≠ w1.heap.size := Nat.ne_of_lt b3.lt
  have d4_N0 : eb ≠ w1.heap.size := Nat.ne_of_lt b4.lt
  have d5_N0 : g ≠ w1.heap.size := Nat.ne_of_lt b5.lt
  have dd_N0 : w0.heap.size ≤ w1.heap.size := hb.size
  refine hK.out _ _ ⟨b0.alloc _, b1.alloc _, b2.alloc _, b3.alloc _, b4.alloc _, b5.alloc _, below_alloc hb _⟩ (fun hS => ?_)
  clear hK K b0 b1 b2 b3 b4 b5 hb
  try simp only [Act.put, List.setIfInBounds_toArray, List.set_cons_zero, List.set_cons_succ]
  refine wpAnyH_ready (rs := [10]) (by kernel_rfl) (by simp) ?_
  refine (AllReadyH.cons (op_at rfl) (fun K hK => ?_) AllReadyH.nil)
  go_simp
  obtain ⟨b0, b1, b2, b3, b4, b5, hb⟩ := hS
  refine hK.out _ _ ⟨(Blk.realloc b0 d0_N0), (Blk.realloc b1 d1_N0), (Blk.realloc b2 d2_N0), (Blk.realloc b3 d3_N0), (Blk.realloc b4 d4_N0), (Blk.realloc b5 d5_N0), (below_realloc hb dd_N0)⟩ (fun hS => ?_)
  replace N0 : Hid (Blk (w1.alloc (.cells #[.int .i64 p.cur.lv, .int .u64 (u p.cur.c), .int .i64 p.cur.ig] 25)) w1.heap.size 25 #[.int .i64 p.cur.lv, .int .u64 (u p.cur.c), .int .i64 p.cur.ig]) := Lib.hid (Blk.new' rfl)
  clear hK K b0 b1 b2 b3 b4 b5 hb
  try simp only [Act.put, List.setIfInBounds_toArray, List.set_cons_zero, List.set_cons_succ]
  refine wpAnyH_done (by kernel_rfl) ?_ _
  obtain ⟨b0, b1, b2, b3, b4, b5, hb⟩ := hS
  replace B0 := Lib.hid b0
  clear b0
  replace B1 := Lib.hid b1
  clear b1
  replace B2 := Lib.hid b2
  clear b2
  replace B3 := Lib.hid b3
  clear b3
  replace B4 := Lib.hid b4
  clear b4
  replace B5 := Lib.hid b5
  clear b5
  have B6 := N0
  clear N0
  replace HB := Lib.hid hb
  clear hb
  go_wp2_with fail
  refine wp_region_gen2 (S := (fun W' => Blk W' (pb) 54 #[.pointer (some ⟨eb, 0, none⟩)] ∧ Blk W' (wb) 3 #[.int .i64 k] ∧ Blk W' (xb) 41 #[.int .i64 x.par, .int .i64 x.st, .int .i64 x.cur.lv, .int .u64 (u x.cur.c), .int .i64 x.cur.ig, .int .i64 x.high.lv, .int .u64 (u x.high.c), .int .i64 x.high.ig] ∧ Blk W' (cb) 3 #[.int .i64 c] ∧ Blk W' (g) 41 cs ∧ Blk W' (w1.heap.size) 25 #[.int .i64 p.cur.lv, .int .u64 (u p.cur.c), .int .i64 p.cur.ig] ∧ Below w0.heap.size w0 W')) (N := (fun W' => Blk W' (eb) 63 #[.slice (some ⟨g, 0, none⟩) m cap, .int .i64 who, .nilIface])) (by kernel_rfl) ⟨(by repeat (first | exact B0.out | exact Blk.new' (by simp; done) | exact Blk.new' rfl | refine Blk.drew ?_ | refine Blk.alloc ?_ _)), (by repeat (first | exact B1.out | exact Blk.new' (by simp; done) | exact Blk.new' rfl | refine Blk.drew ?_ | refine Blk.alloc ?_ _)), (by repeat (first | exact B2.out | exact Blk.new' (by simp; done) | exact Blk.new' rfl | refine Blk.drew ?_ | refine Blk.alloc ?_ _)), (by repeat (first | exact B3.out | exact Blk.new' (by simp; done) | exact Blk.new' rfl | refine Blk.drew ?_ | refine Blk.alloc ?_ _)), (by repeat (first | exact B5.out | exact Blk.new' (by simp; done) | exact Blk.new' rfl | refine Blk.drew ?_ | refine Blk.alloc ?_ _)), (by repeat (first | exact B6.out | exact Blk.new' (by simp; done) | exact Blk.new' rfl | refine Blk.drew ?_ | refine Blk.alloc ?_ _)), (by repeat (first | exact HB.out | refine below_alloc ?_ _ | refine Below.drew ?_ | refine below_set ?_ (by omega) _))⟩ (by repeat (first | exact B4.out | exact Blk.new' (by simp; done) | exact Blk.new' rfl | refine Blk.drew ?_ | refine Blk.alloc ?_ _)) (fun w2 hS hN => ?_)
  have n0 := hN
  have N0 := Lib.hid n0
  have d0_N0 : pb ≠ eb := by omega
  have d1_N0 : wb ≠ eb := by omega
  have d2_N0 : xb ≠ eb := by omega
  have d3_N0 : cb ≠ eb := by omega
  have d4_N0 : g ≠ eb := by omega
  have d5_N0 : w1.heap.size ≠ eb := by omega
  have dd_N0 : w0.heap.size ≤ eb := by omega
  clear n0 hN
  refine wpAnyH_take (i := 0) (v := ?_) (op_at rfl) (by kernel_rfl) (by kernel_rfl) (by kernel_rfl) (fun _ _ _ h => h) (Or.inl ⟨by rfl, ?_⟩) hS ?_; rotate_left; focus ((intro w' hSw; obtain ⟨q, -⟩ := hSw; have c0 := q.at_ (i := 0) (v := .pointer (some ⟨eb, 0, none⟩)) rfl; clear q; go_simp) <;> with_reducible rfl)
  try simp only [Act.put, List.setIfInBounds_toArray, List.set_cons_zero, List.set_cons_succ]
  refine wpAnyH_take (i := 1) (v := ?_) (op_at rfl) (by kernel_rfl) (by kernel_rfl) (by kernel_rfl) (fun _ _ _ h => h) (Or.inl ⟨by rfl, ?_⟩) hS ?_; rotate_left; focus ((intro w' hSw; obtain ⟨-, -, -, -, -, q, -⟩ := hSw; have c0 := q.at_ (i := 0) (v := .int .i64 p.cur.lv) rfl; have c1 := q.at_ (i := 1) (v := .int .u64 (u p.cur.c)) rfl; have c2 := q.at_ (i := 2) (v := .int .i64 p.cur.ig) rfl; clear q; go_simp) <;> with_reducible rfl)
  try simp only [Act.put, List.setIfInBounds_toArray, List.set_cons_zero, List.set_cons_succ]
  refine wpAnyH_take (i := 2) (v := ?_) (op_at rfl) (by kernel_rfl) (by kernel_rfl) (by kernel_rfl) (fun _ _ _ h => h) (Or.inl ⟨by rfl, ?_⟩) hS ?_; rotate_left; focus ((intro w' hSw; clear hSw; go_simp) <;> with_reducible rfl)
  try simp only [Act.put, List.setIfInBounds_toArray, List.set_cons_zero, List.set_cons_succ]
  refine wpAnyH_take (i := 3) (v := ?_) (op_at rfl) (by kernel_rfl) (by kernel_rfl) (by kernel_rfl) (fun _ _ _ h => h) (Or.inl ⟨by rfl, ?_⟩) hS ?_; rotate_left; focus ((intro w' hSw; obtain ⟨-, -, q, -⟩ := hSw; have c5 := q.at_ (i := 5) (v := .int .i64 x.high.lv) rfl; have c6 := q.at_ (i := 6) (v := .int .u64 (u x.high.c)) rfl; have c7 := q.at_ (i := 7) (v := .int .i64 x.high.ig) rfl; clear q; go_simp) <;> with_reducible rfl)
  try simp only [Act.put, List.setIfInBounds_toArray, List.set_cons_zero, List.set_cons_succ]
  refine wpAnyH_ready (rs := [4]) (by kernel_rfl) (by simp) ?_
  refine (AllReadyH.cons (op_at rfl) (fun K hK => ?_) AllReadyH.nil)
  go_simp
  obtain ⟨b0, b1, b2, b3, b4, b5, hb⟩ := hS
  refine (underIs HU.out _).mono ?_
  rintro e w3 ⟨rfl, hB⟩
  replace N0 := Lib.hid (N0.out.after hB)
  refine hK.out _ _ ⟨b0.after hB, b1.after hB, b2.after hB, b3.after hB, b4.after hB, b5.after hB, below_call hb hB⟩ (fun hS => ?_)
  clear hK K hB b0 b1 b2 b3 b4 b5 hb
  try simp only [Act.put, List.setIfInBounds_toArray, List.set_cons_zero, List.set_cons_succ]
  refine wpAnyH_take (i := 5) (v := ?_) (op_at rfl) (by kernel_rfl) (by kernel_rfl) (by kernel_rfl) (fun _ _ _ h => h) (Or.inl ⟨by rfl, ?_⟩) hS ?_; rotate_left; focus ((intro w' hSw; clear hSw; go_simp) <;> with_reducible rfl)
  try simp only [Act.put, List.setIfInBounds_toArray, List.set_cons_zero, List.set_cons_succ]
  refine wpAnyH_ready (rs := [6]) (by kernel_rfl) (by simp) ?_
  refine (AllReadyH.cons (op_at rfl) (fun K hK => ?_) AllReadyH.nil)
  go_simp
  have dx0_1 : eb ≠ w3.heap.size := Nat.ne_of_lt N0.out.lt
  replace N0 := Lib.hid (N0.out.alloc (.cells #[.bool true, .int .i64 120] 65))
  obtain ⟨b0, b1, b2, b3, b4, b5, hb⟩ := hS
  have N1 : Hid (Blk (w3.alloc (.cells #[.bool true, .int .i64 120] 65)) w3.heap.size 65 #[.bool true, .int .i64 120]) := Lib.hid (Blk.new' rfl)
  have d0_N1 : pb ≠ w3.heap.size := Nat.ne_of_lt b0.lt
  have d1_N1 : wb ≠ w3.heap.size := Nat.ne_of_lt b1.lt
  have d2_N1 : xb ≠ w3.heap.size := Nat.ne_of_lt b2.lt
  have d3_N1 : cb ≠ w3.heap.size := Nat.ne_of_lt b3.lt
  have d4_N1 : g ≠ w3.heap.size := Nat.ne_of_lt b4.lt
  have d5_N1 : w1.heap.size ≠ w3.heap.size := Nat.ne_of_lt b5.lt
  have dd_N1 : w0.heap.size ≤ w3.heap.size := hb.size
  refine hK.out _ _ ⟨b0.alloc _, b1.alloc _, b2.alloc _, b3.alloc _, b4.alloc _, b5.alloc _, below_alloc hb _⟩ (fun hS => ?_)
  clear hK K b0 b1 b2 b3 b4 b5 hb
  try simp only [Act.put, List.setIfInBounds_toArray, List.set_cons_zero, List.set_cons_succ]
  refine wpAnyH_ready (rs := [7]) (by kernel_rfl) (by simp) ?_
  refine (AllReadyH.cons (op_at rfl) (fun K hK => ?_) AllReadyH.nil)
  go_simp
  obtain ⟨b0, b1, b2, b3, b4, b5, hb⟩ := hS
  refine (must_any who none [(true, 120)] eb (.slice (some ⟨g, 0, none⟩) m cap) _ _ N0.out (RowsAt.of_blk (cs := #[.bool true, .int .i64 120]) (l := [(true, 120)]) (cap := 1) encC_size (Blk.new' rfl) ⟨[], rfl⟩ (by simp) (by decide)) (fun b off m c h => by cases h; omega)).mono ?_
  rintro e w4 ⟨rfl, hT, hB⟩
  replace N0 : Hid (Blk w4 (eb) 63 #[.slice (some ⟨g, 0, none⟩) m cap, .int .i64 who, .nilIface]) := Lib.hid hT
  replace N1 := Lib.hid (N1.out.turned hB (by omega))
  refine hK.out _ _ ⟨b0.turned hB (by omega), b1.turned hB (by omega), b2.turned hB (by omega), b3.turned hB (by omega), b4.turned hB (by omega), b5.turned hB (by omega), below_turns hb hB (by omega)⟩ (fun hS => ?_)
  clear hK K hT hB b0 b1 b2 b3 b4 b5 hb
  try simp only [Act.put, List.setIfInBounds_toArray, List.set_cons_zero, List.set_cons_succ]
  refine wpAnyH_done (by kernel_rfl) ?_ _
  obtain ⟨b0, b1, b2, b3, b4, b5, hb⟩ := hS
  replace B0 := Lib.hid b0
  clear b0
  replace B1 := Lib.hid b1
  clear b1
  replace B2 := Lib.hid b2
  clear b2
  replace B3 := Lib.hid b3
  clear b3
  replace B5 := Lib.hid b4
  clear b4
  replace B6 := Lib.hid b5
  clear b5
  replace B4 := N0
  clear N0
  have B7 := N1
  clear N1
  replace HB := Lib.hid hb
  clear hb
  go_wp2_with fail
  refine wp_region_gen2 (S := (fun W' => Blk W' (pb) 54 #[.pointer (some ⟨eb, 0, none⟩)] ∧ Blk W' (wb) 3 #[.int .i64 k] ∧ Blk W' (xb) 41 #[.int .i64 x.par, .int .i64 x.st, .int .i64 x.cur.lv, .int .u64 (u x.cur.c), .int .i64 x.cur.ig, .int .i64 x.high.lv, .int .u64 (u x.high.c), .int .i64 x.high.ig] ∧ Blk W' (cb) 3 #[.int .i64 c] ∧ Blk W' (eb) 63 #[.slice (some ⟨g, 0, none⟩) m cap, .int .i64 who, .nilIface] ∧ Blk W' (w1.heap.size) 25 #[.int .i64 p.cur.lv, .int .u64 (u p.cur.c), .int .i64 p.cur.ig] ∧ Below w0.heap.size w0 W')) (N := (fun W' => Blk W' (g) 41 cs)) (by kernel_rfl) ⟨(by repeat (first | exact B0.out | exact Blk.new' (by simp; done) | exact Blk.new' rfl | refine Blk.drew ?_ | refine Blk.alloc ?_ _)), (by repeat (first | exact B1.out | exact Blk.new' (by simp; done) | exact Blk.new' rfl | refine Blk.drew ?_ | refine Blk.alloc ?_ _)), (by repeat (first | exact B2.out | exact Blk.new' (by simp; done) | exact Blk.new' rfl | refine Blk.drew ?_ | refine Blk.alloc ?_ _)), (by repeat (first | exact B3.out | exact Blk.new' (by simp; done) | exact Blk.new' rfl | refine Blk.drew ?_ | refine Blk.alloc ?_ _)), (by repeat (first | exact B4.out | exact Blk.new' (by simp; done) | exact Blk.new' rfl | refine Blk.drew ?_ | refine Blk.alloc ?_ _)), (by repeat (first | exact B6.out | exact Blk.new' (by simp; done) | exact Blk.new' rfl | refine Blk.drew ?_ | refine Blk.alloc ?_ _)), (by repeat (first | exact HB.out | refine below_alloc ?_ _ | refine Below.drew ?_ | refine below_set ?_ (by omega) _))⟩ (by repeat (first | exact B5.out | exact Blk.new' (by simp; done) | exact Blk.new' rfl | refine Blk.drew ?_ | refine Blk.alloc ?_ _)) (fun w5 hS hN => ?_)
  have n0 := hN
  have N0 := Lib.hid n0
  have d0_N0 : pb ≠ g := by omega
  have d1_N0 : wb ≠ g := by omega
  have d2_N0 : xb ≠ g := by omega
  have d3_N0 : cb ≠ g := by omega
  have d4_N0 : eb ≠ g := by omega
  have d5_N0 : w1.heap.size ≠ g := by omega
  have dd_N0 : w0.heap.size ≤ g := by omega
  clear n0 hN
  refine wpAnyH_take (i := 0) (v := ?_) (op_at rfl) (by kernel_rfl) (by kernel_rfl) (by kernel_rfl) (fun _ _ _ h => h) (Or.inl ⟨by rfl, ?_⟩) hS ?_; rotate_left; focus ((intro w' hSw; obtain ⟨q, -⟩ := hSw; have c0 := q.at_ (i := 0) (v := .pointer (some ⟨eb, 0, none⟩)) rfl; clear q; go_simp) <;> with_reducible rfl)
  try simp only [Act.put, List.setIfInBounds_toArray, List.set_cons_zero, List.set_cons_succ]
  refine wpAnyH_take (i := 1) (v := ?_) (op_at rfl) (by kernel_rfl) (by kernel_rfl) (by kernel_rfl) (fun _ _ _ h => h) (Or.inl ⟨by rfl, ?_⟩) hS ?_; rotate_left; focus ((intro w' hSw; clear hSw; go_simp) <;> with_reducible rfl)
  try simp only [Act.put, List.setIfInBounds_toArray, List.set_cons_zero, List.set_cons_succ]
  refine wpAnyH_take (i := 2) (v := ?_) (op_at rfl) (by kernel_rfl) (by kernel_rfl) (by kernel_rfl) (fun _ _ _ h => h) (Or.inl ⟨by rfl, ?_⟩) hS ?_; rotate_left; focus ((intro w' hSw; clear hSw; go_simp) <;> with_reducible rfl)
  try simp only [Act.put, List.setIfInBounds_toArray, List.set_cons_zero, List.set_cons_succ]
  refine wpAnyH_take (i := 3) (v := ?_) (op_at rfl) (by kernel_rfl) (by kernel_rfl) (by kernel_rfl) (fun _ _ _ h => h) (Or.inl ⟨by rfl, ?_⟩) hS ?_; rotate_left; focus ((intro w' hSw; clear hSw; go_simp) <;> with_reducible rfl)
  try simp only [Act.put, List.setIfInBounds_toArray, List.set_cons_zero, List.set_cons_succ]
  refine wpAnyH_take (i := 4) (v := ?_) (op_at rfl) (by kernel_rfl) (by kernel_rfl) (by kernel_rfl) (fun _ _ _ h => h) (Or.inl ⟨by rfl, ?_⟩) hS ?_; rotate_left; focus ((intro w' hSw; obtain ⟨-, -, -, -, q, -⟩ := hSw; have c0 := q.at_ (i := 0) (v := .slice (some ⟨g, 0, none⟩) m cap) rfl; clear q; go_simp) <;> with_reducible rfl)
  try simp only [Act.put, List.setIfInBounds_toArray, List.set_cons_zero, List.set_cons_succ]
  refine wpAnyH_take (i := 5) (v := ?_) (op_at rfl) (by kernel_rfl) (by kernel_rfl) (by kernel_rfl) (fun _ _ _ h => h) (Or.inl ⟨by rfl, ?_⟩) hS ?_; rotate_left; focus ((intro w' hSw; obtain ⟨-, -, -, q, -⟩ := hSw; have c0 := q.at_ (i := 0) (v := .int .i64 c) rfl; clear q; go_simp) <;> with_reducible rfl)
  try simp only [Act.put, List.setIfInBounds_toArray, List.set_cons_zero, List.set_cons_succ]
  refine wpAnyH_take (i := 6) (v := ?_) (op_at rfl) (by kernel_rfl) (by kernel_rfl) (by kernel_rfl) (fun _ _ _ h => h) (Or.inl ⟨by rfl, ?_⟩) hS ?_; rotate_left; focus ((intro w' hSw; obtain ⟨q, -⟩ := hSw; have c0 := q.at_ (i := 0) (v := .pointer (some ⟨eb, 0, none⟩)) rfl; clear q; go_simp) <;> with_reducible rfl)
  try simp only [Act.put, List.setIfInBounds_toArray, List.set_cons_zero, List.set_cons_succ]
  refine wpAnyH_take (i := 7) (v := ?_) (op_at rfl) (by kernel_rfl) (by kernel_rfl) (by kernel_rfl) (fun _ _ _ h => h) (Or.inl ⟨by rfl, ?_⟩) hS ?_; rotate_left; focus ((intro w' hSw; clear hSw; go_simp) <;> with_reducible rfl)
  try simp only [Act.put, List.setIfInBounds_toArray, List.set_cons_zero, List.set_cons_succ]
  refine wpAnyH_take (i := 8) (v := ?_) (op_at rfl) (by kernel_rfl) (by kernel_rfl) (by kernel_rfl) (fun _ _ _ h => h) (Or.inl ⟨by rfl, ?_⟩) hS ?_; rotate_left; focus ((intro w' hSw; clear hSw; go_simp) <;> with_reducible rfl)
  try simp only [Act.put, List.setIfInBounds_toArray, List.set_cons_zero, List.set_cons_succ]
  refine wpAnyH_take (i := 9) (v := ?_) (op_at rfl) (by kernel_rfl) (by kernel_rfl) (by kernel_rfl) (fun _ _ _ h => h) (Or.inl ⟨by rfl, ?_⟩) hS ?_; rotate_left; focus ((intro w' hSw; clear hSw; go_simp) <;> with_reducible rfl)
  try simp only [Act.put, List.setIfInBounds_toArray, List.set_cons_zero, List.set_cons_succ]
  refine wpAnyH_take (i := 10) (v := ?_) (op_at rfl) (by kernel_rfl) (by kernel_rfl) (by kernel_rfl) (fun _ _ _ h => h) (Or.inl ⟨by rfl, ?_⟩) hS ?_; rotate_left; focus ((intro w' hSw; obtain ⟨-, -, -, -, q, -⟩ := hSw; have c0 := q.at_ (i := 0) (v := .slice (some ⟨g, 0, none⟩) m cap) rfl; clear q; go_simp) <;> with_reducible rfl)
  try simp only [Act.put, List.setIfInBounds_toArray, List.set_cons_zero, List.set_cons_succ]
  refine wpAnyH_take (i := 11) (v := ?_) (op_at rfl) (by kernel_rfl) (by kernel_rfl) (by kernel_rfl) (fun _ _ _ h => h) (Or.inl ⟨by rfl, ?_⟩) hS ?_; rotate_left; focus ((intro w' hSw; obtain ⟨-, -, -, q, -⟩ := hSw; have c0 := q.at_ (i := 0) (v := .int .i64 c) rfl; clear q; go_simp) <;> with_reducible rfl)
  try simp only [Act.put, List.setIfInBounds_toArray, List.set_cons_zero, List.set_cons_succ]
  refine wpAnyH_take (i := 12) (v := ?_) (op_at rfl) (by kernel_rfl) (by kernel_rfl) (by kernel_rfl) (fun _ _ _ h => h) (Or.inl ⟨by rfl, ?_⟩) hS ?_; rotate_left; focus ((intro w' hSw; obtain ⟨-, -, -, -, -, q, -⟩ := hSw; have c0 := q.at_ (i := 0) (v := .int .i64 p.cur.lv) rfl; have c1 := q.at_ (i := 1) (v := .int .u64 (u p.cur.c)) rfl; have c2 := q.at_ (i := 2) (v := .int .i64 p.cur.ig) rfl; clear q; go_simp) <;> with_reducible rfl)
  try simp only [Act.put, List.setIfInBounds_toArray, List.set_cons_zero, List.set_cons_succ]
  refine wpAnyH_take (i := 13) (v := ?_) (op_at rfl) (by kernel_rfl) (by kernel_rfl) (by kernel_rfl) (fun _ _ _ h => h) (Or.inl ⟨by rfl, ?_⟩) hS ?_; rotate_left; focus ((intro w' hSw; clear hSw; go_simp) <;> with_reducible rfl)
  try simp only [Act.put, List.setIfInBounds_toArray, List.set_cons_zero, List.set_cons_succ]
  refine wpAnyH_take (i := 14) (v := ?_) (op_at rfl) (by kernel_rfl) (by kernel_rfl) (by kernel_rfl) (fun _ _ _ h => h) (Or.inl ⟨by rfl, ?_⟩) hS ?_; rotate_left; focus ((intro w' hSw; clear hSw; go_simp) <;> with_reducible rfl)
  try simp only [Act.put, List.setIfInBounds_toArray, List.set_cons_zero, List.set_cons_succ]
  refine wpAnyH_ready (rs := [15]) (by kernel_rfl) (by simp) ?_
  refine (AllReadyH.cons (op_at rfl) (fun K hK => ?_) AllReadyH.nil)
  have p_0 : w5.cell? ⟨g, c * 8 + 1, none⟩ = some (.int .i64 x.st) := N0.out.at_ HC1.out
  have f_0 : w5.frozen? ⟨g, c * 8 + 1, none⟩ = false := N0.out.frozen _
  go_simp
  clear p_0 f_0
  obtain ⟨b0, b1, b2, b3, b4, b5, hb⟩ := hS
  refine hK.out _ _ ⟨(Blk.far b0 d0_N0 _), (Blk.far b1 d1_N0 _), (Blk.far b2 d2_N0 _), (Blk.far b3 d3_N0 _), (Blk.far b4 d4_N0 _), (Blk.far b5 d5_N0 _), (below_set hb dd_N0 _)⟩ (fun hS => ?_)
  replace N0 := Lib.hid (Blk.set' (u := .int .i64 1) (i := c * 8 + 1) (cs' := (cs.setIfInBounds (c * 8 + 1) (.int .i64 1))) N0.out rfl)
  clear hK K b0 b1 b2 b3 b4 b5 hb
  try simp only [Act.put, List.setIfInBounds_toArray, List.set_cons_zero, List.set_cons_succ]
  refine wpAnyH_take (i := 16) (v := ?_) (op_at rfl) (by kernel_rfl) (by kernel_rfl) (by kernel_rfl) (fun _ _ _ h => h) (Or.inl ⟨by rfl, ?_⟩) hS ?_; rotate_left; focus ((intro w' hSw; clear hSw; go_simp) <;> with_reducible rfl)
  try simp only [Act.put, List.setIfInBounds_toArray, List.set_cons_zero, List.set_cons_succ]
  refine wpAnyH_take (i := 17) (v := ?_) (op_at rfl) (by kernel_rfl) (by kernel_rfl) (by kernel_rfl) (fun _ _ _ h => h) (Or.inl ⟨by rfl, ?_⟩) hS ?_; rotate_left; focus ((intro w' hSw; clear hSw; go_simp) <;> with_reducible rfl)
  try simp only [Act.put, List.setIfInBounds_toArray, List.set_cons_zero, List.set_cons_succ]
  refine wpAnyH_ready (rs := [18]) (by kernel_rfl) (by simp) ?_
  refine (AllReadyH.cons (op_at rfl) (fun K hK => ?_) AllReadyH.nil)
  have p_0 : (w5.setCell ⟨g, c * 8 + 1, none⟩ (.int .i64 1)).cell? ⟨g, c * 8 + 2, none⟩ = some (.int .i64 x.cur.lv) := N0.out.at_ (by rw [Array.getElem?_setIfInBounds_ne (by omega)]; exact HC2.out)
  have f_0 : (w5.setCell ⟨g, c * 8 + 1, none⟩ (.int .i64 1)).frozen? ⟨g, c * 8 + 2, none⟩ = false := N0.out.frozen _
  have p_1 : (w5.setCell ⟨g, c * 8 + 1, none⟩ (.int .i64 1)).cell? ⟨g, c * 8 + 3, none⟩ = some (.int .u64 (u x.cur.c)) := N0.out.at_ (by rw [Array.getElem?_setIfInBounds_ne (by omega)]; exact HC3.out)
  have f_1 : (w5.setCell ⟨g, c * 8 + 1, none⟩ (.int .i64 1)).frozen? ⟨g, c * 8 + 3, none⟩ = false := N0.out.frozen _
  have p_2 : (w5.setCell ⟨g, c * 8 + 1, none⟩ (.int .i64 1)).cell? ⟨g, c * 8 + 4, none⟩ = some (.int .i64 x.cur.ig) := N0.out.at_ (by rw [Array.getElem?_setIfInBounds_ne (by omega)]; exact HC4.out)
  have f_2 : (w5.setCell ⟨g, c * 8 + 1, none⟩ (.int .i64 1)).frozen? ⟨g, c * 8 + 4, none⟩ = false := N0.out.frozen _
  go_simp
  clear p_0 f_0 p_1 f_1 p_2 f_2
  obtain ⟨b0, b1, b2, b3, b4, b5, hb⟩ := hS
  refine hK.out _ _ ⟨(Blk.far (Blk.far (Blk.far b0 d0_N0 _) d0_N0 _) d0_N0 _), (Blk.far (Blk.far (Blk.far b1 d1_N0 _) d1_N0 _) d1_N0 _), (Blk.far (Blk.far (Blk.far b2 d2_N0 _) d2_N0 _) d2_N0 _), (Blk.far (Blk.far (Blk.far b3 d3_N0 _) d3_N0 _) d3_N0 _), (Blk.far (Blk.far (Blk.far b4 d4_N0 _) d4_N0 _) d4_N0 _), (Blk.far (Blk.far (Blk.far b5 d5_N0 _) d5_N0 _) d5_N0 _), (below_set (below_set (below_set hb dd_N0 _) dd_N0 _) dd_N0 _)⟩ (fun hS => ?_)
  replace N0 := Lib.hid (Blk.set' (u := .int .i64 p.cur.ig) (i := c * 8 + 4) (cs' := ((((cs.setIfInBounds (c * 8 + 1) (.int .i64 1)).setIfInBounds (c * 8 + 2) (.int .i64 p.cur.lv)).setIfInBounds (c * 8 + 3) (.int .u64 (u p.cur.c))).setIfInBounds (c * 8 + 4) (.int .i64 p.cur.ig))) (Blk.set' (u := .int .u64 (u p.cur.c)) (i := c * 8 + 3) (cs' := (((cs.setIfInBounds (c * 8 + 1) (.int .i64 1)).setIfInBounds (c * 8 + 2) (.int .i64 p.cur.lv)).setIfInBounds (c * 8 + 3) (.int .u64 (u p.cur.c)))) (Blk.set' (u := .int .i64 p.cur.lv) (i := c * 8 + 2) (cs' := ((cs.setIfInBounds (c * 8 + 1) (.int .i64 1)).setIfInBounds (c * 8 + 2) (.int .i64 p.cur.lv))) N0.out rfl) rfl) rfl)
  clear hK K b0 b1 b2 b3 b4 b5 hb
  try simp only [Act.put, List.setIfInBounds_toArray, List.set_cons_zero, List.set_cons_succ]
  refine wpAnyH_done (by kernel_rfl) ?_ _
  obtain ⟨b0, b1, b2, b3, b4, b5, hb⟩ := hS
  replace B0 := Lib.hid b0
  clear b0
  replace B1 := Lib.hid b1
  clear b1
  replace B2 := Lib.hid b2
  clear b2
  replace B3 := Lib.hid b3
  clear b3
  replace B4 := Lib.hid b4
  clear b4
  replace B6 := Lib.hid b5
  clear b5
  replace B5 := N0
  clear N0
  replace HB := Lib.hid hb
  clear hb
  go_wp2_with fail
  go_end0
  exact ⟨rfl, B4.out, ⟨_, B5.out, rows_st_cur HR.out HX.out⟩, HB.out⟩
set_option maxRecDepth 100000 in
set_option maxHeartbeats 4000000 in
theorem start_do_no (pb wb xb cb eb g m cap k c : Nat) (who : Int) (p x : Sub) (l : List Sub) (r : List Value) (cs : Array Value) (w0 w : World) (hbw : Below w0.heap.size w0 w) (hp : Blk w pb 54 #[.pointer (some ⟨eb, 0, none⟩)]) (hw : Blk w wb 3 #[.int .i64 k]) (ha : Blk w xb 41 #[.int .i64 x.par, .int .i64 x.st, .int .i64 x.cur.lv, .int .u64 (u x.cur.c), .int .i64 x.cur.ig, .int .i64 x.high.lv, .int .u64 (u x.high.c), .int .i64 x.high.ig]) (hcb : Blk w cb 3 #[.int .i64 c]) (he : Blk w eb 63 #[.slice (some ⟨g, 0, none⟩) m cap, .int .i64 who, .nilIface]) (hg : Blk w g 41 cs)
    (hk : k < m) (hc : c < m) (hr : cs.toList = (l.flatMap fun x => (encS x).toList) ++ r) (hp2 : l[k]? = some p) (hx2 : l[c]? = some x) (hu : underL p.cur x.high = false) (n1 : w0.heap.size ≤ eb) (n2 : w0.heap.size ≤ g) (n3 : pb ≠ g) (n4 : wb ≠ g) (n5 : xb ≠ g) (n6 : eb ≠ g) (n7 : pb ≠ eb) (n8 : wb ≠ eb) (n9 : xb ≠ eb) (n10 : cb ≠ g) (n11 : cb ≠ eb) :
    Calls Tryd.prog 36 #[.pointer (some ⟨pb, 0, none⟩), .pointer (some ⟨wb, 0, none⟩), .pointer (some ⟨xb, 0, none⟩), .pointer (some ⟨cb, 0, none⟩)] w fun e w' => e = .returned (.tuple #[]) ∧ Blk w' eb 63 #[.slice (some ⟨g, 0, none⟩) m cap, .int .i64 who, .iface 85 (.agg #[.int .i64 who, .iface 83 (.agg #[.int .i64 120])])] ∧ Below w0.heap.size w0 w' := by
  have HB := Lib.hid hbw
  have B0 := Lib.hid hp
  have B1 := Lib.hid hw
  have B2 := Lib.hid ha
  have B3 := Lib.hid hcb
  have B4 := Lib.hid he
  have B5 := Lib.hid hg
  have HU := Lib.hid hu
  have HR := Lib.hid hr
  have HX := Lib.hid hx2
  have HO2 : Hid (cs[k * 8 + 2]? = some (.int .i64 p.cur.lv)) := Lib.hid (tab_cell (j := 2) hr hp2 rfl)
  have HO3 : Hid (cs[k * 8 + 3]? = some (.int .u64 (u p.cur.c))) := Lib.hid (tab_cell (j := 3) hr hp2 rfl)
  have HO4 : Hid (cs[k * 8 + 4]? = some (.int .i64 p.cur.ig)) := Lib.hid (tab_cell (j := 4) hr hp2 rfl)
  have HC1 : Hid (cs[c * 8 + 1]? = some (.int .i64 x.st)) := Lib.hid (tab_cell (j := 1) hr hx2 rfl)
  have HC2 : Hid (cs[c * 8 + 2]? = some (.int .i64 x.cur.lv)) := Lib.hid (tab_cell (j := 2) hr hx2 rfl)
  have HC3 : Hid (cs[c * 8 + 3]? = some (.int .u64 (u x.cur.c))) := Lib.hid (tab_cell (j := 3) hr hx2 rfl)
  have HC4 : Hid (cs[c * 8 + 4]? = some (.int .i64 x.cur.ig)) := Lib.hid (tab_cell (j := 4) hr hx2 rfl)
  have hkz : (0 : Int) ≤ (k : Int) := by omega
  have hkz2 : (k : Int) < (m : Int) := by omega
  have hcz : (0 : Int) ≤ (c : Int) := by omega
  have hcz2 : (c : Int) < (m : Int) := by omega
  have l1 : pb < w.heap.size := hp.lt
  have l2 : wb < w.heap.size := hw.lt
  have l3 : xb < w.heap.size := ha.lt
  have l4 : eb < w.heap.size := he.lt
  have l5 : g < w.heap.size := hg.lt
  clear hbw hp hw ha hcb he hg hu hr hp2 hx2
  go_enter Tryd.func36, Tryd.ntmps36
  go_wp2_with fail
  refine wp_region_gen (S := (fun W' => Blk W' (pb) 54 #[.pointer (some ⟨eb, 0, none⟩)] ∧ Blk W' (wb) 3 #[.int .i64 k] ∧ Blk W' (xb) 41 #[.int .i64 x.par, .int .i64 x.st, .int .i64 x.cur.lv, .int .u64 (u x.cur.c), .int .i64 x.cur.ig, .int .i64 x.high.lv, .int .u64 (u x.high.c), .int .i64 x.high.ig] ∧ Blk W' (cb) 3 #[.int .i64 c] ∧ Blk W' (eb) 63 #[.slice (some ⟨g, 0, none⟩) m cap, .int .i64 who, .nilIface] ∧ Blk W' (g) 41 cs ∧ Below w0.heap.size w0 W')) (by kernel_rfl) ⟨(by repeat (first | exact B0.out | exact Blk.new' (by simp; done) | exact Blk.new' rfl | refine Blk.drew ?_ | refine Blk.alloc ?_ _)), (by repeat (first | exact B1.out | exact Blk.new' (by simp; done) | exact Blk.new' rfl | refine Blk.drew ?_ | refine Blk.alloc ?_ _)), (by repeat (first | exact B2.out | exact Blk.new' (by simp; done) | exact Blk.new' rfl | refine Blk.drew ?_ | refine Blk.alloc ?_ _)), (by repeat (first | exact B3.out | exact Blk.new' (by simp; done) | exact Blk.new' rfl | refine Blk.drew ?_ | refine Blk.alloc ?_ _)), (by repeat (first | exact B4.out | exact Blk.new' (by simp; done) | exact Blk.new' rfl | refine Blk.drew ?_ | refine Blk.alloc ?_ _)), (by repeat (first | exact B5.out | exact Blk.new' (by simp; done) | exact Blk.new' rfl | refine Blk.drew ?_ | refine Blk.alloc ?_ _)), (by repeat (first | exact HB.out | refine below_alloc ?_ _ | refine Below.drew ?_ | refine below_set ?_ (by omega) _))⟩ (fun w1 hS => ?_)
  refine wpAnyH_take (i := 0) (v := ?_) (op_at rfl) (by kernel_rfl) (by kernel_rfl) (by kernel_rfl) (fun _ _ _ h => h) (Or.inl ⟨by rfl, ?_⟩) hS ?_; rotate_left; focus ((intro w' hSw; obtain ⟨q, -⟩ := hSw; have c0 := q.at_ (i := 0) (v := .pointer (some ⟨eb, 0, none⟩)) rfl; clear q; go_simp) <;> with_reducible rfl)
  try simp only [Act.put, List.setIfInBounds_toArray, List.set_cons_zero, List.set_cons_succ]
  refine wpAnyH_take (i := 1) (v := ?_) (op_at rfl) (by kernel_rfl) (by kernel_rfl) (by kernel_rfl) (fun _ _ _ h => h) (Or.inl ⟨by rfl, ?_⟩) hS ?_; rotate_left; focus ((intro w' hSw; clear hSw; go_simp) <;> with_reducible rfl)
  try simp only [Act.put, List.setIfInBounds_toArray, List.set_cons_zero, List.set_cons_succ]
  refine wpAnyH_take (i := 2) (v := ?_) (op_at rfl) (by kernel_rfl) (by kernel_rfl) (by kernel_rfl) (fun _ _ _ h => h) (Or.inl ⟨by rfl, ?_⟩) hS ?_; rotate_left; focus ((intro w' hSw; clear hSw; go_simp) <;> with_reducible rfl)
  try simp only [Act.put, List.setIfInBounds_toArray, List.set_cons_zero, List.set_cons_succ]
  refine wpAnyH_take (i := 3) (v := ?_) (op_at rfl) (by kernel_rfl) (by kernel_rfl) (by kernel_rfl) (fun _ _ _ h => h) (Or.inl ⟨by rfl, ?_⟩) hS ?_; rotate_left; focus ((intro w' hSw; clear hSw; go_simp) <;> with_reducible rfl)
  try simp only [Act.put, List.setIfInBounds_toArray, List.set_cons_zero, List.set_cons_succ]
  refine wpAnyH_take (i := 4) (v := ?_) (op_at rfl) (by kernel_rfl) (by kernel_rfl) (by kernel_rfl) (fun _ _ _ h => h) (Or.inl ⟨by rfl, ?_⟩) hS ?_; rotate_left; focus ((intro w' hSw; obtain ⟨-, -, -, -, q, -⟩ := hSw; have c0 := q.at_ (i := 0) (v := .slice (some ⟨g, 0, none⟩) m cap) rfl; clear q; go_simp) <;> with_reducible rfl)
  try simp only [Act.put, List.setIfInBounds_toArray, List.set_cons_zero, List.set_cons_succ]
  refine wpAnyH_take (i := 5) (v := ?_) (op_at rfl) (by kernel_rfl) (by kernel_rfl) (by kernel_rfl) (fun _ _ _ h => h) (Or.inl ⟨by rfl, ?_⟩) hS ?_; rotate_left; focus ((intro w' hSw; obtain ⟨-, q, -⟩ := hSw; have c0 := q.at_ (i := 0) (v := .int .i64 k) rfl; clear q; go_simp) <;> with_reducible rfl)
  try simp only [Act.put, List.setIfInBounds_toArray, List.set_cons_zero, List.set_cons_succ]
  refine wpAnyH_take (i := 6) (v := ?_) (op_at rfl) (by kernel_rfl) (by kernel_rfl) (by kernel_rfl) (fun _ _ _ h => h) (Or.inl ⟨by rfl, ?_⟩) hS ?_; rotate_left; focus ((intro w' hSw; clear hSw; go_simp) <;> with_reducible rfl)
  try simp only [Act.put, List.setIfInBounds_toArray, List.set_cons_zero, List.set_cons_succ]
  refine wpAnyH_take (i := 7) (v := ?_) (op_at rfl) (by kernel_rfl) (by kernel_rfl) (by kernel_rfl) (fun _ _ _ h => h) (Or.inl ⟨by rfl, ?_⟩) hS ?_; rotate_left; focus ((intro w' hSw; clear hSw; go_simp) <;> with_reducible rfl)
  try simp only [Act.put, List.setIfInBounds_toArray, List.set_cons_zero, List.set_cons_succ]
  refine wpAnyH_take (i := 8) (v := ?_) (op_at rfl) (by kernel_rfl) (by kernel_rfl) (by kernel_rfl) (fun _ _ _ h => h) (Or.inl ⟨by rfl, ?_⟩) hS ?_; rotate_left; focus ((intro w' hSw; obtain ⟨-, -, -, -, -, q, -⟩ := hSw; have c2 : w'.cell? ⟨g, k * 8 + 2, none⟩ = some (.int .i64 p.cur.lv) := q.at_ HO2.out; have c3 : w'.cell? ⟨g, k * 8 + 3, none⟩ = some (.int .u64 (u p.cur.c)) := q.at_ HO3.out; have c4 : w'.cell? ⟨g, k * 8 + 4, none⟩ = some (.int .i64 p.cur.ig) := q.at_ HO4.out; clear q; go_simp) <;> with_reducible rfl)
  try simp only [Act.put, List.setIfInBounds_toArray, List.set_cons_zero, List.set_cons_succ]
  refine wpAnyH_ready (rs := [9]) (by kernel_rfl) (by simp) ?_
  refine (AllReadyH.cons (op_at rfl) (fun K hK => ?_) AllReadyH.nil)
  go_simp
  obtain ⟨b0, b1, b2, b3, b4, b5, hb⟩ := hS
  have N0 : Hid (Blk (w1.alloc (.cells #[.int .i64 0, .int .u64 0, .int .i64 0] 25)) w1.heap.size 25 #[.int .i64 0, .int .u64 0, .int .i64 0]) := Lib.hid (Blk.new' rfl)
  have d0_N0 : pb ≠ w1.heap.size := Nat.ne_of_lt b0.lt
  have d1_N0 : wb ≠ w1.heap.size := Nat.ne_of_lt b1.lt
  have d2_N0 : xb ≠ w1.heap.size := Nat.ne_of_lt b2.lt
  have d3_N0 : cb ≠ w1.heap.size := Nat.ne_of_lt b3.lt
  have d4_N0 : eb ≠ w1.heap.size := Nat.ne_of_lt b4.lt
  have d5_N0 : g ≠ w1.heap.size := Nat.ne_of_lt b5.lt
  have dd_N0 : w0.heap.size ≤ w1.heap.size := hb.size
  refine hK.out _ _ ⟨b0.alloc _, b1.alloc _, b2.alloc _, b3.alloc _, b4.alloc _, b5.alloc _, below_alloc hb _⟩ (fun hS => ?_)
  clear hK K b0 b1 b2 b3 b4 b5 hb
  try simp only [Act.put, List.setIfInBounds_toArray, List.set_cons_zero, List.set_cons_succ]
  refine wpAnyH_ready (rs := [10]) (by kernel_rfl) (by simp) ?_
  refine (AllReadyH.cons (op_at rfl) (fun K hK => ?_) AllReadyH.nil)
  go_simp
  obtain ⟨b0, b1, b2, b3, b4, b5, hb⟩ := hS
  refine hK.out _ _ ⟨(Blk.realloc b0 d0_N0), (Blk.realloc b1 d1_N0), (Blk.realloc b2 d2_N0), (Blk.realloc b3 d3_N0), (Blk.realloc b4 d4_N0), (Blk.realloc b5 d5_N0), (below_realloc hb dd_N0)⟩ (fun hS => ?_)
  replace N0 : Hid (Blk (w1.alloc (.cells #[.int .i64 p.cur.lv, .int .u64 (u p.cur.c), .int .i64 p.cur.ig] 25)) w1.heap.size 25 #[.int .i64 p.cur.lv, .int .u64 (u p.cur.c), .int .i64 p.cur.ig]) := Lib.hid (Blk.new' rfl)
  clear hK K b0 b1 b2 b3 b4 b5 hb
  try simp only [Act.put, List.setIfInBounds_toArray, List.set_cons_zero, List.set_cons_succ]
  refine wpAnyH_done (by kernel_rfl) ?_ _
  obtain ⟨b0, b1, b2, b3, b4, b5, hb⟩ := hS
  replace B0 := Lib.hid b0
  clear b0
  replace B1 := Lib.hid b1
  clear b1
  replace B2 := Lib.hid b2
  clear b2
  replace B3 := Lib.hid b3
  clear b3
  replace B4 := Lib.hid b4
  clear b4
  replace B5 := Lib.hid b5
  clear b5
  have B6 := N0
  clear N0
  replace HB := Lib.hid hb
  clear hb
  go_wp2_with fail
  refine wp_region_gen2 (S := (fun W' => Blk W' (pb) 54 #[.pointer (some ⟨eb, 0, none⟩)] ∧ Blk W' (wb) 3 #[.int .i64 k] ∧ Blk W' (xb) 41 #[.int .i64 x.par, .int .i64 x.st, .int .i64 x.cur.lv, .int .u64 (u x.cur.c), .int .i64 x.cur.ig, .int .i64 x.high.lv, .int .u64 (u x.high.c), .int .i64 x.high.ig] ∧ Blk W' (cb) 3 #[.int .i64 c] ∧ Blk W' (g) 41 cs ∧ Blk W' (w1.heap.size) 25 #[.int .i64 p.cur.lv, .int .u64 (u p.cur.c), .int .i64 p.cur.ig] ∧ Below w0.heap.size w0 W')) (N := (fun W' => Blk W' (eb) 63 #[.slice (some ⟨g, 0, none⟩) m cap, .int .i64 who, .nilIface])) (by kernel_rfl) ⟨(by repeat (first | exact B0.out | exact Blk.new' (by simp; done) | exact Blk.new' rfl | refine Blk.drew ?_ | refine Blk.alloc ?_ _)), (by repeat (first | exact B1.out | exact Blk.new' (by simp; done) | exact Blk.new' rfl | refine Blk.drew ?_ | refine Blk.alloc ?_ _)), (by repeat (first | exact B2.out | exact Blk.new' (by simp; done) | exact Blk.new' rfl | refine Blk.drew ?_ | refine Blk.alloc ?_ _)), (by repeat (first | exact B3.out | exact Blk.new' (by simp; done) | exact Blk.new' rfl | refine Blk.drew ?_ | refine Blk.alloc ?_ _)), (by repeat (first | exact B5.out | exact Blk.new' (by simp; done) | exact Blk.new' rfl | refine Blk.drew ?_ | refine Blk.alloc ?_ _)), (by repeat (first | exact B6.out | exact Blk.new' (by simp; done) | exact Blk.new' rfl | refine Blk.drew ?_ | refine Blk.alloc ?_ _)), (by repeat (first | exact HB.out | refine below_alloc ?_ _ | refine Below.drew ?_ | refine below_set ?_ (by omega) _))⟩ (by repeat (first | exact B4.out | exact Blk.new' (by simp; done) | exact Blk.new' rfl | refine Blk.drew ?_ | refine Blk.alloc ?_ _)) (fun w2 hS hN => ?_)
  have n0 := hN
  have N0 := Lib.hid n0
  have d0_N0 : pb ≠ eb := by omega
  have d1_N0 : wb ≠ eb := by omega
  have d2_N0 : xb ≠ eb := by omega
  have d3_N0 : cb ≠ eb := by omega
  have d4_N0 : g ≠ eb := by omega
  have d5_N0 : w1.heap.size ≠ eb := by omega
  have dd_N0 : w0.heap.size ≤ eb := by omega
  clear n0 hN
  refine wpAnyH_take (i := 0) (v := ?_) (op_at rfl) (by kernel_rfl) (by kernel_rfl) (by kernel_rfl) (fun _ _ _ h => h) (Or.inl ⟨by rfl, ?_⟩) hS ?_; rotate_left; focus ((intro w' hSw; obtain ⟨q, -⟩ := hSw; have c0 := q.at_ (i := 0) (v := .pointer (some ⟨eb, 0, none⟩)) rfl; clear q; go_simp) <;> with_reducible rfl)
  try simp only [Act.put, List.setIfInBounds_toArray, List.set_cons_zero, List.set_cons_succ]
  refine wpAnyH_take (i := 1) (v := ?_) (op_at rfl) (by kernel_rfl) (by kernel_rfl) (by kernel_rfl) (fun _ _ _ h => h) (Or.inl ⟨by rfl, ?_⟩) hS ?_; rotate_left; focus ((intro w' hSw; obtain ⟨-, -, -, -, -, q, -⟩ := hSw; have c0 := q.at_ (i := 0) (v := .int .i64 p.cur.lv) rfl; have c1 := q.at_ (i := 1) (v := .int .u64 (u p.cur.c)) rfl; have c2 := q.at_ (i := 2) (v := .int .i64 p.cur.ig) rfl; clear q; go_simp) <;> with_reducible rfl)
  try simp only [Act.put, List.setIfInBounds_toArray, List.set_cons_zero, List.set_cons_succ]
  refine wpAnyH_take (i := 2) (v := ?_) (op_at rfl) (by kernel_rfl) (by kernel_rfl) (by kernel_rfl) (fun _ _ _ h => h) (Or.inl ⟨by rfl, ?_⟩) hS ?_; rotate_left; focus ((intro w' hSw; clear hSw; go_simp) <;> with_reducible rfl)
  try simp only [Act.put, List.setIfInBounds_toArray, List.set_cons_zero, List.set_cons_succ]
  refine wpAnyH_take (i := 3) (v := ?_) (op_at rfl) (by kernel_rfl) (by kernel_rfl) (by kernel_rfl) (fun _ _ _ h => h) (Or.inl ⟨by rfl, ?_⟩) hS ?_; rotate_left; focus ((intro w' hSw; obtain ⟨-, -, q, -⟩ := hSw; have c5 := q.at_ (i := 5) (v := .int .i64 x.high.lv) rfl; have c6 := q.at_ (i := 6) (v := .int .u64 (u x.high.c)) rfl; have c7 := q.at_ (i := 7) (v := .int .i64 x.high.ig) rfl; clear q; go_simp) <;> with_reducible rfl)
  try simp only [Act.put, List.setIfInBounds_toArray, List.set_cons_zero, List.set_cons_succ]
  refine wpAnyH_ready (rs := [4]) (by kernel_rfl) (by simp) ?_
  refine (AllReadyH.cons (op_at rfl) (fun K hK => ?_) AllReadyH.nil)
  go_simp
  obtain ⟨b0, b1, b2, b3, b4, b5, hb⟩ := hS
  refine (underIs HU.out _).mono ?_
  rintro e w3 ⟨rfl, hB⟩
  replace N0 := Lib.hid (N0.out.after hB)
  refine hK.out _ _ ⟨b0.after hB, b1.after hB, b2.after hB, b3.after hB, b4.after hB, b5.after hB, below_call hb hB⟩ (fun hS => ?_)
  clear hK K hB b0 b1 b2 b3 b4 b5 hb
  try simp only [Act.put, List.setIfInBounds_toArray, List.set_cons_zero, List.set_cons_succ]
  refine wpAnyH_take (i := 5) (v := ?_) (op_at rfl) (by kernel_rfl) (by kernel_rfl) (by kernel_rfl) (fun _ _ _ h => h) (Or.inl ⟨by rfl, ?_⟩) hS ?_; rotate_left; focus ((intro w' hSw; clear hSw; go_simp) <;> with_reducible rfl)
  try simp only [Act.put, List.setIfInBounds_toArray, List.set_cons_zero, List.set_cons_succ]
  refine wpAnyH_ready (rs := [6]) (by kernel_rfl) (by simp) ?_
  refine (AllReadyH.cons (op_at rfl) (fun K hK => ?_) AllReadyH.nil)
  go_simp
  have dx0_1 : eb ≠ w3.heap.size := Nat.ne_of_lt N0.out.lt
  replace N0 := Lib.hid (N0.out.alloc (.cells #[.bool false, .int .i64 120] 65))
  obtain ⟨b0, b1, b2, b3, b4, b5, hb⟩ := hS
  have N1 : Hid (Blk (w3.alloc (.cells #[.bool false, .int .i64 120] 65)) w3.heap.size 65 #[.bool false, .int .i64 120]) := Lib.hid (Blk.new' rfl)
  have d0_N1 : pb ≠ w3.heap.size := Nat.ne_of_lt b0.lt
  have d1_N1 : wb ≠ w3.heap.size := Nat.ne_of_lt b1.lt
  have d2_N1 : xb ≠ w3.heap.size := Nat.ne_of_lt b2.lt
  have d3_N1 : cb ≠ w3.heap.size := Nat.ne_of_lt b3.lt
  have d4_N1 : g ≠ w3.heap.size := Nat.ne_of_lt b4.lt
  have d5_N1 : w1.heap.size ≠ w3.heap.size := Nat.ne_of_lt b5.lt
  have dd_N1 : w0.heap.size ≤ w3.heap.size := hb.size
  refine hK.out _ _ ⟨b0.alloc _, b1.alloc _, b2.alloc _, b3.alloc _, b4.alloc _, b5.alloc _, below_alloc hb _⟩ (fun hS => ?_)
  clear hK K b0 b1 b2 b3 b4 b5 hb
  try simp only [Act.put, List.setIfInBounds_toArray, List.set_cons_zero, List.set_cons_succ]
  refine wpAnyH_ready (rs := [7]) (by kernel_rfl) (by simp) ?_
  refine (AllReadyH.cons (op_at rfl) (fun K hK => ?_) AllReadyH.nil)
  go_simp
  obtain ⟨b0, b1, b2, b3, b4, b5, hb⟩ := hS
  refine (must_any who none [(false, 120)] eb (.slice (some ⟨g, 0, none⟩) m cap) _ _ N0.out (RowsAt.of_blk (cs := #[.bool false, .int .i64 120]) (l := [(false, 120)]) (cap := 1) encC_size (Blk.new' rfl) ⟨[], rfl⟩ (by simp) (by decide)) (fun b off m c h => by cases h; omega)).mono ?_
  rintro e w4 ⟨rfl, hT, hB⟩
  replace N0 : Hid (Blk w4 (eb) 63 #[.slice (some ⟨g, 0, none⟩) m cap, .int .i64 who, .iface 85 (.agg #[.int .i64 who, .iface 83 (.agg #[.int .i64 120])])]) := Lib.hid hT
  replace N1 := Lib.hid (N1.out.turned hB (by omega))
  refine hK.out _ _ ⟨b0.turned hB (by omega), b1.turned hB (by omega), b2.turned hB (by omega), b3.turned hB (by omega), b4.turned hB (by omega), b5.turned hB (by omega), below_turns hb hB (by omega)⟩ (fun hS => ?_)
  clear hK K hT hB b0 b1 b2 b3 b4 b5 hb
  try simp only [Act.put, List.setIfInBounds_toArray, List.set_cons_zero, List.set_cons_succ]
  refine wpAnyH_done (by kernel_rfl) ?_ _
  obtain ⟨b0, b1, b2, b3, b4, b5, hb⟩ := hS
  replace B0 := Lib.hid b0
  clear b0
  replace B1 := Lib.hid b1
  clear b1
  replace B2 := Lib.hid b2
  clear b2
  replace B3 := Lib.hid b3
  clear b3
  replace B5 := Lib.hid b4
  clear b4
  replace B6 := Lib.hid b5
  clear b5
  replace B4 := N0
  clear N0
  have B7 := N1
  clear N1
  replace HB := Lib.hid hb
  clear hb
  go_wp2_with fail
  refine wp_region_gen2 (S := (fun W' => Blk W' (pb) 54 #[.pointer (some ⟨eb, 0, none⟩)] ∧ Blk W' (wb) 3 #[.int .i64 k] ∧ Blk W' (xb) 41 #[.int .i64 x.par, .int .i64 x.st, .int .i64 x.cur.lv, .int .u64 (u x.cur.c), .int .i64 x.cur.ig, .int .i64 x.high.lv, .int .u64 (u x.high.c), .int .i64 x.high.ig] ∧ Blk W' (cb) 3 #[.int .i64 c] ∧ Blk W' (eb) 63 #[.slice (some ⟨g, 0, none⟩) m cap, .int .i64 who, .iface 85 (.agg #[.int .i64 who, .iface 83 (.agg #[.int .i64 120])])] ∧ Blk W' (w1.heap.size) 25 #[.int .i64 p.cur.lv, .int .u64 (u p.cur.c), .int .i64 p.cur.ig] ∧ Below w0.heap.size w0 W')) (N := (fun W' => Blk W' (g) 41 cs)) (by kernel_rfl) ⟨(by repeat (first | exact B0.out | exact Blk.new' (by simp; done) | exact Blk.new' rfl | refine Blk.drew ?_ | refine Blk.alloc ?_ _)), (by repeat (first | exact B1.out | exact Blk.new' (by simp; done) | exact Blk.new' rfl | refine Blk.drew ?_ | refine Blk.alloc ?_ _)), (by repeat (first | exact B2.out | exact Blk.new' (by simp; done) | exact Blk.new' rfl | refine Blk.drew ?_ | refine Blk.alloc ?_ _)), (by repeat (first | exact B3.out | exact Blk.new' (by simp; done) | exact Blk.new' rfl | refine Blk.drew ?_ | refine Blk.alloc ?_ _)), (by repeat (first | exact B4.out | exact Blk.new' (by simp; done) | exact Blk.new' rfl | refine Blk.drew ?_ | refine Blk.alloc ?_ _)), (by repeat (first | exact B6.out | exact Blk.new' (by simp; done) | exact Blk.new' rfl | refine Blk.drew ?_ | refine Blk.alloc ?_ _)), (by repeat (first | exact HB.out | refine below_alloc ?_ _ | refine Below.drew ?_ | refine below_set ?_ (by omega) _))⟩ (by repeat (first | exact B5.out | exact Blk.new' (by simp; done) | exact Blk.new' rfl | refine Blk.drew ?_ | refine Blk.alloc ?_ _)) (fun w5 hS hN => ?_)
  have n0 := hN
  have N0 := Lib.hid n0
  have d0_N0 : pb ≠ g := by omega
  have d1_N0 : wb ≠ g := by omega
  have d2_N0 : xb ≠ g := by omega
  have d3_N0 : cb ≠ g := by omega
  have d4_N0 : eb ≠ g := by omega
  have d5_N0 : w1.heap.size ≠ g := by omega
  have dd_N0 : w0.heap.size ≤ g := by omega
  clear n0 hN
  refine wpAnyH_take (i := 0) (v := ?_) (op_at rfl) (by kernel_rfl) (by kernel_rfl) (by kernel_rfl) (fun _ _ _ h => h) (Or.inl ⟨by rfl, ?_⟩) hS ?_; rotate_left; focus ((intro w' hSw; obtain ⟨q, -⟩ := hSw; have c0 := q.at_ (i := 0) (v := .pointer (some ⟨eb, 0, none⟩)) rfl; clear q; go_simp) <;> with_reducible rfl)
  try simp only [Act.put, List.setIfInBounds_toArray, List.set_cons_zero, List.set_cons_succ]
  refine wpAnyH_take (i := 1) (v := ?_) (op_at rfl) (by kernel_rfl) (by kernel_rfl) (by kernel_rfl) (fun _ _ _ h => h) (Or.inl ⟨by rfl, ?_⟩) hS ?_; rotate_left; focus ((intro w' hSw; clear hSw; go_simp) <;> with_reducible rfl)
  try simp only [Act.put, List.setIfInBounds_toArray, List.set_cons_zero, List.set_cons_succ]
  refine wpAnyH_take (i := 2) (v := ?_) (op_at rfl) (by kernel_rfl) (by kernel_rfl) (by kernel_rfl) (fun _ _ _ h => h) (Or.inl ⟨by rfl, ?_⟩) hS ?_; rotate_left; focus ((intro w' hSw; clear hSw; go_simp) <;> with_reducible rfl)
  try simp only [Act.put, List.setIfInBounds_toArray, List.set_cons_zero, List.set_cons_succ]
  refine wpAnyH_take (i := 3) (v := ?_) (op_at rfl) (by kernel_rfl) (by kernel_rfl) (by kernel_rfl) (fun _ _ _ h => h) (Or.inl ⟨by rfl, ?_⟩) hS ?_; rotate_left; focus ((intro w' hSw; clear hSw; go_simp) <;> with_reducible rfl)
  try simp only [Act.put, List.setIfInBounds_toArray, List.set_cons_zero, List.set_cons_succ]
  refine wpAnyH_take (i := 4) (v := ?_) (op_at rfl) (by kernel_rfl) (by kernel_rfl) (by kernel_rfl) (fun _ _ _ h => h) (Or.inl ⟨by rfl, ?_⟩) hS ?_; rotate_left; focus ((intro w' hSw; obtain ⟨-, -, -, -, q, -⟩ := hSw; have c0 := q.at_ (i := 0) (v := .slice (some ⟨g, 0, none⟩) m cap) rfl; clear q; go_simp) <;> with_reducible rfl)
  try simp only [Act.put, List.setIfInBounds_toArray, List.set_cons_zero, List.set_cons_succ]
  refine wpAnyH_take (i := 5) (v := ?_) (op_at rfl) (by kernel_rfl) (by kernel_rfl) (by kernel_rfl) (fun _ _ _ h => h) (Or.inl ⟨by rfl, ?_⟩) hS ?_; rotate_left; focus ((intro w' hSw; obtain ⟨-, -, -, q, -⟩ := hSw; have c0 := q.at_ (i := 0) (v := .int .i64 c) rfl; clear q; go_simp) <;> with_reducible rfl)
  try simp only [Act.put, List.setIfInBounds_toArray, List.set_cons_zero, List.set_cons_succ]
  refine wpAnyH_take (i := 6) (v := ?_) (op_at rfl) (by kernel_rfl) (by kernel_rfl) (by kernel_rfl) (fun _ _ _ h => h) (Or.inl ⟨by rfl, ?_⟩) hS ?_; rotate_left; focus ((intro w' hSw; obtain ⟨q, -⟩ := hSw; have c0 := q.at_ (i := 0) (v := .pointer (some ⟨eb, 0, none⟩)) rfl; clear q; go_simp) <;> with_reducible rfl)
  try simp only [Act.put, List.setIfInBounds_toArray, List.set_cons_zero, List.set_cons_succ]
  refine wpAnyH_take (i := 7) (v := ?_) (op_at rfl) (by kernel_rfl) (by kernel_rfl) (by kernel_rfl) (fun _ _ _ h => h) (Or.inl ⟨by rfl, ?_⟩) hS ?_; rotate_left; focus ((intro w' hSw; clear hSw; go_simp) <;> with_reducible rfl)
  try simp only [Act.put, List.setIfInBounds_toArray, List.set_cons_zero, List.set_cons_succ]
  refine wpAnyH_take (i := 8) (v := ?_) (op_at rfl) (by kernel_rfl) (by kernel_rfl) (by kernel_rfl) (fun _ _ _ h => h) (Or.inl ⟨by rfl, ?_⟩) hS ?_; rotate_left; focus ((intro w' hSw; clear hSw; go_simp) <;> with_reducible rfl)
  try simp only [Act.put, List.setIfInBounds_toArray, List.set_cons_zero, List.set_cons_succ]
  refine wpAnyH_take (i := 9) (v := ?_) (op_at rfl) (by kernel_rfl) (by kernel_rfl) (by kernel_rfl) (fun _ _ _ h => h) (Or.inl ⟨by rfl, ?_⟩) hS ?_; rotate_left; focus ((intro w' hSw; clear hSw; go_simp) <;> with_reducible rfl)
  try simp only [Act.put, List.setIfInBounds_toArray, List.set_cons_zero, List.set_cons_succ]
  refine wpAnyH_take (i := 10) (v := ?_) (op_at rfl) (by kernel_rfl) (by kernel_rfl) (by kernel_rfl) (fun _ _ _ h => h) (Or.inl ⟨by rfl, ?_⟩) hS ?_; rotate_left; focus ((intro w' hSw; obtain ⟨-, -, -, -, q, -⟩ := hSw; have c0 := q.at_ (i := 0) (v := .slice (some ⟨g, 0, none⟩) m cap) rfl; clear q; go_simp) <;> with_reducible rfl)
  try simp only [Act.put, List.setIfInBounds_toArray, List.set_cons_zero, List.set_cons_succ]
  refine wpAnyH_take (i := 11) (v := ?_) (op_at rfl) (by kernel_rfl) (by kernel_rfl) (by kernel_rfl) (fun _ _ _ h => h) (Or.inl ⟨by rfl, ?_⟩) hS ?_; rotate_left; focus ((intro w' hSw; obtain ⟨-, -, -, q, -⟩ := hSw; have c0 := q.at_ (i := 0) (v := .int .i64 c) rfl; clear q; go_simp) <;> with_reducible rfl)
  try simp only [Act.put, List.setIfInBounds_toArray, List.set_cons_zero, List.set_cons_succ]
  refine wpAnyH_take (i := 12) (v := ?_) (op_at rfl) (by kernel_rfl) (by kernel_rfl) (by kernel_rfl) (fun _ _ _ h => h) (Or.inl ⟨by rfl, ?_⟩) hS ?_; rotate_left; focus ((intro w' hSw; obtain ⟨-, -, -, -, -, q, -⟩ := hSw; have c0 := q.at_ (i := 0) (v := .int .i64 p.cur.lv) rfl; have c1 := q.at_ (i := 1) (v := .int .u64 (u p.cur.c)) rfl; have c2 := q.at_ (i := 2) (v := .int .i64 p.cur.ig) rfl; clear q; go_simp) <;> with_reducible rfl)
  try simp only [Act.put, List.setIfInBounds_toArray, List.set_cons_zero, List.set_cons_succ]
  refine wpAnyH_take (i := 13) (v := ?_) (op_at rfl) (by kernel_rfl) (by kernel_rfl) (by kernel_rfl) (fun _ _ _ h => h) (Or.inl ⟨by rfl, ?_⟩) hS ?_; rotate_left; focus ((intro w' hSw; clear hSw; go_simp) <;> with_reducible rfl)
  try simp only [Act.put, List.setIfInBounds_toArray, List.set_cons_zero, List.set_cons_succ]
  refine wpAnyH_take (i := 14) (v := ?_) (op_at rfl) (by kernel_rfl) (by kernel_rfl) (by kernel_rfl) (fun _ _ _ h => h) (Or.inl ⟨by rfl, ?_⟩) hS ?_; rotate_left; focus ((intro w' hSw; clear hSw; go_simp) <;> with_reducible rfl)
  try simp only [Act.put, List.setIfInBounds_toArray, List.set_cons_zero, List.set_cons_succ]
  refine wpAnyH_ready (rs := [15]) (by kernel_rfl) (by simp) ?_
  refine (AllReadyH.cons (op_at rfl) (fun K hK => ?_) AllReadyH.nil)
  have p_0 : w5.cell? ⟨g, c * 8 + 1, none⟩ = some (.int .i64 x.st) := N0.out.at_ HC1.out
  have f_0 : w5.frozen? ⟨g, c * 8 + 1, none⟩ = false := N0.out.frozen _
  go_simp
  clear p_0 f_0
  obtain ⟨b0, b1, b2, b3, b4, b5, hb⟩ := hS
  refine hK.out _ _ ⟨(Blk.far b0 d0_N0 _), (Blk.far b1 d1_N0 _), (Blk.far b2 d2_N0 _), (Blk.far b3 d3_N0 _), (Blk.far b4 d4_N0 _), (Blk.far b5 d5_N0 _), (below_set hb dd_N0 _)⟩ (fun hS => ?_)
  replace N0 := Lib.hid (Blk.set' (u := .int .i64 1) (i := c * 8 + 1) (cs' := (cs.setIfInBounds (c * 8 + 1) (.int .i64 1))) N0.out rfl)
  clear hK K b0 b1 b2 b3 b4 b5 hb
  try simp only [Act.put, List.setIfInBounds_toArray, List.set_cons_zero, List.set_cons_succ]
  refine wpAnyH_take (i := 16) (v := ?_) (op_at rfl) (by kernel_rfl) (by kernel_rfl) (by kernel_rfl) (fun _ _ _ h => h) (Or.inl ⟨by rfl, ?_⟩) hS ?_; rotate_left; focus ((intro w' hSw; clear hSw; go_simp) <;> with_reducible rfl)
  try simp only [Act.put, List.setIfInBounds_toArray, List.set_cons_zero, List.set_cons_succ]
  refine wpAnyH_take (i := 17) (v := ?_) (op_at rfl) (by kernel_rfl) (by kernel_rfl) (by kernel_rfl) (fun _ _ _ h => h) (Or.inl ⟨by rfl, ?_⟩) hS ?_; rotate_left; focus ((intro w' hSw; clear hSw; go_simp) <;> with_reducible rfl)
  try simp only [Act.put, List.setIfInBounds_toArray, List.set_cons_zero, List.set_cons_succ]
  refine wpAnyH_ready (rs := [18]) (by kernel_rfl) (by simp) ?_
  refine (AllReadyH.cons (op_at rfl) (fun K hK => ?_) AllReadyH.nil)
  have p_0 : (w5.setCell ⟨g, c * 8 + 1, none⟩ (.int .i64 1)).cell? ⟨g, c * 8 + 2, none⟩ = some (.int .i64 x.cur.lv) := N0.out.at_ (by rw [Array.getElem?_setIfInBounds_ne (by omega)]; exact HC2.out)
  have f_0 : (w5.setCell ⟨g, c * 8 + 1, none⟩ (.int .i64 1)).frozen? ⟨g, c * 8 + 2, none⟩ = false := N0.out.frozen _
  have p_1 : (w5.setCell ⟨g, c * 8 + 1, none⟩ (.int .i64 1)).cell? ⟨g, c * 8 + 3, none⟩ = some (.int .u64 (u x.cur.c)) := N0.out.at_ (by rw [Array.getElem?_setIfInBounds_ne (by omega)]; exact HC3.out)
  have f_1 : (w5.setCell ⟨g, c * 8 + 1, none⟩ (.int .i64 1)).frozen? ⟨g, c * 8 + 3, none⟩ = false := N0.out.frozen _
  have p_2 : (w5.setCell ⟨g, c * 8 + 1, none⟩ (.int .i64 1)).cell? ⟨g, c * 8 + 4, none⟩ = some (.int .i64 x.cur.ig) := N0.out.at_ (by rw [Array.getElem?_setIfInBounds_ne (by omega)]; exact HC4.out)
  have f_2 : (w5.setCell ⟨g, c * 8 + 1, none⟩ (.int .i64 1)).frozen? ⟨g, c * 8 + 4, none⟩ = false := N0.out.frozen _
  go_simp
  clear p_0 f_0 p_1 f_1 p_2 f_2
  obtain ⟨b0, b1, b2, b3, b4, b5, hb⟩ := hS
  refine hK.out _ _ ⟨(Blk.far (Blk.far (Blk.far b0 d0_N0 _) d0_N0 _) d0_N0 _), (Blk.far (Blk.far (Blk.far b1 d1_N0 _) d1_N0 _) d1_N0 _), (Blk.far (Blk.far (Blk.far b2 d2_N0 _) d2_N0 _) d2_N0 _), (Blk.far (Blk.far (Blk.far b3 d3_N0 _) d3_N0 _) d3_N0 _), (Blk.far (Blk.far (Blk.far b4 d4_N0 _) d4_N0 _) d4_N0 _), (Blk.far (Blk.far (Blk.far b5 d5_N0 _) d5_N0 _) d5_N0 _), (below_set (below_set (below_set hb dd_N0 _) dd_N0 _) dd_N0 _)⟩ (fun hS => ?_)
  replace N0 := Lib.hid (Blk.set' (u := .int .i64 p.cur.ig) (i := c * 8 + 4) (cs' := ((((cs.setIfInBounds (c * 8 + 1) (.int .i64 1)).setIfInBounds (c * 8 + 2) (.int .i64 p.cur.lv)).setIfInBounds (c * 8 + 3) (.int .u64 (u p.cur.c))).setIfInBounds (c * 8 + 4) (.int .i64 p.cur.ig))) (Blk.set' (u := .int .u64 (u p.cur.c)) (i := c * 8 + 3) (cs' := (((cs.setIfInBounds (c * 8 + 1) (.int .i64 1)).setIfInBounds (c * 8 + 2) (.int .i64 p.cur.lv)).setIfInBounds (c * 8 + 3) (.int .u64 (u p.cur.c)))) (Blk.set' (u := .int .i64 p.cur.lv) (i := c * 8 + 2) (cs' := ((cs.setIfInBounds (c * 8 + 1) (.int .i64 1)).setIfInBounds (c * 8 + 2) (.int .i64 p.cur.lv))) N0.out rfl) rfl) rfl)
  clear hK K b0 b1 b2 b3 b4 b5 hb
  try simp only [Act.put, List.setIfInBounds_toArray, List.set_cons_zero, List.set_cons_succ]
  refine wpAnyH_done (by kernel_rfl) ?_ _
  obtain ⟨b0, b1, b2, b3, b4, b5, hb⟩ := hS
  replace B0 := Lib.hid b0
  clear b0
  replace B1 := Lib.hid b1
  clear b1
  replace B2 := Lib.hid b2
  clear b2
  replace B3 := Lib.hid b3
  clear b3
  replace B4 := Lib.hid b4
  clear b4
  replace B6 := Lib.hid b5
  clear b5
  replace B5 := N0
  clear N0
  replace HB := Lib.hid hb
  clear hb
  go_wp2_with fail
  go_end0
  exact ⟨rfl, B4.out, HB.out⟩
end

section
open Go.RowKit

attribute [local go_sem] u_and u_or u_andNot u_add u_sub u_bit u_eq_zero u_beq

set_option maxRecDepth 100000 in
set_option maxHeartbeats 4000000 in
theorem Start_a1 (l : List Sub) (v : Value) (who y : Int) (child : Int) (w : World) (hl : SubsAt w.heap.size w v l) (hh : Handle w) (hop : openO l who = some y) (hh2 : (decide ((0 : Int) ≤ child) && decide (child < (l.length : Int))) = true) (hle : l.length ≤ 1000) :
    Calls Tryd.prog 12 #[v, .int .i64 who, .int .i64 child] w fun e w' => ∃ v', e = .returned (.tuple #[v', .int .i64 y]) ∧ SubsAt w'.heap.size w' v' [] ∧ Below w.heap.size w w' := by
  have HL := Lib.hid hl
  have HH := Lib.hid hh
  have HOP := Lib.hid hop
  have HH2 := Lib.hid hh2
  clear hl hh hop hh2
  have HB := Lib.hid (Below.refl w.heap.size w)
  go_enter Tryd.func12, Tryd.ntmps12
  go_wp2_with fail
  refine (open_any l v who _ (HL.out.later (by repeat (first | exact HB.out | refine below_alloc ?_ _ | refine Below.drew ?_ | refine below_set ?_ (by omega) _)) ((show Below w.heap.size w _ by repeat (first | exact HB.out | refine below_alloc ?_ _ | refine Below.drew ?_ | refine below_set ?_ (by omega) _))).size) hle).mono ?_
  rintro e w1 ⟨eb, v', rfl, hge, hE, hT, hne, hB⟩
  replace HB := Lib.hid (below_call (w := w) (by repeat (first | exact HB.out | refine below_alloc ?_ _ | refine Below.drew ?_ | refine below_set ?_ (by omega) _)) hB)
  have z1 : w.heap.size ≤ w1.heap.size := HB.out.size
  have B1 : Hid (Blk w1 (w.heap.size + 1) 3 #[.int .i64 child]) := Lib.hid (Blk.after (by repeat (first | exact Blk.new' (by simp; done) | exact Blk.new' rfl | refine Blk.drew ?_ | refine Blk.alloc ?_ _)) hB)
  clear hB
  obtain ⟨A', c', rfl⟩ := hT.slice
  have zg : w.heap.size + 2 ≤ eb := by simp at hge; omega
  have ze : eb < w1.heap.size := hE.lt
  rw [HOP.out] at hE
  have B2 := Lib.hid (show Blk w1 eb 63 #[.slice A' l.length c', .int .i64 who, .iface 85 (.agg #[.int .i64 who, .iface 83 (.agg #[.int .i64 y])])] from hE)
  clear hE hT hne hge
  go_wp2_with fail
  refine wp_region_gen2 (S := (fun W' => Blk W' (w.heap.size + 1) 3 #[.int .i64 child] ∧ Blk W' (w1.heap.size) 54 #[.pointer (some ⟨eb, 0, none⟩)] ∧ Below w.heap.size w W')) (N := (fun W' => Blk W' (eb) 63 #[.slice A' l.length c', .int .i64 who, .iface 85 (.agg #[.int .i64 who, .iface 83 (.agg #[.int .i64 y])])])) (by kernel_rfl) ⟨(by repeat (first | exact B1.out | exact Blk.new' (by simp; done) | exact Blk.new' rfl | refine Blk.drew ?_ | refine Blk.alloc ?_ _)), (by repeat (first | exact Blk.new' (by simp; done) | exact Blk.new' rfl | refine Blk.drew ?_ | refine Blk.alloc ?_ _)), (by repeat (first | exact HB.out | refine below_alloc ?_ _ | refine Below.drew ?_ | refine below_set ?_ (by omega) _))⟩ (by repeat (first | exact B2.out | exact Blk.new' (by simp; done) | exact Blk.new' rfl | refine Blk.drew ?_ | refine Blk.alloc ?_ _)) (fun w2 hS hN => ?_)
  have n0 := hN
  have N0 := Lib.hid n0
  have d0_N0 : w.heap.size + 1 ≠ eb := by omega
  have d1_N0 : w1.heap.size ≠ eb := by omega
  have dd_N0 : w.heap.size ≤ eb := by omega
  clear n0 hN
  refine wpAnyH_take (i := 0) (v := ?_) (op_at rfl) (by kernel_rfl) (by kernel_rfl) (by kernel_rfl) (fun _ _ _ h => h) (Or.inl ⟨by rfl, ?_⟩) hS ?_; rotate_left; focus ((intro w' hSw; obtain ⟨-, q, -⟩ := hSw; have c0 := q.at_ (i := 0) (v := .pointer (some ⟨eb, 0, none⟩)) rfl; clear q; go_simp) <;> with_reducible rfl)
  try simp only [Act.put, List.setIfInBounds_toArray, List.set_cons_zero, List.set_cons_succ]
  refine wpAnyH_take (i := 1) (v := ?_) (op_at rfl) (by kernel_rfl) (by kernel_rfl) (by kernel_rfl) (fun _ _ _ h => h) (Or.inl ⟨by rfl, ?_⟩) hS ?_; rotate_left; focus ((intro w' hSw; obtain ⟨-, q, -⟩ := hSw; have c0 := q.at_ (i := 0) (v := .pointer (some ⟨eb, 0, none⟩)) rfl; clear q; go_simp) <;> with_reducible rfl)
  try simp only [Act.put, List.setIfInBounds_toArray, List.set_cons_zero, List.set_cons_succ]
  refine wpAnyH_take (i := 2) (v := ?_) (op_at rfl) (by kernel_rfl) (by kernel_rfl) (by kernel_rfl) (fun _ _ _ h => h) (Or.inl ⟨by rfl, ?_⟩) hS ?_; rotate_left; focus ((intro w' hSw; clear hSw; go_simp) <;> with_reducible rfl)
  try simp only [Act.put, List.setIfInBounds_toArray, List.set_cons_zero, List.set_cons_succ]
  refine wpAnyH_take (i := 3) (v := ?_) (op_at rfl) (by kernel_rfl) (by kernel_rfl) (by kernel_rfl) (fun _ _ _ h => h) (Or.inl ⟨by rfl, ?_⟩) hS ?_; rotate_left; focus ((intro w' hSw; clear hSw; go_simp) <;> with_reducible rfl)
  try simp only [Act.put, List.setIfInBounds_toArray, List.set_cons_zero, List.set_cons_succ]
  refine wpAnyH_take (i := 4) (v := ?_) (op_at rfl) (by kernel_rfl) (by kernel_rfl) (by kernel_rfl) (fun _ _ _ h => h) (Or.inl ⟨by rfl, ?_⟩) hS ?_; rotate_left; focus ((intro w' hSw; obtain ⟨q, -⟩ := hSw; have c0 := q.at_ (i := 0) (v := .int .i64 child) rfl; clear q; go_simp) <;> with_reducible rfl)
  try simp only [Act.put, List.setIfInBounds_toArray, List.set_cons_zero, List.set_cons_succ]
  refine wpAnyH_ready (rs := [5]) (by kernel_rfl) (by simp) ?_
  refine (AllReadyH.cons (op_at rfl) (fun K hK => ?_) AllReadyH.nil)
  go_simp
  obtain ⟨b0, b1, hb⟩ := hS
  refine (hasIs HH2.out (N0.out.at_ (i := 0) (v := .slice A' l.length c') rfl)).mono ?_
  rintro e w' ⟨rfl, rfl⟩
  refine hK.out _ _ ⟨b0, b1, hb⟩ (fun hS => ?_)
  clear hK K b0 b1 hb
  try simp only [Act.put, List.setIfInBounds_toArray, List.set_cons_zero, List.set_cons_succ]
  refine wpAnyH_take (i := 6) (v := ?_) (op_at rfl) (by kernel_rfl) (by kernel_rfl) (by kernel_rfl) (fun _ _ _ h => h) (Or.inl ⟨by rfl, ?_⟩) hS ?_; rotate_left; focus ((intro w' hSw; clear hSw; go_simp) <;> with_reducible rfl)
  try simp only [Act.put, List.setIfInBounds_toArray, List.set_cons_zero, List.set_cons_succ]
  refine wpAnyH_ready (rs := [7]) (by kernel_rfl) (by simp) ?_
  refine (AllReadyH.cons (op_at rfl) (fun K hK => ?_) AllReadyH.nil)
  go_simp
  have dx0_1 : eb ≠ w2.heap.size := Nat.ne_of_lt N0.out.lt
  replace N0 := Lib.hid (N0.out.alloc (.cells #[.bool true, .int .i64 162] 65))
  obtain ⟨b0, b1, hb⟩ := hS
  have N1 : Hid (Blk (w2.alloc (.cells #[.bool true, .int .i64 162] 65)) w2.heap.size 65 #[.bool true, .int .i64 162]) := Lib.hid (Blk.new' rfl)
  have d0_N1 : w.heap.size + 1 ≠ w2.heap.size := Nat.ne_of_lt b0.lt
  have d1_N1 : w1.heap.size ≠ w2.heap.size := Nat.ne_of_lt b1.lt
  have dd_N1 : w.heap.size ≤ w2.heap.size := hb.size
  refine hK.out _ _ ⟨b0.alloc _, b1.alloc _, below_alloc hb _⟩ (fun hS => ?_)
  clear hK K b0 b1 hb
  try simp only [Act.put, List.setIfInBounds_toArray, List.set_cons_zero, List.set_cons_succ]
  refine wpAnyH_ready (rs := [8]) (by kernel_rfl) (by simp) ?_
  refine (AllReadyH.cons (op_at rfl) (fun K hK => ?_) AllReadyH.nil)
  go_simp
  obtain ⟨b0, b1, hb⟩ := hS
  refine (must_any who (some y) [(true, 162)] eb (.slice A' l.length c') _ _ N0.out (RowsAt.of_blk (cs := #[.bool true, .int .i64 162]) (l := [(true, 162)]) (cap := 1) encC_size (Blk.new' rfl) ⟨[], rfl⟩ (by simp) (by decide)) (fun b off m c h => by cases h; omega)).mono ?_
  rintro e w3 ⟨rfl, hT, hB⟩
  replace N0 : Hid (Blk w3 (eb) 63 #[.slice A' l.length c', .int .i64 who, .iface 85 (.agg #[.int .i64 who, .iface 83 (.agg #[.int .i64 y])])]) := Lib.hid hT
  replace N1 := Lib.hid (N1.out.turned hB (by omega))
  refine hK.out _ _ ⟨b0.turned hB (by omega), b1.turned hB (by omega), below_turns hb hB (by omega)⟩ (fun hS => ?_)
  clear hK K hT hB b0 b1 hb
  try simp only [Act.put, List.setIfInBounds_toArray, List.set_cons_zero, List.set_cons_succ]
  refine wpAnyH_done (by kernel_rfl) ?_ _
  obtain ⟨b0, b1, hb⟩ := hS
  replace B1 := Lib.hid b0
  clear b0
  replace B3 := Lib.hid b1
  clear b1
  replace B2 := N0
  clear N0
  have B4 := N1
  clear N1
  replace HB := Lib.hid hb
  clear hb
  have p2_2 := B2.out.at_ (i := 2) (v := .iface 85 (.agg #[.int .i64 who, .iface 83 (.agg #[.int .i64 y])])) rfl
  have k2_0 : eb < w3.heap.size := by have := B2.out.lt; omega
  have p3_0 := B3.out.at_ (i := 0) (v := .pointer (some ⟨eb, 0, none⟩)) rfl
  have k3_0 : w1.heap.size < w3.heap.size := by have := B3.out.lt; omega
  go_wp2_with fail
  refine (toldS_any who y _ (HH.out.up (by repeat (first | exact HB.out | refine below_alloc ?_ _ | refine Below.drew ?_ | refine below_set ?_ (by omega) _)))).mono ?_
  rintro e w4 ⟨rfl, hB⟩
  replace HB := Lib.hid (below_call (w := w) (by repeat (first | exact HB.out | refine below_alloc ?_ _ | refine Below.drew ?_ | refine below_set ?_ (by omega) _)) hB)
  have z4 : w.heap.size ≤ w4.heap.size := HB.out.size
  replace B2 : Hid (Blk w4 (eb) 63 #[.slice A' l.length c', .int .i64 who, .iface 85 (.agg #[.int .i64 who, .iface 83 (.agg #[.int .i64 y])])]) := Lib.hid (Blk.after (by repeat (first | exact B2.out | exact Blk.new' (by simp; done) | exact Blk.new' rfl | refine Blk.drew ?_ | refine Blk.alloc ?_ _)) hB)
  clear p2_2 k2_0 p3_0 k3_0
  clear hB
  go_wp2_with fail
  go_ret2
  exact ⟨_, rfl, RowsAt.nil _ _, (by repeat (first | exact HB.out | refine below_alloc ?_ _ | refine Below.drew ?_ | refine below_set ?_ (by omega) _))⟩
set_option maxRecDepth 100000 in
set_option maxHeartbeats 4000000 in
theorem Start_a0 (l : List Sub) (v : Value) (who y : Int) (child : Int) (w : World) (hl : SubsAt w.heap.size w v l) (hh : Handle w) (hop : openO l who = some y) (hh2 : (decide ((0 : Int) ≤ child) && decide (child < (l.length : Int))) = false) (hle : l.length ≤ 1000) :
    Calls Tryd.prog 12 #[v, .int .i64 who, .int .i64 child] w fun e w' => ∃ v', e = .returned (.tuple #[v', .int .i64 y]) ∧ SubsAt w'.heap.size w' v' [] ∧ Below w.heap.size w w' := by
  have HL := Lib.hid hl
  have HH := Lib.hid hh
  have HOP := Lib.hid hop
  have HH2 := Lib.hid hh2
  clear hl hh hop hh2
  have HB := Lib.hid (Below.refl w.heap.size w)
  go_enter Tryd.func12, Tryd.ntmps12
  go_wp2_with fail
  refine (open_any l v who _ (HL.out.later (by repeat (first | exact HB.out | refine below_alloc ?_ _ | refine Below.drew ?_ | refine below_set ?_ (by omega) _)) ((show Below w.heap.size w _ by repeat (first | exact HB.out | refine below_alloc ?_ _ | refine Below.drew ?_ | refine below_set ?_ (by omega) _))).size) hle).mono ?_
  rintro e w1 ⟨eb, v', rfl, hge, hE, hT, hne, hB⟩
  replace HB := Lib.hid (below_call (w := w) (by repeat (first | exact HB.out | refine below_alloc ?_ _ | refine Below.drew ?_ | refine below_set ?_ (by omega) _)) hB)
  have z1 : w.heap.size ≤ w1.heap.size := HB.out.size
  have B1 : Hid (Blk w1 (w.heap.size + 1) 3 #[.int .i64 child]) := Lib.hid (Blk.after (by repeat (first | exact Blk.new' (by simp; done) | exact Blk.new' rfl | refine Blk.drew ?_ | refine Blk.alloc ?_ _)) hB)
  clear hB
  obtain ⟨A', c', rfl⟩ := hT.slice
  have zg : w.heap.size + 2 ≤ eb := by simp at hge; omega
  have ze : eb < w1.heap.size := hE.lt
  rw [HOP.out] at hE
  have B2 := Lib.hid (show Blk w1 eb 63 #[.slice A' l.length c', .int .i64 who, .iface 85 (.agg #[.int .i64 who, .iface 83 (.agg #[.int .i64 y])])] from hE)
  clear hE hT hne hge
  go_wp2_with fail
  refine wp_region_gen2 (S := (fun W' => Blk W' (w.heap.size + 1) 3 #[.int .i64 child] ∧ Blk W' (w1.heap.size) 54 #[.pointer (some ⟨eb, 0, none⟩)] ∧ Below w.heap.size w W')) (N := (fun W' => Blk W' (eb) 63 #[.slice A' l.length c', .int .i64 who, .iface 85 (.agg #[.int .i64 who, .iface 83 (.agg #[.int .i64 y])])])) (by kernel_rfl) ⟨(by repeat (first | exact B1.out | exact Blk.new' (by simp; done) | exact Blk.new' rfl | refine Blk.drew ?_ | refine Blk.alloc ?_ _)), (by repeat (first | exact Blk.new' (by simp; done) | exact Blk.new' rfl | refine Blk.drew ?_ | refine Blk.alloc ?_ _)), (by repeat (first | exact HB.out | refine below_alloc ?_ _ | refine Below.drew ?_ | refine below_set ?_ (by omega) _))⟩ (by repeat (first | exact B2.out | exact Blk.new' (by simp; done) | exact Blk.new' rfl | refine Blk.drew ?_ | refine Blk.alloc ?_ _)) (fun w2 hS hN => ?_)
  have n0 := hN
  have N0 := Lib.hid n0
  have d0_N0 : w.heap.size + 1 ≠ eb := by omega
  have d1_N0 : w1.heap.size ≠ eb := by omega
  have dd_N0 : w.heap.size ≤ eb := by omega
  clear n0 hN
  refine wpAnyH_take (i := 0) (v := ?_) (op_at rfl) (by kernel_rfl) (by kernel_rfl) (by kernel_rfl) (fun _ _ _ h => h) (Or.inl ⟨by rfl, ?_⟩) hS ?_; rotate_left; focus ((intro w' hSw; obtain ⟨-, q, -⟩ := hSw; have c0 := q.at_ (i := 0) (v := .pointer (some ⟨eb, 0, none⟩)) rfl; clear q; go_simp) <;> with_reducible rfl)
  try simp only [Act.put, List.setIfInBounds_toArray, List.set_cons_zero, List.set_cons_succ]
  refine wpAnyH_take (i := 1) (v := ?_) (op_at rfl) (by kernel_rfl) (by kernel_rfl) (by kernel_rfl) (fun _ _ _ h => h) (Or.inl ⟨by rfl, ?_⟩) hS ?_; rotate_left; focus ((intro w' hSw; obtain ⟨-, q, -⟩ := hSw; have c0 := q.at_ (i := 0) (v := .pointer (some ⟨eb, 0, none⟩)) rfl; clear q; go_simp) <;> with_reducible rfl)
  try simp only [Act.put, List.setIfInBounds_toArray, List.set_cons_zero, List.set_cons_succ]
  refine wpAnyH_take (i := 2) (v := ?_) (op_at rfl) (by kernel_rfl) (by kernel_rfl) (by kernel_rfl) (fun _ _ _ h => h) (Or.inl ⟨by rfl, ?_⟩) hS ?_; rotate_left; focus ((intro w' hSw; clear hSw; go_simp) <;> with_reducible rfl)
  try simp only [Act.put, List.setIfInBounds_toArray, List.set_cons_zero, List.set_cons_succ]
  refine wpAnyH_take (i := 3) (v := ?_) (op_at rfl) (by kernel_rfl) (by kernel_rfl) (by kernel_rfl) (fun _ _ _ h => h) (Or.inl ⟨by rfl, ?_⟩) hS ?_; rotate_left; focus ((intro w' hSw; clear hSw; go_simp) <;> with_reducible rfl)
  try simp only [Act.put, List.setIfInBounds_toArray, List.set_cons_zero, List.set_cons_succ]
  refine wpAnyH_take (i := 4) (v := ?_) (op_at rfl) (by kernel_rfl) (by kernel_rfl) (by kernel_rfl) (fun _ _ _ h => h) (Or.inl ⟨by rfl, ?_⟩) hS ?_; rotate_left; focus ((intro w' hSw; obtain ⟨q, -⟩ := hSw; have c0 := q.at_ (i := 0) (v := .int .i64 child) rfl; clear q; go_simp) <;> with_reducible rfl)
  try simp only [Act.put, List.setIfInBounds_toArray, List.set_cons_zero, List.set_cons_succ]
  refine wpAnyH_ready (rs := [5]) (by kernel_rfl) (by simp) ?_
  refine (AllReadyH.cons (op_at rfl) (fun K hK => ?_) AllReadyH.nil)
  go_simp
  obtain ⟨b0, b1, hb⟩ := hS
  refine (hasIs HH2.out (N0.out.at_ (i := 0) (v := .slice A' l.length c') rfl)).mono ?_
  rintro e w' ⟨rfl, rfl⟩
  refine hK.out _ _ ⟨b0, b1, hb⟩ (fun hS => ?_)
  clear hK K b0 b1 hb
  try simp only [Act.put, List.setIfInBounds_toArray, List.set_cons_zero, List.set_cons_succ]
  refine wpAnyH_take (i := 6) (v := ?_) (op_at rfl) (by kernel_rfl) (by kernel_rfl) (by kernel_rfl) (fun _ _ _ h => h) (Or.inl ⟨by rfl, ?_⟩) hS ?_; rotate_left; focus ((intro w' hSw; clear hSw; go_simp) <;> with_reducible rfl)
  try simp only [Act.put, List.setIfInBounds_toArray, List.set_cons_zero, List.set_cons_succ]
  refine wpAnyH_ready (rs := [7]) (by kernel_rfl) (by simp) ?_
  refine (AllReadyH.cons (op_at rfl) (fun K hK => ?_) AllReadyH.nil)
  go_simp
  have dx0_1 : eb ≠ w2.heap.size := Nat.ne_of_lt N0.out.lt
  replace N0 := Lib.hid (N0.out.alloc (.cells #[.bool false, .int .i64 162] 65))
  obtain ⟨b0, b1, hb⟩ := hS
  have N1 : Hid (Blk (w2.alloc (.cells #[.bool false, .int .i64 162] 65)) w2.heap.size 65 #[.bool false, .int .i64 162]) := Lib.hid (Blk.new' rfl)
  have d0_N1 : w.heap.size + 1 ≠ w2.heap.size := Nat.ne_of_lt b0.lt
  have d1_N1 : w1.heap.size ≠ w2.heap.size := Nat.ne_of_lt b1.lt
  have dd_N1 : w.heap.size ≤ w2.heap.size := hb.size
  refine hK.out _ _ ⟨b0.alloc _, b1.alloc _, below_alloc hb _⟩ (fun hS => ?_)
  clear hK K b0 b1 hb
  try simp only [Act.put, List.setIfInBounds_toArray, List.set_cons_zero, List.set_cons_succ]
  refine wpAnyH_ready (rs := [8]) (by kernel_rfl) (by simp) ?_
  refine (AllReadyH.cons (op_at rfl) (fun K hK => ?_) AllReadyH.nil)
  go_simp
  obtain ⟨b0, b1, hb⟩ := hS
  refine (must_any who (some y) [(false, 162)] eb (.slice A' l.length c') _ _ N0.out (RowsAt.of_blk (cs := #[.bool false, .int .i64 162]) (l := [(false, 162)]) (cap := 1) encC_size (Blk.new' rfl) ⟨[], rfl⟩ (by simp) (by decide)) (fun b off m c h => by cases h; omega)).mono ?_
  rintro e w3 ⟨rfl, hT, hB⟩
  replace N0 : Hid (Blk w3 (eb) 63 #[.slice A' l.length c', .int .i64 who, .iface 85 (.agg #[.int .i64 who, .iface 83 (.agg #[.int .i64 y])])]) := Lib.hid hT
  replace N1 := Lib.hid (N1.out.turned hB (by omega))
  refine hK.out _ _ ⟨b0.turned hB (by omega), b1.turned hB (by omega), below_turns hb hB (by omega)⟩ (fun hS => ?_)
  clear hK K hT hB b0 b1 hb
  try simp only [Act.put, List.setIfInBounds_toArray, List.set_cons_zero, List.set_cons_succ]
  refine wpAnyH_done (by kernel_rfl) ?_ _
  obtain ⟨b0, b1, hb⟩ := hS
  replace B1 := Lib.hid b0
  clear b0
  replace B3 := Lib.hid b1
  clear b1
  replace B2 := N0
  clear N0
  have B4 := N1
  clear N1
  replace HB := Lib.hid hb
  clear hb
  have p2_2 := B2.out.at_ (i := 2) (v := .iface 85 (.agg #[.int .i64 who, .iface 83 (.agg #[.int .i64 y])])) rfl
  have k2_0 : eb < w3.heap.size := by have := B2.out.lt; omega
  have p3_0 := B3.out.at_ (i := 0) (v := .pointer (some ⟨eb, 0, none⟩)) rfl
  have k3_0 : w1.heap.size < w3.heap.size := by have := B3.out.lt; omega
  go_wp2_with fail
  refine (toldS_any who y _ (HH.out.up (by repeat (first | exact HB.out | refine below_alloc ?_ _ | refine Below.drew ?_ | refine below_set ?_ (by omega) _)))).mono ?_
  rintro e w4 ⟨rfl, hB⟩
  replace HB := Lib.hid (below_call (w := w) (by repeat (first | exact HB.out | refine below_alloc ?_ _ | refine Below.drew ?_ | refine below_set ?_ (by omega) _)) hB)
  have z4 : w.heap.size ≤ w4.heap.size := HB.out.size
  replace B2 : Hid (Blk w4 (eb) 63 #[.slice A' l.length c', .int .i64 who, .iface 85 (.agg #[.int .i64 who, .iface 83 (.agg #[.int .i64 y])])]) := Lib.hid (Blk.after (by repeat (first | exact B2.out | exact Blk.new' (by simp; done) | exact Blk.new' rfl | refine Blk.drew ?_ | refine Blk.alloc ?_ _)) hB)
  clear p2_2 k2_0 p3_0 k3_0
  clear hB
  go_wp2_with fail
  go_ret2
  exact ⟨_, rfl, RowsAt.nil _ _, (by repeat (first | exact HB.out | refine below_alloc ?_ _ | refine Below.drew ?_ | refine below_set ?_ (by omega) _))⟩
set_option maxRecDepth 100000 in
set_option maxHeartbeats 4000000 in
theorem Start_b (l : List Sub) (v : Value) (who : Int) (child : Int) (w : World) (hl : SubsAt w.heap.size w v l) (hh : Handle w) (hop : openO l who = none) (hh2 : (decide ((0 : Int) ≤ child) && decide (child < (l.length : Int))) = false) (hle : l.length ≤ 1000) :
    Calls Tryd.prog 12 #[v, .int .i64 who, .int .i64 child] w fun e w' => ∃ v', e = .returned (.tuple #[v', .int .i64 162]) ∧ SubsAt w'.heap.size w' v' [] ∧ Below w.heap.size w w' := by
  have HL := Lib.hid hl
  have HH := Lib.hid hh
  have HOP := Lib.hid hop
  have HH2 := Lib.hid hh2
  clear hl hh hop hh2
  have HB := Lib.hid (Below.refl w.heap.size w)
  go_enter Tryd.func12, Tryd.ntmps12
  go_wp2_with fail
  refine (open_any l v who _ (HL.out.later (by repeat (first | exact HB.out | refine below_alloc ?_ _ | refine Below.drew ?_ | refine below_set ?_ (by omega) _)) ((show Below w.heap.size w _ by repeat (first | exact HB.out | refine below_alloc ?_ _ | refine Below.drew ?_ | refine below_set ?_ (by omega) _))).size) hle).mono ?_
  rintro e w1 ⟨eb, v', rfl, hge, hE, hT, hne, hB⟩
  replace HB := Lib.hid (below_call (w := w) (by repeat (first | exact HB.out | refine below_alloc ?_ _ | refine Below.drew ?_ | refine below_set ?_ (by omega) _)) hB)
  have z1 : w.heap.size ≤ w1.heap.size := HB.out.size
  have B1 : Hid (Blk w1 (w.heap.size + 1) 3 #[.int .i64 child]) := Lib.hid (Blk.after (by repeat (first | exact Blk.new' (by simp; done) | exact Blk.new' rfl | refine Blk.drew ?_ | refine Blk.alloc ?_ _)) hB)
  clear hB
  obtain ⟨A', c', rfl⟩ := hT.slice
  have zg : w.heap.size + 2 ≤ eb := by simp at hge; omega
  have ze : eb < w1.heap.size := hE.lt
  rw [HOP.out] at hE
  have B2 := Lib.hid (show Blk w1 eb 63 #[.slice A' l.length c', .int .i64 who, .nilIface] from hE)
  clear hE hT hne hge
  go_wp2_with fail
  refine wp_region_gen2 (S := (fun W' => Blk W' (w.heap.size + 1) 3 #[.int .i64 child] ∧ Blk W' (w1.heap.size) 54 #[.pointer (some ⟨eb, 0, none⟩)] ∧ Below w.heap.size w W')) (N := (fun W' => Blk W' (eb) 63 #[.slice A' l.length c', .int .i64 who, .nilIface])) (by kernel_rfl) ⟨(by repeat (first | exact B1.out | exact Blk.new' (by simp; done) | exact Blk.new' rfl | refine Blk.drew ?_ | refine Blk.alloc ?_ _)), (by repeat (first | exact Blk.new' (by simp; done) | exact Blk.new' rfl | refine Blk.drew ?_ | refine Blk.alloc ?_ _)), (by repeat (first | exact HB.out | refine below_alloc ?_ _ | refine Below.drew ?_ | refine below_set ?_ (by omega) _))⟩ (by repeat (first | exact B2.out | exact Blk.new' (by simp; done) | exact Blk.new' rfl | refine Blk.drew ?_ | refine Blk.alloc ?_ _)) (fun w2 hS hN => ?_)
  have n0 := hN
  have N0 := Lib.hid n0
  have d0_N0 : w.heap.size + 1 ≠ eb := by omega
  have d1_N0 : w1.heap.size ≠ eb := by omega
  have dd_N0 : w.heap.size ≤ eb := by omega
  clear n0 hN
  refine wpAnyH_take (i := 0) (v := ?_) (op_at rfl) (by kernel_rfl) (by kernel_rfl) (by kernel_rfl) (fun _ _ _ h => h) (Or.inl ⟨by rfl, ?_⟩) hS ?_; rotate_left; focus ((intro w' hSw; obtain ⟨-, q, -⟩ := hSw; have c0 := q.at_ (i := 0) (v := .pointer (some ⟨eb, 0, none⟩)) rfl; clear q; go_simp) <;> with_reducible rfl)
  try simp only [Act.put, List.setIfInBounds_toArray, List.set_cons_zero, List.set_cons_succ]
  refine wpAnyH_take (i := 1) (v := ?_) (op_at rfl) (by kernel_rfl) (by kernel_rfl) (by kernel_rfl) (fun _ _ _ h => h) (Or.inl ⟨by rfl, ?_⟩) hS ?_; rotate_left; focus ((intro w' hSw; obtain ⟨-, q, -⟩ := hSw; have c0 := q.at_ (i := 0) (v := .pointer (some ⟨eb, 0, none⟩)) rfl; clear q; go_simp) <;> with_reducible rfl)
  try simp only [Act.put, List.setIfInBounds_toArray, List.set_cons_zero, List.set_cons_succ]
  refine wpAnyH_take (i := 2) (v := ?_) (op_at rfl) (by kernel_rfl) (by kernel_rfl) (by kernel_rfl) (fun _ _ _ h => h) (Or.inl ⟨by rfl, ?_⟩) hS ?_; rotate_left; focus ((intro w' hSw; clear hSw; go_simp) <;> with_reducible rfl)
  try simp only [Act.put, List.setIfInBounds_toArray, List.set_cons_zero, List.set_cons_succ]
  refine wpAnyH_take (i := 3) (v := ?_) (op_at rfl) (by kernel_rfl) (by kernel_rfl) (by kernel_rfl) (fun _ _ _ h => h) (Or.inl ⟨by rfl, ?_⟩) hS ?_; rotate_left; focus ((intro w' hSw; clear hSw; go_simp) <;> with_reducible rfl)
  try simp only [Act.put, List.setIfInBounds_toArray, List.set_cons_zero, List.set_cons_succ]
  refine wpAnyH_take (i := 4) (v := ?_) (op_at rfl) (by kernel_rfl) (by kernel_rfl) (by kernel_rfl) (fun _ _ _ h => h) (Or.inl ⟨by rfl, ?_⟩) hS ?_; rotate_left; focus ((intro w' hSw; obtain ⟨q, -⟩ := hSw; have c0 := q.at_ (i := 0) (v := .int .i64 child) rfl; clear q; go_simp) <;> with_reducible rfl)
  try simp only [Act.put, List.setIfInBounds_toArray, List.set_cons_zero, List.set_cons_succ]
  refine wpAnyH_ready (rs := [5]) (by kernel_rfl) (by simp) ?_
  refine (AllReadyH.cons (op_at rfl) (fun K hK => ?_) AllReadyH.nil)
  go_simp
  obtain ⟨b0, b1, hb⟩ := hS
  refine (hasIs HH2.out (N0.out.at_ (i := 0) (v := .slice A' l.length c') rfl)).mono ?_
  rintro e w' ⟨rfl, rfl⟩
  refine hK.out _ _ ⟨b0, b1, hb⟩ (fun hS => ?_)
  clear hK K b0 b1 hb
  try simp only [Act.put, List.setIfInBounds_toArray, List.set_cons_zero, List.set_cons_succ]
  refine wpAnyH_take (i := 6) (v := ?_) (op_at rfl) (by kernel_rfl) (by kernel_rfl) (by kernel_rfl) (fun _ _ _ h => h) (Or.inl ⟨by rfl, ?_⟩) hS ?_; rotate_left; focus ((intro w' hSw; clear hSw; go_simp) <;> with_reducible rfl)
  try simp only [Act.put, List.setIfInBounds_toArray, List.set_cons_zero, List.set_cons_succ]
  refine wpAnyH_ready (rs := [7]) (by kernel_rfl) (by simp) ?_
  refine (AllReadyH.cons (op_at rfl) (fun K hK => ?_) AllReadyH.nil)
  go_simp
  have dx0_1 : eb ≠ w2.heap.size := Nat.ne_of_lt N0.out.lt
  replace N0 := Lib.hid (N0.out.alloc (.cells #[.bool false, .int .i64 162] 65))
  obtain ⟨b0, b1, hb⟩ := hS
  have N1 : Hid (Blk (w2.alloc (.cells #[.bool false, .int .i64 162] 65)) w2.heap.size 65 #[.bool false, .int .i64 162]) := Lib.hid (Blk.new' rfl)
  have d0_N1 : w.heap.size + 1 ≠ w2.heap.size := Nat.ne_of_lt b0.lt
  have d1_N1 : w1.heap.size ≠ w2.heap.size := Nat.ne_of_lt b1.lt
  have dd_N1 : w.heap.size ≤ w2.heap.size := hb.size
  refine hK.out _ _ ⟨b0.alloc _, b1.alloc _, below_alloc hb _⟩ (fun hS => ?_)
  clear hK K b0 b1 hb
  try simp only [Act.put, List.setIfInBounds_toArray, List.set_cons_zero, List.set_cons_succ]
  refine wpAnyH_ready (rs := [8]) (by kernel_rfl) (by simp) ?_
  refine (AllReadyH.cons (op_at rfl) (fun K hK => ?_) AllReadyH.nil)
  go_simp
  obtain ⟨b0, b1, hb⟩ := hS
  refine (must_any who none [(false, 162)] eb (.slice A' l.length c') _ _ N0.out (RowsAt.of_blk (cs := #[.bool false, .int .i64 162]) (l := [(false, 162)]) (cap := 1) encC_size (Blk.new' rfl) ⟨[], rfl⟩ (by simp) (by decide)) (fun b off m c h => by cases h; omega)).mono ?_
  rintro e w3 ⟨rfl, hT, hB⟩
  replace N0 : Hid (Blk w3 (eb) 63 #[.slice A' l.length c', .int .i64 who, .iface 85 (.agg #[.int .i64 who, .iface 83 (.agg #[.int .i64 162])])]) := Lib.hid hT
  replace N1 := Lib.hid (N1.out.turned hB (by omega))
  refine hK.out _ _ ⟨b0.turned hB (by omega), b1.turned hB (by omega), below_turns hb hB (by omega)⟩ (fun hS => ?_)
  clear hK K hT hB b0 b1 hb
  try simp only [Act.put, List.setIfInBounds_toArray, List.set_cons_zero, List.set_cons_succ]
  refine wpAnyH_done (by kernel_rfl) ?_ _
  obtain ⟨b0, b1, hb⟩ := hS
  replace B1 := Lib.hid b0
  clear b0
  replace B3 := Lib.hid b1
  clear b1
  replace B2 := N0
  clear N0
  have B4 := N1
  clear N1
  replace HB := Lib.hid hb
  clear hb
  have p2_2 := B2.out.at_ (i := 2) (v := .iface 85 (.agg #[.int .i64 who, .iface 83 (.agg #[.int .i64 162])])) rfl
  have k2_0 : eb < w3.heap.size := by have := B2.out.lt; omega
  have p3_0 := B3.out.at_ (i := 0) (v := .pointer (some ⟨eb, 0, none⟩)) rfl
  have k3_0 : w1.heap.size < w3.heap.size := by have := B3.out.lt; omega
  go_wp2_with fail
  refine (toldS_any who 162 _ (HH.out.up (by repeat (first | exact HB.out | refine below_alloc ?_ _ | refine Below.drew ?_ | refine below_set ?_ (by omega) _)))).mono ?_
  rintro e w4 ⟨rfl, hB⟩
  replace HB := Lib.hid (below_call (w := w) (by repeat (first | exact HB.out | refine below_alloc ?_ _ | refine Below.drew ?_ | refine below_set ?_ (by omega) _)) hB)
  have z4 : w.heap.size ≤ w4.heap.size := HB.out.size
  replace B2 : Hid (Blk w4 (eb) 63 #[.slice A' l.length c', .int .i64 who, .iface 85 (.agg #[.int .i64 who, .iface 83 (.agg #[.int .i64 162])])]) := Lib.hid (Blk.after (by repeat (first | exact B2.out | exact Blk.new' (by simp; done) | exact Blk.new' rfl | refine Blk.drew ?_ | refine Blk.alloc ?_ _)) hB)
  clear p2_2 k2_0 p3_0 k3_0
  clear hB
  go_wp2_with fail
  go_ret2
  exact ⟨_, rfl, RowsAt.nil _ _, (by repeat (first | exact HB.out | refine below_alloc ?_ _ | refine Below.drew ?_ | refine below_set ?_ (by omega) _))⟩
set_option maxRecDepth 100000 in
set_option maxHeartbeats 4000000 in
theorem Start_c1 (l : List Sub) (v : Value) (who : Int) (c : Nat) (x : Sub) (w : World) (hl : SubsAt w.heap.size w v l) (hh : Handle w) (hop : openO l who = none) (hh2 : (decide ((0 : Int) ≤ (c : Int)) && decide ((c : Int) < (l.length : Int))) = true) (hx : l[c]? = some x) (hle : l.length ≤ 1000) (hpar : (x.par == who) = false) :
    Calls Tryd.prog 12 #[v, .int .i64 who, .int .i64 c] w fun e w' => ∃ v', e = .returned (.tuple #[v', .int .i64 162]) ∧ SubsAt w'.heap.size w' v' [] ∧ Below w.heap.size w w' := by
  have hcl : c < l.length := (List.getElem?_eq_some_iff.1 hx).1
  have hcz : (0 : Int) ≤ (c : Int) := by omega
  have hcz2 : (c : Int) < (l.length : Int) := by omega
  have HL := Lib.hid hl
  have HH := Lib.hid hh
  have HOP := Lib.hid hop
  have HH2 := Lib.hid hh2
  have HX := Lib.hid hx
  clear hl hh hop hh2 hx
  have HB := Lib.hid (Below.refl w.heap.size w)
  go_enter Tryd.func12, Tryd.ntmps12
  go_wp2_with fail
  refine (open_any l v who _ (HL.out.later (by repeat (first | exact HB.out | refine below_alloc ?_ _ | refine Below.drew ?_ | refine below_set ?_ (by omega) _)) ((show Below w.heap.size w _ by repeat (first | exact HB.out | refine below_alloc ?_ _ | refine Below.drew ?_ | refine below_set ?_ (by omega) _))).size) hle).mono ?_
  rintro e w1 ⟨eb, v', rfl, hge, hE, hT, hne, hB⟩
  replace HB := Lib.hid (below_call (w := w) (by repeat (first | exact HB.out | refine below_alloc ?_ _ | refine Below.drew ?_ | refine below_set ?_ (by omega) _)) hB)
  have z1 : w.heap.size ≤ w1.heap.size := HB.out.size
  have B0 : Hid (Blk w1 (w.heap.size) 3 #[.int .i64 who]) := Lib.hid (Blk.after (by repeat (first | exact Blk.new' (by simp; done) | exact Blk.new' rfl | refine Blk.drew ?_ | refine Blk.alloc ?_ _)) hB)
  have B1 : Hid (Blk w1 (w.heap.size + 1) 3 #[.int .i64 c]) := Lib.hid (Blk.after (by repeat (first | exact Blk.new' (by simp; done) | exact Blk.new' rfl | refine Blk.drew ?_ | refine Blk.alloc ?_ _)) hB)
  clear hB
  obtain ⟨A', c', rfl⟩ := hT.slice
  have zg : w.heap.size + 2 ≤ eb := by simp at hge; omega
  have ze : eb < w1.heap.size := hE.lt
  rw [HOP.out] at hE
  obtain ⟨g, cs, rfl, _, hg, hG, hc1, hc2, r, hr⟩ := hT.cons HX.out
  have zh : w.heap.size + 2 ≤ g := by simp at hg; omega
  have zi : g < w1.heap.size := hG.lt
  have zj : g ≠ eb := hne _ _ _ rfl
  have B2 := Lib.hid (show Blk w1 eb 63 #[.slice (some ⟨g, 0, none⟩) l.length c', .int .i64 who, .nilIface] from hE)
  have B3 := Lib.hid hG
  have HC0 : Hid (cs[c * 8]? = some (.int .i64 x.par)) := Lib.hid (tab_cell (j := 0) hr HX.out rfl)
  have HC1 : Hid (cs[c * 8 + 1]? = some (.int .i64 x.st)) := Lib.hid (tab_cell (j := 1) hr HX.out rfl)
  have HC2 : Hid (cs[c * 8 + 2]? = some (.int .i64 x.cur.lv)) := Lib.hid (tab_cell (j := 2) hr HX.out rfl)
  have HC3 : Hid (cs[c * 8 + 3]? = some (.int .u64 (u x.cur.c))) := Lib.hid (tab_cell (j := 3) hr HX.out rfl)
  have HC4 : Hid (cs[c * 8 + 4]? = some (.int .i64 x.cur.ig)) := Lib.hid (tab_cell (j := 4) hr HX.out rfl)
  have HC5 : Hid (cs[c * 8 + 5]? = some (.int .i64 x.high.lv)) := Lib.hid (tab_cell (j := 5) hr HX.out rfl)
  have HC6 : Hid (cs[c * 8 + 6]? = some (.int .u64 (u x.high.c))) := Lib.hid (tab_cell (j := 6) hr HX.out rfl)
  have HC7 : Hid (cs[c * 8 + 7]? = some (.int .i64 x.high.ig)) := Lib.hid (tab_cell (j := 7) hr HX.out rfl)
  have HR := Lib.hid hr
  clear hE hT hne hG hr hge hg
  go_wp2_with fail
  refine wp_region_gen2 (S := (fun W' => Blk W' (w.heap.size) 3 #[.int .i64 who] ∧ Blk W' (w.heap.size + 1) 3 #[.int .i64 c] ∧ Blk W' (g) 41 cs ∧ Blk W' (w1.heap.size) 54 #[.pointer (some ⟨eb, 0, none⟩)] ∧ Below w.heap.size w W')) (N := (fun W' => Blk W' (eb) 63 #[.slice (some ⟨g, 0, none⟩) l.length c', .int .i64 who, .nilIface])) (by kernel_rfl) ⟨(by repeat (first | exact B0.out | exact Blk.new' (by simp; done) | exact Blk.new' rfl | refine Blk.drew ?_ | refine Blk.alloc ?_ _)), (by repeat (first | exact B1.out | exact Blk.new' (by simp; done) | exact Blk.new' rfl | refine Blk.drew ?_ | refine Blk.alloc ?_ _)), (by repeat (first | exact B3.out | exact Blk.new' (by simp; done) | exact Blk.new' rfl | refine Blk.drew ?_ | refine Blk.alloc ?_ _)), (by repeat (first | exact Blk.new' (by simp; done) | exact Blk.new' rfl | refine Blk.drew ?_ | refine Blk.alloc ?_ _)), (by repeat (first | exact HB.out | refine below_alloc ?_ _ | refine Below.drew ?_ | refine below_set ?_ (by omega) _))⟩ (by repeat (first | exact B2.out | exact Blk.new' (by simp; done) | exact Blk.new' rfl | refine Blk.drew ?_ | refine Blk.alloc ?_ _)) (fun w2 hS hN => ?_)
  have n0 := hN
  have N0 := Lib.hid n0
  have d0_N0 : w.heap.size ≠ eb := by omega
  have d1_N0 : w.heap.size + 1 ≠ eb := by omega
  have d2_N0 : g ≠ eb := by omega
  have d3_N0 : w1.heap.size ≠ eb := by omega
  have dd_N0 : w.heap.size ≤ eb := by omega
  clear n0 hN
  refine wpAnyH_take (i := 0) (v := ?_) (op_at rfl) (by kernel_rfl) (by kernel_rfl) (by kernel_rfl) (fun _ _ _ h => h) (Or.inl ⟨by rfl, ?_⟩) hS ?_; rotate_left; focus ((intro w' hSw; obtain ⟨-, -, -, q, -⟩ := hSw; have c0 := q.at_ (i := 0) (v := .pointer (some ⟨eb, 0, none⟩)) rfl; clear q; go_simp) <;> with_reducible rfl)
  try simp only [Act.put, List.setIfInBounds_toArray, List.set_cons_zero, List.set_cons_succ]
  refine wpAnyH_take (i := 1) (v := ?_) (op_at rfl) (by kernel_rfl) (by kernel_rfl) (by kernel_rfl) (fun _ _ _ h => h) (Or.inl ⟨by rfl, ?_⟩) hS ?_; rotate_left; focus ((intro w' hSw; obtain ⟨-, -, -, q, -⟩ := hSw; have c0 := q.at_ (i := 0) (v := .pointer (some ⟨eb, 0, none⟩)) rfl; clear q; go_simp) <;> with_reducible rfl)
  try simp only [Act.put, List.setIfInBounds_toArray, List.set_cons_zero, List.set_cons_succ]
  refine wpAnyH_take (i := 2) (v := ?_) (op_at rfl) (by kernel_rfl) (by kernel_rfl) (by kernel_rfl) (fun _ _ _ h => h) (Or.inl ⟨by rfl, ?_⟩) hS ?_; rotate_left; focus ((intro w' hSw; clear hSw; go_simp) <;> with_reducible rfl)
  try simp only [Act.put, List.setIfInBounds_toArray, List.set_cons_zero, List.set_cons_succ]
  refine wpAnyH_take (i := 3) (v := ?_) (op_at rfl) (by kernel_rfl) (by kernel_rfl) (by kernel_rfl) (fun _ _ _ h => h) (Or.inl ⟨by rfl, ?_⟩) hS ?_; rotate_left; focus ((intro w' hSw; clear hSw; go_simp) <;> with_reducible rfl)
  try simp only [Act.put, List.setIfInBounds_toArray, List.set_cons_zero, List.set_cons_succ]
  refine wpAnyH_take (i := 4) (v := ?_) (op_at rfl) (by kernel_rfl) (by kernel_rfl) (by kernel_rfl) (fun _ _ _ h => h) (Or.inl ⟨by rfl, ?_⟩) hS ?_; rotate_left; focus ((intro w' hSw; obtain ⟨-, q, -⟩ := hSw; have c0 := q.at_ (i := 0) (v := .int .i64 c) rfl; clear q; go_simp) <;> with_reducible rfl)
  try simp only [Act.put, List.setIfInBounds_toArray, List.set_cons_zero, List.set_cons_succ]
  refine wpAnyH_ready (rs := [5]) (by kernel_rfl) (by simp) ?_
  refine (AllReadyH.cons (op_at rfl) (fun K hK => ?_) AllReadyH.nil)
  go_simp
  obtain ⟨b0, b1, b2, b3, hb⟩ := hS
  refine (hasIs HH2.out (N0.out.at_ (i := 0) (v := .slice (some ⟨g, 0, none⟩) l.length c') rfl)).mono ?_
  rintro e w' ⟨rfl, rfl⟩
  refine hK.out _ _ ⟨b0, b1, b2, b3, hb⟩ (fun hS => ?_)
  clear hK K b0 b1 b2 b3 hb
  try simp only [Act.put, List.setIfInBounds_toArray, List.set_cons_zero, List.set_cons_succ]
  refine wpAnyH_take (i := 6) (v := ?_) (op_at rfl) (by kernel_rfl) (by kernel_rfl) (by kernel_rfl) (fun _ _ _ h => h) (Or.inl ⟨by rfl, ?_⟩) hS ?_; rotate_left; focus ((intro w' hSw; clear hSw; go_simp) <;> with_reducible rfl)
  try simp only [Act.put, List.setIfInBounds_toArray, List.set_cons_zero, List.set_cons_succ]
  refine wpAnyH_ready (rs := [7]) (by kernel_rfl) (by simp) ?_
  refine (AllReadyH.cons (op_at rfl) (fun K hK => ?_) AllReadyH.nil)
  go_simp
  have dx0_1 : eb ≠ w2.heap.size := Nat.ne_of_lt N0.out.lt
  replace N0 := Lib.hid (N0.out.alloc (.cells #[.bool true, .int .i64 162] 65))
  obtain ⟨b0, b1, b2, b3, hb⟩ := hS
  have N1 : Hid (Blk (w2.alloc (.cells #[.bool true, .int .i64 162] 65)) w2.heap.size 65 #[.bool true, .int .i64 162]) := Lib.hid (Blk.new' rfl)
  have d0_N1 : w.heap.size ≠ w2.heap.size := Nat.ne_of_lt b0.lt
  have d1_N1 : w.heap.size + 1 ≠ w2.heap.size := Nat.ne_of_lt b1.lt
  have d2_N1 : g ≠ w2.heap.size := Nat.ne_of_lt b2.lt
  have d3_N1 : w1.heap.size ≠ w2.heap.size := Nat.ne_of_lt b3.lt
  have dd_N1 : w.heap.size ≤ w2.heap.size := hb.size
  refine hK.out _ _ ⟨b0.alloc _, b1.alloc _, b2.alloc _, b3.alloc _, below_alloc hb _⟩ (fun hS => ?_)
  clear hK K b0 b1 b2 b3 hb
  try simp only [Act.put, List.setIfInBounds_toArray, List.set_cons_zero, List.set_cons_succ]
  refine wpAnyH_ready (rs := [8]) (by kernel_rfl) (by simp) ?_
  refine (AllReadyH.cons (op_at rfl) (fun K hK => ?_) AllReadyH.nil)
  go_simp
  obtain ⟨b0, b1, b2, b3, hb⟩ := hS
  refine (must_any who none [(true, 162)] eb (.slice (some ⟨g, 0, none⟩) l.length c') _ _ N0.out (RowsAt.of_blk (cs := #[.bool true, .int .i64 162]) (l := [(true, 162)]) (cap := 1) encC_size (Blk.new' rfl) ⟨[], rfl⟩ (by simp) (by decide)) (fun b off m c h => by cases h; omega)).mono ?_
  rintro e w3 ⟨rfl, hT, hB⟩
  replace N0 : Hid (Blk w3 (eb) 63 #[.slice (some ⟨g, 0, none⟩) l.length c', .int .i64 who, .nilIface]) := Lib.hid hT
  replace N1 := Lib.hid (N1.out.turned hB (by omega))
  refine hK.out _ _ ⟨b0.turned hB (by omega), b1.turned hB (by omega), b2.turned hB (by omega), b3.turned hB (by omega), below_turns hb hB (by omega)⟩ (fun hS => ?_)
  clear hK K hT hB b0 b1 b2 b3 hb
  try simp only [Act.put, List.setIfInBounds_toArray, List.set_cons_zero, List.set_cons_succ]
  refine wpAnyH_done (by kernel_rfl) ?_ _
  obtain ⟨b0, b1, b2, b3, hb⟩ := hS
  replace B0 := Lib.hid b0
  clear b0
  replace B1 := Lib.hid b1
  clear b1
  replace B3 := Lib.hid b2
  clear b2
  replace B4 := Lib.hid b3
  clear b3
  replace B2 := N0
  clear N0
  have B5 := N1
  clear N1
  replace HB := Lib.hid hb
  clear hb
  have p2_2 := B2.out.at_ (i := 2) (v := .nilIface) rfl
  have k2_0 : eb < w3.heap.size := by have := B2.out.lt; omega
  have p4_0 := B4.out.at_ (i := 0) (v := .pointer (some ⟨eb, 0, none⟩)) rfl
  have k4_0 : w1.heap.size < w3.heap.size := by have := B4.out.lt; omega
  go_wp2_with fail
  refine wp_region_gen (S := (fun W' => Blk W' (w.heap.size) 3 #[.int .i64 who] ∧ Blk W' (w.heap.size + 1) 3 #[.int .i64 c] ∧ Blk W' (eb) 63 #[.slice (some ⟨g, 0, none⟩) l.length c', .int .i64 who, .nilIface] ∧ Blk W' (g) 41 cs ∧ Blk W' (w1.heap.size) 54 #[.pointer (some ⟨eb, 0, none⟩)] ∧ Below w.heap.size w W')) (by kernel_rfl) ⟨(by repeat (first | exact B0.out | exact Blk.new' (by simp; done) | exact Blk.new' rfl | refine Blk.drew ?_ | refine Blk.alloc ?_ _)), (by repeat (first | exact B1.out | exact Blk.new' (by simp; done) | exact Blk.new' rfl | refine Blk.drew ?_ | refine Blk.alloc ?_ _)), (by repeat (first | exact B2.out | exact Blk.new' (by simp; done) | exact Blk.new' rfl | refine Blk.drew ?_ | refine Blk.alloc ?_ _)), (by repeat (first | exact B3.out | exact Blk.new' (by simp; done) | exact Blk.new' rfl | refine Blk.drew ?_ | refine Blk.alloc ?_ _)), (by repeat (first | exact B4.out | exact Blk.new' (by simp; done) | exact Blk.new' rfl | refine Blk.drew ?_ | refine Blk.alloc ?_ _)), (by repeat (first | exact HB.out | refine below_alloc ?_ _ | refine Below.drew ?_ | refine below_set ?_ (by omega) _))⟩ (fun w4 hS => ?_)
  clear p2_2 k2_0 p4_0 k4_0
  refine wpAnyH_take (i := 0) (v := ?_) (op_at rfl) (by kernel_rfl) (by kernel_rfl) (by kernel_rfl) (fun _ _ _ h => h) (Or.inl ⟨by rfl, ?_⟩) hS ?_; rotate_left; focus ((intro w' hSw; obtain ⟨-, -, -, -, q, -⟩ := hSw; have c0 := q.at_ (i := 0) (v := .pointer (some ⟨eb, 0, none⟩)) rfl; clear q; go_simp) <;> with_reducible rfl)
  try simp only [Act.put, List.setIfInBounds_toArray, List.set_cons_zero, List.set_cons_succ]
  refine wpAnyH_take (i := 1) (v := ?_) (op_at rfl) (by kernel_rfl) (by kernel_rfl) (by kernel_rfl) (fun _ _ _ h => h) (Or.inl ⟨by rfl, ?_⟩) hS ?_; rotate_left; focus ((intro w' hSw; clear hSw; go_simp) <;> with_reducible rfl)
  try simp only [Act.put, List.setIfInBounds_toArray, List.set_cons_zero, List.set_cons_succ]
  refine wpAnyH_take (i := 2) (v := ?_) (op_at rfl) (by kernel_rfl) (by kernel_rfl) (by kernel_rfl) (fun _ _ _ h => h) (Or.inl ⟨by rfl, ?_⟩) hS ?_; rotate_left; focus ((intro w' hSw; clear hSw; go_simp) <;> with_reducible rfl)
  try simp only [Act.put, List.setIfInBounds_toArray, List.set_cons_zero, List.set_cons_succ]
  refine wpAnyH_take (i := 3) (v := ?_) (op_at rfl) (by kernel_rfl) (by kernel_rfl) (by kernel_rfl) (fun _ _ _ h => h) (Or.inl ⟨by rfl, ?_⟩) hS ?_; rotate_left; focus ((intro w' hSw; clear hSw; go_simp) <;> with_reducible rfl)
  try simp only [Act.put, List.setIfInBounds_toArray, List.set_cons_zero, List.set_cons_succ]
  refine wpAnyH_take (i := 4) (v := ?_) (op_at rfl) (by kernel_rfl) (by kernel_rfl) (by kernel_rfl) (fun _ _ _ h => h) (Or.inl ⟨by rfl, ?_⟩) hS ?_; rotate_left; focus ((intro w' hSw; obtain ⟨-, -, q, -⟩ := hSw; have c0 := q.at_ (i := 0) (v := .slice (some ⟨g, 0, none⟩) l.length c') rfl; clear q; go_simp) <;> with_reducible rfl)
  try simp only [Act.put, List.setIfInBounds_toArray, List.set_cons_zero, List.set_cons_succ]
  refine wpAnyH_take (i := 5) (v := ?_) (op_at rfl) (by kernel_rfl) (by kernel_rfl) (by kernel_rfl) (fun _ _ _ h => h) (Or.inl ⟨by rfl, ?_⟩) hS ?_; rotate_left; focus ((intro w' hSw; obtain ⟨-, q, -⟩ := hSw; have c0 := q.at_ (i := 0) (v := .int .i64 c) rfl; clear q; go_simp) <;> with_reducible rfl)
  try simp only [Act.put, List.setIfInBounds_toArray, List.set_cons_zero, List.set_cons_succ]
  refine wpAnyH_take (i := 6) (v := ?_) (op_at rfl) (by kernel_rfl) (by kernel_rfl) (by kernel_rfl) (fun _ _ _ h => h) (Or.inl ⟨by rfl, ?_⟩) hS ?_; rotate_left; focus ((intro w' hSw; clear hSw; go_simp) <;> with_reducible rfl)
  try simp only [Act.put, List.setIfInBounds_toArray, List.set_cons_zero, List.set_cons_succ]
  refine wpAnyH_take (i := 7) (v := ?_) (op_at rfl) (by kernel_rfl) (by kernel_rfl) (by kernel_rfl) (fun _ _ _ h => h) (Or.inl ⟨by rfl, ?_⟩) hS ?_; rotate_left; focus ((intro w' hSw; obtain ⟨-, -, -, q, -⟩ := hSw; have c0 : w'.cell? ⟨g, c * 8, none⟩ = some (.int .i64 x.par) := q.at_ HC0.out; have c1 : w'.cell? ⟨g, c * 8 + 1, none⟩ = some (.int .i64 x.st) := q.at_ HC1.out; have c2 : w'.cell? ⟨g, c * 8 + 2, none⟩ = some (.int .i64 x.cur.lv) := q.at_ HC2.out; have c3 : w'.cell? ⟨g, c * 8 + 3, none⟩ = some (.int .u64 (u x.cur.c)) := q.at_ HC3.out; have c4 : w'.cell? ⟨g, c * 8 + 4, none⟩ = some (.int .i64 x.cur.ig) := q.at_ HC4.out; have c5 : w'.cell? ⟨g, c * 8 + 5, none⟩ = some (.int .i64 x.high.lv) := q.at_ HC5.out; have c6 : w'.cell? ⟨g, c * 8 + 6, none⟩ = some (.int .u64 (u x.high.c)) := q.at_ HC6.out; have c7 : w'.cell? ⟨g, c * 8 + 7, none⟩ = some (.int .i64 x.high.ig) := q.at_ HC7.out; clear q; go_simp) <;> with_reducible rfl)
  try simp only [Act.put, List.setIfInBounds_toArray, List.set_cons_zero, List.set_cons_succ]
  refine wpAnyH_ready (rs := [8]) (by kernel_rfl) (by simp) ?_
  refine (AllReadyH.cons (op_at rfl) (fun K hK => ?_) AllReadyH.nil)
  go_simp
  obtain ⟨b0, b1, b2, b3, b4, hb⟩ := hS
  have N0 : Hid (Blk (w4.alloc (.cells #[.int .i64 0, .int .i64 0, .int .i64 0, .int .u64 0, .int .i64 0, .int .i64 0, .int .u64 0, .int .i64 0] 41)) w4.heap.size 41 #[.int .i64 0, .int .i64 0, .int .i64 0, .int .u64 0, .int .i64 0, .int .i64 0, .int .u64 0, .int .i64 0]) := Lib.hid (Blk.new' rfl)
  have d0_N0 : w.heap.size ≠ w4.heap.size := Nat.ne_of_lt b0.lt
  have d1_N0 : w.heap.size + 1 ≠ w4.heap.size := Nat.ne_of_lt b1.lt
  have d2_N0 : eb ≠ w4.heap.size := Nat.ne_of_lt b2.lt
  have d3_N0 : g ≠ w4.heap.size := Nat.ne_of_lt b3.lt
  have d4_N0 : w1.heap.size ≠ w4.heap.size := Nat.ne_of_lt b4.lt
  have dd_N0 : w.heap.size ≤ w4.heap.size := hb.size
  refine hK.out _ _ ⟨b0.alloc _, b1.alloc _, b2.alloc _, b3.alloc _, b4.alloc _, below_alloc hb _⟩ (fun hS => ?_)
  clear hK K b0 b1 b2 b3 b4 hb
  try simp only [Act.put, List.setIfInBounds_toArray, List.set_cons_zero, List.set_cons_succ]
  refine wpAnyH_ready (rs := [9]) (by kernel_rfl) (by simp) ?_
  refine (AllReadyH.cons (op_at rfl) (fun K hK => ?_) AllReadyH.nil)
  go_simp
  obtain ⟨b0, b1, b2, b3, b4, hb⟩ := hS
  refine hK.out _ _ ⟨(Blk.realloc b0 d0_N0), (Blk.realloc b1 d1_N0), (Blk.realloc b2 d2_N0), (Blk.realloc b3 d3_N0), (Blk.realloc b4 d4_N0), (below_realloc hb dd_N0)⟩ (fun hS => ?_)
  replace N0 : Hid (Blk (w4.alloc (.cells #[.int .i64 x.par, .int .i64 x.st, .int .i64 x.cur.lv, .int .u64 (u x.cur.c), .int .i64 x.cur.ig, .int .i64 x.high.lv, .int .u64 (u x.high.c), .int .i64 x.high.ig] 41)) w4.heap.size 41 #[.int .i64 x.par, .int .i64 x.st, .int .i64 x.cur.lv, .int .u64 (u x.cur.c), .int .i64 x.cur.ig, .int .i64 x.high.lv, .int .u64 (u x.high.c), .int .i64 x.high.ig]) := Lib.hid (Blk.new' rfl)
  clear hK K b0 b1 b2 b3 b4 hb
  try simp only [Act.put, List.setIfInBounds_toArray, List.set_cons_zero, List.set_cons_succ]
  refine wpAnyH_done (by kernel_rfl) ?_ _
  obtain ⟨b0, b1, b2, b3, b4, hb⟩ := hS
  replace B0 := Lib.hid b0
  clear b0
  replace B1 := Lib.hid b1
  clear b1
  replace B2 := Lib.hid b2
  clear b2
  replace B3 := Lib.hid b3
  clear b3
  replace B4 := Lib.hid b4
  clear b4
  have B6 := N0
  clear N0
  replace HB := Lib.hid hb
  clear hb
  generalize w4.alloc (.cells #[.int .i64 x.par, .int .i64 x.st, .int .i64 x.cur.lv, .int .u64 (u x.cur.c), .int .i64 x.cur.ig, .int .i64 x.high.lv, .int .u64 (u x.high.c), .int .i64 x.high.ig] 41) = w5 at B0 B1 B2 B3 B4 B6 HB ⊢
  have p0_0 := B0.out.at_ (i := 0) (v := .int .i64 who) rfl
  have k0_0 : w.heap.size < w5.heap.size := by have := B0.out.lt; omega
  have k0_1 : w.heap.size < w5.heap.size + 1 := by have := B0.out.lt; omega
  have p4_0 := B4.out.at_ (i := 0) (v := .pointer (some ⟨eb, 0, none⟩)) rfl
  have k4_0 : w1.heap.size < w5.heap.size := by have := B4.out.lt; omega
  have k4_1 : w1.heap.size < w5.heap.size + 1 := by have := B4.out.lt; omega
  have p6_0 := B6.out.at_ (i := 0) (v := .int .i64 x.par) rfl
  have k6_0 : w4.heap.size < w5.heap.size := by have := B6.out.lt; omega
  have k6_1 : w4.heap.size < w5.heap.size + 1 := by have := B6.out.lt; omega
  go_wp2_with fail
  refine (must_any who none [(false, 162)] eb (.slice (some ⟨g, 0, none⟩) l.length c') _ _ (by repeat (first | exact B2.out | exact Blk.new' (by simp; done) | exact Blk.new' rfl | refine Blk.drew ?_ | refine Blk.alloc ?_ _)) (RowsAt.of_blk (cs := #[.bool false, .int .i64 162]) (l := [(false, 162)]) (cap := 1) encC_size (Blk.new' rfl) ⟨[], rfl⟩ (by simp) (by decide)) (fun b off m c h => by cases h; have := B2.out.lt; omega)).mono ?_
  rintro e w6 ⟨rfl, hT, hB⟩
  replace HB := Lib.hid (below_turns (w := w) (by repeat (first | exact HB.out | refine below_alloc ?_ _ | refine Below.drew ?_ | refine below_set ?_ (by omega) _)) hB (by first | omega | simp))
  have z6 : w.heap.size ≤ w6.heap.size := HB.out.size
  replace B0 : Hid (Blk w6 (w.heap.size) 3 #[.int .i64 who]) := Lib.hid (Blk.turned (by repeat (first | exact B0.out | exact Blk.new' (by simp; done) | exact Blk.new' rfl | refine Blk.drew ?_ | refine Blk.alloc ?_ _)) hB (by omega))
  replace B1 : Hid (Blk w6 (w.heap.size + 1) 3 #[.int .i64 c]) := Lib.hid (Blk.turned (by repeat (first | exact B1.out | exact Blk.new' (by simp; done) | exact Blk.new' rfl | refine Blk.drew ?_ | refine Blk.alloc ?_ _)) hB (by omega))
  replace B2 : Hid (Blk w6 (eb) 63 #[.slice (some ⟨g, 0, none⟩) l.length c', .int .i64 who, .iface 85 (.agg #[.int .i64 who, .iface 83 (.agg #[.int .i64 162])])]) := Lib.hid hT
  replace B3 : Hid (Blk w6 (g) 41 cs) := Lib.hid (Blk.turned (by repeat (first | exact B3.out | exact Blk.new' (by simp; done) | exact Blk.new' rfl | refine Blk.drew ?_ | refine Blk.alloc ?_ _)) hB (by omega))
  replace B4 : Hid (Blk w6 (w1.heap.size) 54 #[.pointer (some ⟨eb, 0, none⟩)]) := Lib.hid (Blk.turned (by repeat (first | exact B4.out | exact Blk.new' (by simp; done) | exact Blk.new' rfl | refine Blk.drew ?_ | refine Blk.alloc ?_ _)) hB (by omega))
  replace B6 : Hid (Blk w6 (w4.heap.size) 41 #[.int .i64 x.par, .int .i64 x.st, .int .i64 x.cur.lv, .int .u64 (u x.cur.c), .int .i64 x.cur.ig, .int .i64 x.high.lv, .int .u64 (u x.high.c), .int .i64 x.high.ig]) := Lib.hid (Blk.turned (by repeat (first | exact B6.out | exact Blk.new' (by simp; done) | exact Blk.new' rfl | refine Blk.drew ?_ | refine Blk.alloc ?_ _)) hB (by omega))
  clear hT
  clear p0_0 k0_0 k0_1 p4_0 k4_0 k4_1 p6_0 k6_0 k6_1
  clear hB
  have p4_0 := B4.out.at_ (i := 0) (v := .pointer (some ⟨eb, 0, none⟩)) rfl
  have k4_0 : w1.heap.size < w6.heap.size := by have := B4.out.lt; omega
  go_wp2_with fail
  refine (edit_wrong who 162 eb _ _ _ (by repeat (first | exact B2.out | exact Blk.new' (by simp; done) | exact Blk.new' rfl | refine Blk.drew ?_ | refine Blk.alloc ?_ _)) (HH.out.up (by repeat (first | exact HB.out | refine below_alloc ?_ _ | refine Below.drew ?_ | refine below_set ?_ (by omega) _)))).mono ?_
  rintro e w7 ⟨rfl, hB⟩
  replace HB := Lib.hid (below_call (w := w) (by repeat (first | exact HB.out | refine below_alloc ?_ _ | refine Below.drew ?_ | refine below_set ?_ (by omega) _)) hB)
  have z7 : w.heap.size ≤ w7.heap.size := HB.out.size
  replace B2 : Hid (Blk w7 (eb) 63 #[.slice (some ⟨g, 0, none⟩) l.length c', .int .i64 who, .iface 85 (.agg #[.int .i64 who, .iface 83 (.agg #[.int .i64 162])])]) := Lib.hid (Blk.after (by repeat (first | exact B2.out | exact Blk.new' (by simp; done) | exact Blk.new' rfl | refine Blk.drew ?_ | refine Blk.alloc ?_ _)) hB)
  replace B3 : Hid (Blk w7 (g) 41 cs) := Lib.hid (Blk.after (by repeat (first | exact B3.out | exact Blk.new' (by simp; done) | exact Blk.new' rfl | refine Blk.drew ?_ | refine Blk.alloc ?_ _)) hB)
  clear p4_0 k4_0
  clear hB
  go_wp2_with fail
  go_ret2
  exact ⟨_, rfl, RowsAt.nil _ _, (by repeat (first | exact HB.out | refine below_alloc ?_ _ | refine Below.drew ?_ | refine below_set ?_ (by omega) _))⟩
set_option maxRecDepth 100000 in
set_option maxHeartbeats 4000000 in
theorem Start_c2 (l : List Sub) (v : Value) (who : Int) (c : Nat) (x : Sub) (w : World) (hl : SubsAt w.heap.size w v l) (hh : Handle w) (hop : openO l who = none) (hh2 : (decide ((0 : Int) ≤ (c : Int)) && decide ((c : Int) < (l.length : Int))) = true) (hx : l[c]? = some x) (hle : l.length ≤ 1000) (hpar : (x.par == who) = true) (hst : (x.st == 0) = false) :
    Calls Tryd.prog 12 #[v, .int .i64 who, .int .i64 c] w fun e w' => ∃ v', e = .returned (.tuple #[v', .int .i64 162]) ∧ SubsAt w'.heap.size w' v' [] ∧ Below w.heap.size w w' := by
  have hcl : c < l.length := (List.getElem?_eq_some_iff.1 hx).1
  have hcz : (0 : Int) ≤ (c : Int) := by omega
  have hcz2 : (c : Int) < (l.length : Int) := by omega
  have HL := Lib.hid hl
  have HH := Lib.hid hh
  have HOP := Lib.hid hop
  have HH2 := Lib.hid hh2
  have HX := Lib.hid hx
  clear hl hh hop hh2 hx
  have HB := Lib.hid (Below.refl w.heap.size w)
  go_enter Tryd.func12, Tryd.ntmps12
  go_wp2_with fail
  refine (open_any l v who _ (HL.out.later (by repeat (first | exact HB.out | refine below_alloc ?_ _ | refine Below.drew ?_ | refine below_set ?_ (by omega) _)) ((show Below w.heap.size w _ by repeat (first | exact HB.out | refine below_alloc ?_ _ | refine Below.drew ?_ | refine below_set ?_ (by omega) _))).size) hle).mono ?_
  rintro e w1 ⟨eb, v', rfl, hge, hE, hT, hne, hB⟩
  replace HB := Lib.hid (below_call (w := w) (by repeat (first | exact HB.out | refine below_alloc ?_ _ | refine Below.drew ?_ | refine below_set ?_ (by omega) _)) hB)
  have z1 : w.heap.size ≤ w1.heap.size := HB.out.size
  have B0 : Hid (Blk w1 (w.heap.size) 3 #[.int .i64 who]) := Lib.hid (Blk.after (by repeat (first | exact Blk.new' (by simp; done) | exact Blk.new' rfl | refine Blk.drew ?_ | refine Blk.alloc ?_ _)) hB)
  have B1 : Hid (Blk w1 (w.heap.size + 1) 3 #[.int .i64 c]) := Lib.hid (Blk.after (by repeat (first | exact Blk.new' (by simp; done) | exact Blk.new' rfl | refine Blk.drew ?_ | refine Blk.alloc ?_ _)) hB)
  clear hB
  obtain ⟨A', c', rfl⟩ := hT.slice
  have zg : w.heap.size + 2 ≤ eb := by simp at hge; omega
  have ze : eb < w1.heap.size := hE.lt
  rw [HOP.out] at hE
  obtain ⟨g, cs, rfl, _, hg, hG, hc1, hc2, r, hr⟩ := hT.cons HX.out
  have zh : w.heap.size + 2 ≤ g := by simp at hg; omega
  have zi : g < w1.heap.size := hG.lt
  have zj : g ≠ eb := hne _ _ _ rfl
  have B2 := Lib.hid (show Blk w1 eb 63 #[.slice (some ⟨g, 0, none⟩) l.length c', .int .i64 who, .nilIface] from hE)
  have B3 := Lib.hid hG
  have HC0 : Hid (cs[c * 8]? = some (.int .i64 x.par)) := Lib.hid (tab_cell (j := 0) hr HX.out rfl)
  have HC1 : Hid (cs[c * 8 + 1]? = some (.int .i64 x.st)) := Lib.hid (tab_cell (j := 1) hr HX.out rfl)
  have HC2 : Hid (cs[c * 8 + 2]? = some (.int .i64 x.cur.lv)) := Lib.hid (tab_cell (j := 2) hr HX.out rfl)
  have HC3 : Hid (cs[c * 8 + 3]? = some (.int .u64 (u x.cur.c))) := Lib.hid (tab_cell (j := 3) hr HX.out rfl)
  have HC4 : Hid (cs[c * 8 + 4]? = some (.int .i64 x.cur.ig)) := Lib.hid (tab_cell (j := 4) hr HX.out rfl)
  have HC5 : Hid (cs[c * 8 + 5]? = some (.int .i64 x.high.lv)) := Lib.hid (tab_cell (j := 5) hr HX.out rfl)
  have HC6 : Hid (cs[c * 8 + 6]? = some (.int .u64 (u x.high.c))) := Lib.hid (tab_cell (j := 6) hr HX.out rfl)
  have HC7 : Hid (cs[c * 8 + 7]? = some (.int .i64 x.high.ig)) := Lib.hid (tab_cell (j := 7) hr HX.out rfl)
  have HR := Lib.hid hr
  clear hE hT hne hG hr hge hg
  go_wp2_with fail
  refine wp_region_gen2 (S := (fun W' => Blk W' (w.heap.size) 3 #[.int .i64 who] ∧ Blk W' (w.heap.size + 1) 3 #[.int .i64 c] ∧ Blk W' (g) 41 cs ∧ Blk W' (w1.heap.size) 54 #[.pointer (some ⟨eb, 0, none⟩)] ∧ Below w.heap.size w W')) (N := (fun W' => Blk W' (eb) 63 #[.slice (some ⟨g, 0, none⟩) l.length c', .int .i64 who, .nilIface])) (by kernel_rfl) ⟨(by repeat (first | exact B0.out | exact Blk.new' (by simp; done) | exact Blk.new' rfl | refine Blk.drew ?_ | refine Blk.alloc ?_ _)), (by repeat (first | exact B1.out | exact Blk.new' (by simp; done) | exact Blk.new' rfl | refine Blk.drew ?_ | refine Blk.alloc ?_ _)), (by repeat (first | exact B3.out | exact Blk.new' (by simp; done) | exact Blk.new' rfl | refine Blk.drew ?_ | refine Blk.alloc ?_ _)), (by repeat (first | exact Blk.new' (by simp; done) | exact Blk.new' rfl | refine Blk.drew ?_ | refine Blk.alloc ?_ _)), (by repeat (first | exact HB.out | refine below_alloc ?_ _ | refine Below.drew ?_ | refine below_set ?_ (by omega) _))⟩ (by repeat (first | exact B2.out | exact Blk.new' (by simp; done) | exact Blk.new' rfl | refine Blk.drew ?_ | refine Blk.alloc ?_ _)) (fun w2 hS hN => ?_)
  have n0 := hN
  have N0 := Lib.hid n0
  have d0_N0 : w.heap.size ≠ eb := by omega
  have d1_N0 : w.heap.size + 1 ≠ eb := by omega
  have d2_N0 : g ≠ eb := by omega
  have d3_N0 : w1.heap.size ≠ eb := by omega
  have dd_N0 : w.heap.size ≤ eb := by omega
  clear n0 hN
  refine wpAnyH_take (i := 0) (v := ?_) (op_at rfl) (by kernel_rfl) (by kernel_rfl) (by kernel_rfl) (fun _ _ _ h => h) (Or.inl ⟨by rfl, ?_⟩) hS ?_; rotate_left; focus ((intro w' hSw; obtain ⟨-, -, -, q, -⟩ := hSw; have c0 := q.at_ (i := 0) (v := .pointer (some ⟨eb, 0, none⟩)) rfl; clear q; go_simp) <;> with_reducible rfl)
  try simp only [Act.put, List.setIfInBounds_toArray, List.set_cons_zero, List.set_cons_succ]
  refine wpAnyH_take (i := 1) (v := ?_) (op_at rfl) (by kernel_rfl) (by kernel_rfl) (by kernel_rfl) (fun _ _ _ h => h) (Or.inl ⟨by rfl, ?_⟩) hS ?_; rotate_left; focus ((intro w' hSw; obtain ⟨-, -, -, q, -⟩ := hSw; have c0 := q.at_ (i := 0) (v := .pointer (some ⟨eb, 0, none⟩)) rfl; clear q; go_simp) <;> with_reducible rfl)
  try simp only [Act.put, List.setIfInBounds_toArray, List.set_cons_zero, List.set_cons_succ]
  refine wpAnyH_take (i := 2) (v := ?_) (op_at rfl) (by kernel_rfl) (by kernel_rfl) (by kernel_rfl) (fun _ _ _ h => h) (Or.inl ⟨by rfl, ?_⟩) hS ?_; rotate_left; focus ((intro w' hSw; clear hSw; go_simp) <;> with_reducible rfl)
  try simp only [Act.put, List.setIfInBounds_toArray, List.set_cons_zero, List.set_cons_succ]
  refine wpAnyH_take (i := 3) (v := ?_) (op_at rfl) (by kernel_rfl) (by kernel_rfl) (by kernel_rfl) (fun _ _ _ h => h) (Or.inl ⟨by rfl, ?_⟩) hS ?_; rotate_left; focus ((intro w' hSw; clear hSw; go_simp) <;> with_reducible rfl)
  try simp only [Act.put, List.setIfInBounds_toArray, List.set_cons_zero, List.set_cons_succ]
  refine wpAnyH_take (i := 4) (v := ?_) (op_at rfl) (by kernel_rfl) (by kernel_rfl) (by kernel_rfl) (fun _ _ _ h => h) (Or.inl ⟨by rfl, ?_⟩) hS ?_; rotate_left; focus ((intro w' hSw; obtain ⟨-, q, -⟩ := hSw; have c0 := q.at_ (i := 0) (v := .int .i64 c) rfl; clear q; go_simp) <;> with_reducible rfl)
  try simp only [Act.put, List.setIfInBounds_toArray, List.set_cons_zero, List.set_cons_succ]
  refine wpAnyH_ready (rs := [5]) (by kernel_rfl) (by simp) ?_
  refine (AllReadyH.cons (op_at rfl) (fun K hK => ?_) AllReadyH.nil)
  go_simp
  obtain ⟨b0, b1, b2, b3, hb⟩ := hS
  refine (hasIs HH2.out (N0.out.at_ (i := 0) (v := .slice (some ⟨g, 0, none⟩) l.length c') rfl)).mono ?_
  rintro e w' ⟨rfl, rfl⟩
  refine hK.out _ _ ⟨b0, b1, b2, b3, hb⟩ (fun hS => ?_)
  clear hK K b0 b1 b2 b3 hb
  try simp only [Act.put, List.setIfInBounds_toArray, List.set_cons_zero, List.set_cons_succ]
  refine wpAnyH_take (i := 6) (v := ?_) (op_at rfl) (by kernel_rfl) (by kernel_rfl) (by kernel_rfl) (fun _ _ _ h => h) (Or.inl ⟨by rfl, ?_⟩) hS ?_; rotate_left; focus ((intro w' hSw; clear hSw; go_simp) <;> with_reducible rfl)
  try simp only [Act.put, List.setIfInBounds_toArray, List.set_cons_zero, List.set_cons_succ]
  refine wpAnyH_ready (rs := [7]) (by kernel_rfl) (by simp) ?_
  refine (AllReadyH.cons (op_at rfl) (fun K hK => ?_) AllReadyH.nil)
  go_simp
  have dx0_1 : eb ≠ w2.heap.size := Nat.ne_of_lt N0.out.lt
  replace N0 := Lib.hid (N0.out.alloc (.cells #[.bool true, .int .i64 162] 65))
  obtain ⟨b0, b1, b2, b3, hb⟩ := hS
  have N1 : Hid (Blk (w2.alloc (.cells #[.bool true, .int .i64 162] 65)) w2.heap.size 65 #[.bool true, .int .i64 162]) := Lib.hid (Blk.new' rfl)
  have d0_N1 : w.heap.size ≠ w2.heap.size := Nat.ne_of_lt b0.lt
  have d1_N1 : w.heap.size + 1 ≠ w2.heap.size := Nat.ne_of_lt b1.lt
  have d2_N1 : g ≠ w2.heap.size := Nat.ne_of_lt b2.lt
  have d3_N1 : w1.heap.size ≠ w2.heap.size := Nat.ne_of_lt b3.lt
  have dd_N1 : w.heap.size ≤ w2.heap.size := hb.size
  refine hK.out _ _ ⟨b0.alloc _, b1.alloc _, b2.alloc _, b3.alloc _, below_alloc hb _⟩ (fun hS => ?_)
  clear hK K b0 b1 b2 b3 hb
  try simp only [Act.put, List.setIfInBounds_toArray, List.set_cons_zero, List.set_cons_succ]
  refine wpAnyH_ready (rs := [8]) (by kernel_rfl) (by simp) ?_
  refine (AllReadyH.cons (op_at rfl) (fun K hK => ?_) AllReadyH.nil)
  go_simp
  obtain ⟨b0, b1, b2, b3, hb⟩ := hS
  refine (must_any who none [(true, 162)] eb (.slice (some ⟨g, 0, none⟩) l.length c') _ _ N0.out (RowsAt.of_blk (cs := #[.bool true, .int .i64 162]) (l := [(true, 162)]) (cap := 1) encC_size (Blk.new' rfl) ⟨[], rfl⟩ (by simp) (by decide)) (fun b off m c h => by cases h; omega)).mono ?_
  rintro e w3 ⟨rfl, hT, hB⟩
  replace N0 : Hid (Blk w3 (eb) 63 #[.slice (some ⟨g, 0, none⟩) l.length c', .int .i64 who, .nilIface]) := Lib.hid hT
  replace N1 := Lib.hid (N1.out.turned hB (by omega))
  refine hK.out _ _ ⟨b0.turned hB (by omega), b1.turned hB (by omega), b2.turned hB (by omega), b3.turned hB (by omega), below_turns hb hB (by omega)⟩ (fun hS => ?_)
  clear hK K hT hB b0 b1 b2 b3 hb
  try simp only [Act.put, List.setIfInBounds_toArray, List.set_cons_zero, List.set_cons_succ]
  refine wpAnyH_done (by kernel_rfl) ?_ _
  obtain ⟨b0, b1, b2, b3, hb⟩ := hS
  replace B0 := Lib.hid b0
  clear b0
  replace B1 := Lib.hid b1
  clear b1
  replace B3 := Lib.hid b2
  clear b2
  replace B4 := Lib.hid b3
  clear b3
  replace B2 := N0
  clear N0
  have B5 := N1
  clear N1
  replace HB := Lib.hid hb
  clear hb
  have p2_2 := B2.out.at_ (i := 2) (v := .nilIface) rfl
  have k2_0 : eb < w3.heap.size := by have := B2.out.lt; omega
  have p4_0 := B4.out.at_ (i := 0) (v := .pointer (some ⟨eb, 0, none⟩)) rfl
  have k4_0 : w1.heap.size < w3.heap.size := by have := B4.out.lt; omega
  go_wp2_with fail
  refine wp_region_gen (S := (fun W' => Blk W' (w.heap.size) 3 #[.int .i64 who] ∧ Blk W' (w.heap.size + 1) 3 #[.int .i64 c] ∧ Blk W' (eb) 63 #[.slice (some ⟨g, 0, none⟩) l.length c', .int .i64 who, .nilIface] ∧ Blk W' (g) 41 cs ∧ Blk W' (w1.heap.size) 54 #[.pointer (some ⟨eb, 0, none⟩)] ∧ Below w.heap.size w W')) (by kernel_rfl) ⟨(by repeat (first | exact B0.out | exact Blk.new' (by simp; done) | exact Blk.new' rfl | refine Blk.drew ?_ | refine Blk.alloc ?_ _)), (by repeat (first | exact B1.out | exact Blk.new' (by simp; done) | exact Blk.new' rfl | refine Blk.drew ?_ | refine Blk.alloc ?_ _)), (by repeat (first | exact B2.out | exact Blk.new' (by simp; done) | exact Blk.new' rfl | refine Blk.drew ?_ | refine Blk.alloc ?_ _)), (by repeat (first | exact B3.out | exact Blk.new' (by simp; done) | exact Blk.new' rfl | refine Blk.drew ?_ | refine Blk.alloc ?_ _)), (by repeat (first | exact B4.out | exact Blk.new' (by simp; done) | exact Blk.new' rfl | refine Blk.drew ?_ | refine Blk.alloc ?_ _)), (by repeat (first | exact HB.out | refine below_alloc ?_ _ | refine Below.drew ?_ | refine below_set ?_ (by omega) _))⟩ (fun w4 hS => ?_)
  clear p2_2 k2_0 p4_0 k4_0
  refine wpAnyH_take (i := 0) (v := ?_) (op_at rfl) (by kernel_rfl) (by kernel_rfl) (by kernel_rfl) (fun _ _ _ h => h) (Or.inl ⟨by rfl, ?_⟩) hS ?_; rotate_left; focus ((intro w' hSw; obtain ⟨-, -, -, -, q, -⟩ := hSw; have c0 := q.at_ (i := 0) (v := .pointer (some ⟨eb, 0, none⟩)) rfl; clear q; go_simp) <;> with_reducible rfl)
  try simp only [Act.put, List.setIfInBounds_toArray, List.set_cons_zero, List.set_cons_succ]
  refine wpAnyH_take (i := 1) (v := ?_) (op_at rfl) (by kernel_rfl) (by kernel_rfl) (by kernel_rfl) (fun _ _ _ h => h) (Or.inl ⟨by rfl, ?_⟩) hS ?_; rotate_left; focus ((intro w' hSw; clear hSw; go_simp) <;> with_reducible rfl)
  try simp only [Act.put, List.setIfInBounds_toArray, List.set_cons_zero, List.set_cons_succ]
  refine wpAnyH_take (i := 2) (v := ?_) (op_at rfl) (by kernel_rfl) (by kernel_rfl) (by kernel_rfl) (fun _ _ _ h => h) (Or.inl ⟨by rfl, ?_⟩) hS ?_; rotate_left; focus ((intro w' hSw; clear hSw; go_simp) <;> with_reducible rfl)
  try simp only [Act.put, List.setIfInBounds_toArray, List.set_cons_zero, List.set_cons_succ]
  refine wpAnyH_take (i := 3) (v := ?_) (op_at rfl) (by kernel_rfl) (by kernel_rfl) (by kernel_rfl) (fun _ _ _ h => h) (Or.inl ⟨by rfl, ?_⟩) hS ?_; rotate_left; focus ((intro w' hSw; clear hSw; go_simp) <;> with_reducible rfl)
  try simp only [Act.put, List.setIfInBounds_toArray, List.set_cons_zero, List.set_cons_succ]
  refine wpAnyH_take (i := 4) (v := ?_) (op_at rfl) (by kernel_rfl) (by kernel_rfl) (by kernel_rfl) (fun _ _ _ h => h) (Or.inl ⟨by rfl, ?_⟩) hS ?_; rotate_left; focus ((intro w' hSw; obtain ⟨-, -, q, -⟩ := hSw; have c0 := q.at_ (i := 0) (v := .slice (some ⟨g, 0, none⟩) l.length c') rfl; clear q; go_simp) <;> with_reducible rfl)
  try simp only [Act.put, List.setIfInBounds_toArray, List.set_cons_zero, List.set_cons_succ]
  refine wpAnyH_take (i := 5) (v := ?_) (op_at rfl) (by kernel_rfl) (by kernel_rfl) (by kernel_rfl) (fun _ _ _ h => h) (Or.inl ⟨by rfl, ?_⟩) hS ?_; rotate_left; focus ((intro w' hSw; obtain ⟨-, q, -⟩ := hSw; have c0 := q.at_ (i := 0) (v := .int .i64 c) rfl; clear q; go_simp) <;> with_reducible rfl)
  try simp only [Act.put, List.setIfInBounds_toArray, List.set_cons_zero, List.set_cons_succ]
  refine wpAnyH_take (i := 6) (v := ?_) (op_at rfl) (by kernel_rfl) (by kernel_rfl) (by kernel_rfl) (fun _ _ _ h => h) (Or.inl ⟨by rfl, ?_⟩) hS ?_; rotate_left; focus ((intro w' hSw; clear hSw; go_simp) <;> with_reducible rfl)
  try simp only [Act.put, List.setIfInBounds_toArray, List.set_cons_zero, List.set_cons_succ]
  refine wpAnyH_take (i := 7) (v := ?_) (op_at rfl) (by kernel_rfl) (by kernel_rfl) (by kernel_rfl) (fun _ _ _ h => h) (Or.inl ⟨by rfl, ?_⟩) hS ?_; rotate_left; focus ((intro w' hSw; obtain ⟨-, -, -, q, -⟩ := hSw; have c0 : w'.cell? ⟨g, c * 8, none⟩ = some (.int .i64 x.par) := q.at_ HC0.out; have c1 : w'.cell? ⟨g, c * 8 + 1, none⟩ = some (.int .i64 x.st) := q.at_ HC1.out; have c2 : w'.cell? ⟨g, c * 8 + 2, none⟩ = some (.int .i64 x.cur.lv) := q.at_ HC2.out; have c3 : w'.cell? ⟨g, c * 8 + 3, none⟩ = some (.int .u64 (u x.cur.c)) := q.at_ HC3.out; have c4 : w'.cell? ⟨g, c * 8 + 4, none⟩ = some (.int .i64 x.cur.ig) := q.at_ HC4.out; have c5 : w'.cell? ⟨g, c * 8 + 5, none⟩ = some (.int .i64 x.high.lv) := q.at_ HC5.out; have c6 : w'.cell? ⟨g, c * 8 + 6, none⟩ = some (.int .u64 (u x.high.c)) := q.at_ HC6.out; have c7 : w'.cell? ⟨g, c * 8 + 7, none⟩ = some (.int .i64 x.high.ig) := q.at_ HC7.out; clear q; go_simp) <;> with_reducible rfl)
  try simp only [Act.put, List.setIfInBounds_toArray, List.set_cons_zero, List.set_cons_succ]
  refine wpAnyH_ready (rs := [8]) (by kernel_rfl) (by simp) ?_
  refine (AllReadyH.cons (op_at rfl) (fun K hK => ?_) AllReadyH.nil)
  go_simp
  obtain ⟨b0, b1, b2, b3, b4, hb⟩ := hS
  have N0 : Hid (Blk (w4.alloc (.cells #[.int .i64 0, .int .i64 0, .int .i64 0, .int .u64 0, .int .i64 0, .int .i64 0, .int .u64 0, .int .i64 0] 41)) w4.heap.size 41 #[.int .i64 0, .int .i64 0, .int .i64 0, .int .u64 0, .int .i64 0, .int .i64 0, .int .u64 0, .int .i64 0]) := Lib.hid (Blk.new' rfl)
  have d0_N0 : w.heap.size ≠ w4.heap.size := Nat.ne_of_lt b0.lt
  have d1_N0 : w.heap.size + 1 ≠ w4.heap.size := Nat.ne_of_lt b1.lt
  have d2_N0 : eb ≠ w4.heap.size := Nat.ne_of_lt b2.lt
  have d3_N0 : g ≠ w4.heap.size := Nat.ne_of_lt b3.lt
  have d4_N0 : w1.heap.size ≠ w4.heap.size := Nat.ne_of_lt b4.lt
  have dd_N0 : w.heap.size ≤ w4.heap.size := hb.size
  refine hK.out _ _ ⟨b0.alloc _, b1.alloc _, b2.alloc _, b3.alloc _, b4.alloc _, below_alloc hb _⟩ (fun hS => ?_)
  clear hK K b0 b1 b2 b3 b4 hb
  try simp only [Act.put, List.setIfInBounds_toArray, List.set_cons_zero, List.set_cons_succ]
  refine wpAnyH_ready (rs := [9]) (by kernel_rfl) (by simp) ?_
  refine (AllReadyH.cons (op_at rfl) (fun K hK => ?_) AllReadyH.nil)
  go_simp
  obtain ⟨b0, b1, b2, b3, b4, hb⟩ := hS
  refine hK.out _ _ ⟨(Blk.realloc b0 d0_N0), (Blk.realloc b1 d1_N0), (Blk.realloc b2 d2_N0), (Blk.realloc b3 d3_N0), (Blk.realloc b4 d4_N0), (below_realloc hb dd_N0)⟩ (fun hS => ?_)
  replace N0 : Hid (Blk (w4.alloc (.cells #[.int .i64 x.par, .int .i64 x.st, .int .i64 x.cur.lv, .int .u64 (u x.cur.c), .int .i64 x.cur.ig, .int .i64 x.high.lv, .int .u64 (u x.high.c), .int .i64 x.high.ig] 41)) w4.heap.size 41 #[.int .i64 x.par, .int .i64 x.st, .int .i64 x.cur.lv, .int .u64 (u x.cur.c), .int .i64 x.cur.ig, .int .i64 x.high.lv, .int .u64 (u x.high.c), .int .i64 x.high.ig]) := Lib.hid (Blk.new' rfl)
  clear hK K b0 b1 b2 b3 b4 hb
  try simp only [Act.put, List.setIfInBounds_toArray, List.set_cons_zero, List.set_cons_succ]
  refine wpAnyH_done (by kernel_rfl) ?_ _
  obtain ⟨b0, b1, b2, b3, b4, hb⟩ := hS
  replace B0 := Lib.hid b0
  clear b0
  replace B1 := Lib.hid b1
  clear b1
  replace B2 := Lib.hid b2
  clear b2
  replace B3 := Lib.hid b3
  clear b3
  replace B4 := Lib.hid b4
  clear b4
  have B6 := N0
  clear N0
  replace HB := Lib.hid hb
  clear hb
  generalize w4.alloc (.cells #[.int .i64 x.par, .int .i64 x.st, .int .i64 x.cur.lv, .int .u64 (u x.cur.c), .int .i64 x.cur.ig, .int .i64 x.high.lv, .int .u64 (u x.high.c), .int .i64 x.high.ig] 41) = w5 at B0 B1 B2 B3 B4 B6 HB ⊢
  have p0_0 := B0.out.at_ (i := 0) (v := .int .i64 who) rfl
  have k0_0 : w.heap.size < w5.heap.size := by have := B0.out.lt; omega
  have k0_1 : w.heap.size < w5.heap.size + 1 := by have := B0.out.lt; omega
  have p4_0 := B4.out.at_ (i := 0) (v := .pointer (some ⟨eb, 0, none⟩)) rfl
  have k4_0 : w1.heap.size < w5.heap.size := by have := B4.out.lt; omega
  have k4_1 : w1.heap.size < w5.heap.size + 1 := by have := B4.out.lt; omega
  have p6_0 := B6.out.at_ (i := 0) (v := .int .i64 x.par) rfl
  have p6_1 := B6.out.at_ (i := 1) (v := .int .i64 x.st) rfl
  have k6_0 : w4.heap.size < w5.heap.size := by have := B6.out.lt; omega
  have k6_1 : w4.heap.size < w5.heap.size + 1 := by have := B6.out.lt; omega
  go_wp2_with fail
  refine (must_any who none [(false, 162)] eb (.slice (some ⟨g, 0, none⟩) l.length c') _ _ (by repeat (first | exact B2.out | exact Blk.new' (by simp; done) | exact Blk.new' rfl | refine Blk.drew ?_ | refine Blk.alloc ?_ _)) (RowsAt.of_blk (cs := #[.bool false, .int .i64 162]) (l := [(false, 162)]) (cap := 1) encC_size (Blk.new' rfl) ⟨[], rfl⟩ (by simp) (by decide)) (fun b off m c h => by cases h; have := B2.out.lt; omega)).mono ?_
  rintro e w6 ⟨rfl, hT, hB⟩
  replace HB := Lib.hid (below_turns (w := w) (by repeat (first | exact HB.out | refine below_alloc ?_ _ | refine Below.drew ?_ | refine below_set ?_ (by omega) _)) hB (by first | omega | simp))
  have z6 : w.heap.size ≤ w6.heap.size := HB.out.size
  replace B0 : Hid (Blk w6 (w.heap.size) 3 #[.int .i64 who]) := Lib.hid (Blk.turned (by repeat (first | exact B0.out | exact Blk.new' (by simp; done) | exact Blk.new' rfl | refine Blk.drew ?_ | refine Blk.alloc ?_ _)) hB (by omega))
  replace B1 : Hid (Blk w6 (w.heap.size + 1) 3 #[.int .i64 c]) := Lib.hid (Blk.turned (by repeat (first | exact B1.out | exact Blk.new' (by simp; done) | exact Blk.new' rfl | refine Blk.drew ?_ | refine Blk.alloc ?_ _)) hB (by omega))
  replace B2 : Hid (Blk w6 (eb) 63 #[.slice (some ⟨g, 0, none⟩) l.length c', .int .i64 who, .iface 85 (.agg #[.int .i64 who, .iface 83 (.agg #[.int .i64 162])])]) := Lib.hid hT
  replace B3 : Hid (Blk w6 (g) 41 cs) := Lib.hid (Blk.turned (by repeat (first | exact B3.out | exact Blk.new' (by simp; done) | exact Blk.new' rfl | refine Blk.drew ?_ | refine Blk.alloc ?_ _)) hB (by omega))
  replace B4 : Hid (Blk w6 (w1.heap.size) 54 #[.pointer (some ⟨eb, 0, none⟩)]) := Lib.hid (Blk.turned (by repeat (first | exact B4.out | exact Blk.new' (by simp; done) | exact Blk.new' rfl | refine Blk.drew ?_ | refine Blk.alloc ?_ _)) hB (by omega))
  replace B6 : Hid (Blk w6 (w4.heap.size) 41 #[.int .i64 x.par, .int .i64 x.st, .int .i64 x.cur.lv, .int .u64 (u x.cur.c), .int .i64 x.cur.ig, .int .i64 x.high.lv, .int .u64 (u x.high.c), .int .i64 x.high.ig]) := Lib.hid (Blk.turned (by repeat (first | exact B6.out | exact Blk.new' (by simp; done) | exact Blk.new' rfl | refine Blk.drew ?_ | refine Blk.alloc ?_ _)) hB (by omega))
  clear hT
  clear p0_0 k0_0 k0_1 p4_0 k4_0 k4_1 p6_0 p6_1 k6_0 k6_1
  clear hB
  have p4_0 := B4.out.at_ (i := 0) (v := .pointer (some ⟨eb, 0, none⟩)) rfl
  have k4_0 : w1.heap.size < w6.heap.size := by have := B4.out.lt; omega
  go_wp2_with fail
  refine (edit_wrong who 162 eb _ _ _ (by repeat (first | exact B2.out | exact Blk.new' (by simp; done) | exact Blk.new' rfl | refine Blk.drew ?_ | refine Blk.alloc ?_ _)) (HH.out.up (by repeat (first | exact HB.out | refine below_alloc ?_ _ | refine Below.drew ?_ | refine below_set ?_ (by omega) _)))).mono ?_
  rintro e w7 ⟨rfl, hB⟩
  replace HB := Lib.hid (below_call (w := w) (by repeat (first | exact HB.out | refine below_alloc ?_ _ | refine Below.drew ?_ | refine below_set ?_ (by omega) _)) hB)
  have z7 : w.heap.size ≤ w7.heap.size := HB.out.size
  replace B2 : Hid (Blk w7 (eb) 63 #[.slice (some ⟨g, 0, none⟩) l.length c', .int .i64 who, .iface 85 (.agg #[.int .i64 who, .iface 83 (.agg #[.int .i64 162])])]) := Lib.hid (Blk.after (by repeat (first | exact B2.out | exact Blk.new' (by simp; done) | exact Blk.new' rfl | refine Blk.drew ?_ | refine Blk.alloc ?_ _)) hB)
  replace B3 : Hid (Blk w7 (g) 41 cs) := Lib.hid (Blk.after (by repeat (first | exact B3.out | exact Blk.new' (by simp; done) | exact Blk.new' rfl | refine Blk.drew ?_ | refine Blk.alloc ?_ _)) hB)
  clear p4_0 k4_0
  clear hB
  go_wp2_with fail
  go_ret2
  exact ⟨_, rfl, RowsAt.nil _ _, (by repeat (first | exact HB.out | refine below_alloc ?_ _ | refine Below.drew ?_ | refine below_set ?_ (by omega) _))⟩
end

section
open Go.RowKit

attribute [local go_sem] u_and u_or u_andNot u_add u_sub u_bit u_eq_zero u_beq

set_option maxRecDepth 100000 in
set_option maxHeartbeats 4000000 in
theorem Start_d (l : List Sub) (v : Value)  (c : Nat) (x : Sub) (k : Nat) (p : Sub) (w : World) (hl : SubsAt w.heap.size w v l) (hh : Handle w) (hop : openO l (k : Int) = none) (hh2 : (decide ((0 : Int) ≤ (c : Int)) && decide ((c : Int) < (l.length : Int))) = true) (hx : l[c]? = some x) (hp : l[k]? = some p) (hu : underL p.cur x.high = false) (hle : l.length ≤ 1000) (hpar : (x.par == (k : Int)) = true) (hst : (x.st == 0) = true) :
    Calls Tryd.prog 12 #[v, .int .i64 (k : Int), .int .i64 c] w fun e w' => ∃ v', e = .returned (.tuple #[v', .int .i64 120]) ∧ SubsAt w'.heap.size w' v' [] ∧ Below w.heap.size w w' := by
  have hcl : c < l.length := (List.getElem?_eq_some_iff.1 hx).1
  have hcz : (0 : Int) ≤ (c : Int) := by omega
  have hcz2 : (c : Int) < (l.length : Int) := by omega
  have hkl : k < l.length := (List.getElem?_eq_some_iff.1 hp).1
  have HL := Lib.hid hl
  have HH := Lib.hid hh
  have HOP := Lib.hid hop
  have HH2 := Lib.hid hh2
  have HX := Lib.hid hx
  have HP := Lib.hid hp
  have HU := Lib.hid hu
  clear hl hh hop hh2 hx hp hu
  have HB := Lib.hid (Below.refl w.heap.size w)
  go_enter Tryd.func12, Tryd.ntmps12
  go_wp2_with fail
  refine (open_any l v (k : Int) _ (HL.out.later (by repeat (first | exact HB.out | refine below_alloc ?_ _ | refine Below.drew ?_ | refine below_set ?_ (by omega) _)) ((show Below w.heap.size w _ by repeat (first | exact HB.out | refine below_alloc ?_ _ | refine Below.drew ?_ | refine below_set ?_ (by omega) _))).size) hle).mono ?_
  rintro e w1 ⟨eb, v', rfl, hge, hE, hT, hne, hB⟩
  replace HB := Lib.hid (below_call (w := w) (by repeat (first | exact HB.out | refine below_alloc ?_ _ | refine Below.drew ?_ | refine below_set ?_ (by omega) _)) hB)
  have z1 : w.heap.size ≤ w1.heap.size := HB.out.size
  have B0 : Hid (Blk w1 (w.heap.size) 3 #[.int .i64 (k : Int)]) := Lib.hid (Blk.after (by repeat (first | exact Blk.new' (by simp; done) | exact Blk.new' rfl | refine Blk.drew ?_ | refine Blk.alloc ?_ _)) hB)
  have B1 : Hid (Blk w1 (w.heap.size + 1) 3 #[.int .i64 c]) := Lib.hid (Blk.after (by repeat (first | exact Blk.new' (by simp; done) | exact Blk.new' rfl | refine Blk.drew ?_ | refine Blk.alloc ?_ _)) hB)
  clear hB
  obtain ⟨A', c', rfl⟩ := hT.slice
  have zg : w.heap.size + 2 ≤ eb := by simp at hge; omega
  have ze : eb < w1.heap.size := hE.lt
  rw [HOP.out] at hE
  obtain ⟨g, cs, rfl, _, hg, hG, hc1, hc2, r, hr⟩ := hT.cons HX.out
  have zh : w.heap.size + 2 ≤ g := by simp at hg; omega
  have zi : g < w1.heap.size := hG.lt
  have zj : g ≠ eb := hne _ _ _ rfl
  have B2 := Lib.hid (show Blk w1 eb 63 #[.slice (some ⟨g, 0, none⟩) l.length c', .int .i64 (k : Int), .nilIface] from hE)
  have B3 := Lib.hid hG
  have HC0 : Hid (cs[c * 8]? = some (.int .i64 x.par)) := Lib.hid (tab_cell (j := 0) hr HX.out rfl)
  have HC1 : Hid (cs[c * 8 + 1]? = some (.int .i64 x.st)) := Lib.hid (tab_cell (j := 1) hr HX.out rfl)
  have HC2 : Hid (cs[c * 8 + 2]? = some (.int .i64 x.cur.lv)) := Lib.hid (tab_cell (j := 2) hr HX.out rfl)
  have HC3 : Hid (cs[c * 8 + 3]? = some (.int .u64 (u x.cur.c))) := Lib.hid (tab_cell (j := 3) hr HX.out rfl)
  have HC4 : Hid (cs[c * 8 + 4]? = some (.int .i64 x.cur.ig)) := Lib.hid (tab_cell (j := 4) hr HX.out rfl)
  have HC5 : Hid (cs[c * 8 + 5]? = some (.int .i64 x.high.lv)) := Lib.hid (tab_cell (j := 5) hr HX.out rfl)
  have HC6 : Hid (cs[c * 8 + 6]? = some (.int .u64 (u x.high.c))) := Lib.hid (tab_cell (j := 6) hr HX.out rfl)
  have HC7 : Hid (cs[c * 8 + 7]? = some (.int .i64 x.high.ig)) := Lib.hid (tab_cell (j := 7) hr HX.out rfl)
  have HR := Lib.hid hr
  clear hE hT hne hG hr hge hg
  go_wp2_with fail
  refine wp_region_gen2 (S := (fun W' => Blk W' (w.heap.size) 3 #[.int .i64 (k : Int)] ∧ Blk W' (w.heap.size + 1) 3 #[.int .i64 c] ∧ Blk W' (g) 41 cs ∧ Blk W' (w1.heap.size) 54 #[.pointer (some ⟨eb, 0, none⟩)] ∧ Below w.heap.size w W')) (N := (fun W' => Blk W' (eb) 63 #[.slice (some ⟨g, 0, none⟩) l.length c', .int .i64 (k : Int), .nilIface])) (by kernel_rfl) ⟨(by repeat (first | exact B0.out | exact Blk.new' (by simp; done) | exact Blk.new' rfl | refine Blk.drew ?_ | refine Blk.alloc ?_ _)), (by repeat (first | exact B1.out | exact Blk.new' (by simp; done) | exact Blk.new' rfl | refine Blk.drew ?_ | refine Blk.alloc ?_ _)), (by repeat (first | exact B3.out | exact Blk.new' (by simp; done) | exact Blk.new' rfl | refine Blk.drew ?_ | refine Blk.alloc ?_ _)), (by repeat (first | exact Blk.new' (by simp; done) | exact Blk.new' rfl | refine Blk.drew ?_ | refine Blk.alloc ?_ _)), (by repeat (first | exact HB.out | refine below_alloc ?_ _ | refine Below.drew ?_ | refine below_set ?_ (by omega) _))⟩ (by repeat (first | exact B2.out | exact Blk.new' (by simp; done) | exact Blk.new' rfl | refine Blk.drew ?_ | refine Blk.alloc ?_ _)) (fun w2 hS hN => ?_)
  have n0 := hN
  have N0 := Lib.hid n0
  have d0_N0 : w.heap.size ≠ eb := by omega
  have d1_N0 : w.heap.size + 1 ≠ eb := by omega
  have d2_N0 : g ≠ eb := by omega
  have d3_N0 : w1.heap.size ≠ eb := by omega
  have dd_N0 : w.heap.size ≤ eb := by omega
  clear n0 hN
  refine wpAnyH_take (i := 0) (v := ?_) (op_at rfl) (by kernel_rfl) (by kernel_rfl) (by kernel_rfl) (fun _ _ _ h => h) (Or.inl ⟨by rfl, ?_⟩) hS ?_; rotate_left; focus ((intro w' hSw; obtain ⟨-, -, -, q, -⟩ := hSw; have c0 := q.at_ (i := 0) (v := .pointer (some ⟨eb, 0, none⟩)) rfl; clear q; go_simp) <;> with_reducible rfl)
  try simp only [Act.put, List.setIfInBounds_toArray, List.set_cons_zero, List.set_cons_succ]
  refine wpAnyH_take (i := 1) (v := ?_) (op_at rfl) (by kernel_rfl) (by kernel_rfl) (by kernel_rfl) (fun _ _ _ h => h) (Or.inl ⟨by rfl, ?_⟩) hS ?_; rotate_left; focus ((intro w' hSw; obtain ⟨-, -, -, q, -⟩ := hSw; have c0 := q.at_ (i := 0) (v := .pointer (some ⟨eb, 0, none⟩)) rfl; clear q; go_simp) <;> with_reducible rfl)
  try simp only [Act.put, List.setIfInBounds_toArray, List.set_cons_zero, List.set_cons_succ]
  refine wpAnyH_take (i := 2) (v := ?_) (op_at rfl) (by kernel_rfl) (by kernel_rfl) (by kernel_rfl) (fun _ _ _ h => h) (Or.inl ⟨by rfl, ?_⟩) hS ?_; rotate_left; focus ((intro w' hSw; clear hSw; go_simp) <;> with_reducible rfl)
  try simp only [Act.put, List.setIfInBounds_toArray, List.set_cons_zero, List.set_cons_succ]
  refine wpAnyH_take (i := 3) (v := ?_) (op_at rfl) (by kernel_rfl) (by kernel_rfl) (by kernel_rfl) (fun _ _ _ h => h) (Or.inl ⟨by rfl, ?_⟩) hS ?_; rotate_left; focus ((intro w' hSw; clear hSw; go_simp) <;> with_reducible rfl)
  try simp only [Act.put, List.setIfInBounds_toArray, List.set_cons_zero, List.set_cons_succ]
  refine wpAnyH_take (i := 4) (v := ?_) (op_at rfl) (by kernel_rfl) (by kernel_rfl) (by kernel_rfl) (fun _ _ _ h => h) (Or.inl ⟨by rfl, ?_⟩) hS ?_; rotate_left; focus ((intro w' hSw; obtain ⟨-, q, -⟩ := hSw; have c0 := q.at_ (i := 0) (v := .int .i64 c) rfl; clear q; go_simp) <;> with_reducible rfl)
  try simp only [Act.put, List.setIfInBounds_toArray, List.set_cons_zero, List.set_cons_succ]
  refine wpAnyH_ready (rs := [5]) (by kernel_rfl) (by simp) ?_
  refine (AllReadyH.cons (op_at rfl) (fun K hK => ?_) AllReadyH.nil)
  go_simp
  obtain ⟨b0, b1, b2, b3, hb⟩ := hS
  refine (hasIs HH2.out (N0.out.at_ (i := 0) (v := .slice (some ⟨g, 0, none⟩) l.length c') rfl)).mono ?_
  rintro e w' ⟨rfl, rfl⟩
  refine hK.out _ _ ⟨b0, b1, b2, b3, hb⟩ (fun hS => ?_)
  clear hK K b0 b1 b2 b3 hb
  try simp only [Act.put, List.setIfInBounds_toArray, List.set_cons_zero, List.set_cons_succ]
  refine wpAnyH_take (i := 6) (v := ?_) (op_at rfl) (by kernel_rfl) (by kernel_rfl) (by kernel_rfl) (fun _ _ _ h => h) (Or.inl ⟨by rfl, ?_⟩) hS ?_; rotate_left; focus ((intro w' hSw; clear hSw; go_simp) <;> with_reducible rfl)
  try simp only [Act.put, List.setIfInBounds_toArray, List.set_cons_zero, List.set_cons_succ]
  refine wpAnyH_ready (rs := [7]) (by kernel_rfl) (by simp) ?_
  refine (AllReadyH.cons (op_at rfl) (fun K hK => ?_) AllReadyH.nil)
  go_simp
  have dx0_1 : eb ≠ w2.heap.size := Nat.ne_of_lt N0.out.lt
  replace N0 := Lib.hid (N0.out.alloc (.cells #[.bool true, .int .i64 162] 65))
  obtain ⟨b0, b1, b2, b3, hb⟩ := hS
  have N1 : Hid (Blk (w2.alloc (.cells #[.bool true, .int .i64 162] 65)) w2.heap.size 65 #[.bool true, .int .i64 162]) := Lib.hid (Blk.new' rfl)
  have d0_N1 : w.heap.size ≠ w2.heap.size := Nat.ne_of_lt b0.lt
  have d1_N1 : w.heap.size + 1 ≠ w2.heap.size := Nat.ne_of_lt b1.lt
  have d2_N1 : g ≠ w2.heap.size := Nat.ne_of_lt b2.lt
  have d3_N1 : w1.heap.size ≠ w2.heap.size := Nat.ne_of_lt b3.lt
  have dd_N1 : w.heap.size ≤ w2.heap.size := hb.size
  refine hK.out _ _ ⟨b0.alloc _, b1.alloc _, b2.alloc _, b3.alloc _, below_alloc hb _⟩ (fun hS => ?_)
  clear hK K b0 b1 b2 b3 hb
  try simp only [Act.put, List.setIfInBounds_toArray, List.set_cons_zero, List.set_cons_succ]
  refine wpAnyH_ready (rs := [8]) (by kernel_rfl) (by simp) ?_
  refine (AllReadyH.cons (op_at rfl) (fun K hK => ?_) AllReadyH.nil)
  go_simp
  obtain ⟨b0, b1, b2, b3, hb⟩ := hS
  refine (must_any (k : Int) none [(true, 162)] eb (.slice (some ⟨g, 0, none⟩) l.length c') _ _ N0.out (RowsAt.of_blk (cs := #[.bool true, .int .i64 162]) (l := [(true, 162)]) (cap := 1) encC_size (Blk.new' rfl) ⟨[], rfl⟩ (by simp) (by decide)) (fun b off m c h => by cases h; omega)).mono ?_
  rintro e w3 ⟨rfl, hT, hB⟩
  replace N0 : Hid (Blk w3 (eb) 63 #[.slice (some ⟨g, 0, none⟩) l.length c', .int .i64 (k : Int), .nilIface]) := Lib.hid hT
  replace N1 := Lib.hid (N1.out.turned hB (by omega))
  refine hK.out _ _ ⟨b0.turned hB (by omega), b1.turned hB (by omega), b2.turned hB (by omega), b3.turned hB (by omega), below_turns hb hB (by omega)⟩ (fun hS => ?_)
  clear hK K hT hB b0 b1 b2 b3 hb
  try simp only [Act.put, List.setIfInBounds_toArray, List.set_cons_zero, List.set_cons_succ]
  refine wpAnyH_done (by kernel_rfl) ?_ _
  obtain ⟨b0, b1, b2, b3, hb⟩ := hS
  replace B0 := Lib.hid b0
  clear b0
  replace B1 := Lib.hid b1
  clear b1
  replace B3 := Lib.hid b2
  clear b2
  replace B4 := Lib.hid b3
  clear b3
  replace B2 := N0
  clear N0
  have B5 := N1
  clear N1
  replace HB := Lib.hid hb
  clear hb
  have p2_2 := B2.out.at_ (i := 2) (v := .nilIface) rfl
  have k2_0 : eb < w3.heap.size := by have := B2.out.lt; omega
  have p4_0 := B4.out.at_ (i := 0) (v := .pointer (some ⟨eb, 0, none⟩)) rfl
  have k4_0 : w1.heap.size < w3.heap.size := by have := B4.out.lt; omega
  go_wp2_with fail
  refine wp_region_gen (S := (fun W' => Blk W' (w.heap.size) 3 #[.int .i64 (k : Int)] ∧ Blk W' (w.heap.size + 1) 3 #[.int .i64 c] ∧ Blk W' (eb) 63 #[.slice (some ⟨g, 0, none⟩) l.length c', .int .i64 (k : Int), .nilIface] ∧ Blk W' (g) 41 cs ∧ Blk W' (w1.heap.size) 54 #[.pointer (some ⟨eb, 0, none⟩)] ∧ Below w.heap.size w W')) (by kernel_rfl) ⟨(by repeat (first | exact B0.out | exact Blk.new' (by simp; done) | exact Blk.new' rfl | refine Blk.drew ?_ | refine Blk.alloc ?_ _)), (by repeat (first | exact B1.out | exact Blk.new' (by simp; done) | exact Blk.new' rfl | refine Blk.drew ?_ | refine Blk.alloc ?_ _)), (by repeat (first | exact B2.out | exact Blk.new' (by simp; done) | exact Blk.new' rfl | refine Blk.drew ?_ | refine Blk.alloc ?_ _)), (by repeat (first | exact B3.out | exact Blk.new' (by simp; done) | exact Blk.new' rfl | refine Blk.drew ?_ | refine Blk.alloc ?_ _)), (by repeat (first | exact B4.out | exact Blk.new' (by simp; done) | exact Blk.new' rfl | refine Blk.drew ?_ | refine Blk.alloc ?_ _)), (by repeat (first | exact HB.out | refine below_alloc ?_ _ | refine Below.drew ?_ | refine below_set ?_ (by omega) _))⟩ (fun w4 hS => ?_)
  clear p2_2 k2_0 p4_0 k4_0
  refine wpAnyH_take (i := 0) (v := ?_) (op_at rfl) (by kernel_rfl) (by kernel_rfl) (by kernel_rfl) (fun _ _ _ h => h) (Or.inl ⟨by rfl, ?_⟩) hS ?_; rotate_left; focus ((intro w' hSw; obtain ⟨-, -, -, -, q, -⟩ := hSw; have c0 := q.at_ (i := 0) (v := .pointer (some ⟨eb, 0, none⟩)) rfl; clear q; go_simp) <;> with_reducible rfl)
  try simp only [Act.put, List.setIfInBounds_toArray, List.set_cons_zero, List.set_cons_succ]
  refine wpAnyH_take (i := 1) (v := ?_) (op_at rfl) (by kernel_rfl) (by kernel_rfl) (by kernel_rfl) (fun _ _ _ h => h) (Or.inl ⟨by rfl, ?_⟩) hS ?_; rotate_left; focus ((intro w' hSw; clear hSw; go_simp) <;> with_reducible rfl)
  try simp only [Act.put, List.setIfInBounds_toArray, List.set_cons_zero, List.set_cons_succ]
  refine wpAnyH_take (i := 2) (v := ?_) (op_at rfl) (by kernel_rfl) (by kernel_rfl) (by kernel_rfl) (fun _ _ _ h => h) (Or.inl ⟨by rfl, ?_⟩) hS ?_; rotate_left; focus ((intro w' hSw; clear hSw; go_simp) <;> with_reducible rfl)
  try simp only [Act.put, List.setIfInBounds_toArray, List.set_cons_zero, List.set_cons_succ]
  refine wpAnyH_take (i := 3) (v := ?_) (op_at rfl) (by kernel_rfl) (by kernel_rfl) (by kernel_rfl) (fun _ _ _ h => h) (Or.inl ⟨by rfl, ?_⟩) hS ?_; rotate_left; focus ((intro w' hSw; clear hSw; go_simp) <;> with_reducible rfl)
  try simp only [Act.put, List.setIfInBounds_toArray, List.set_cons_zero, List.set_cons_succ]
  refine wpAnyH_take (i := 4) (v := ?_) (op_at rfl) (by kernel_rfl) (by kernel_rfl) (by kernel_rfl) (fun _ _ _ h => h) (Or.inl ⟨by rfl, ?_⟩) hS ?_; rotate_left; focus ((intro w' hSw; obtain ⟨-, -, q, -⟩ := hSw; have c0 := q.at_ (i := 0) (v := .slice (some ⟨g, 0, none⟩) l.length c') rfl; clear q; go_simp) <;> with_reducible rfl)
  try simp only [Act.put, List.setIfInBounds_toArray, List.set_cons_zero, List.set_cons_succ]
  refine wpAnyH_take (i := 5) (v := ?_) (op_at rfl) (by kernel_rfl) (by kernel_rfl) (by kernel_rfl) (fun _ _ _ h => h) (Or.inl ⟨by rfl, ?_⟩) hS ?_; rotate_left; focus ((intro w' hSw; obtain ⟨-, q, -⟩ := hSw; have c0 := q.at_ (i := 0) (v := .int .i64 c) rfl; clear q; go_simp) <;> with_reducible rfl)
  try simp only [Act.put, List.setIfInBounds_toArray, List.set_cons_zero, List.set_cons_succ]
  refine wpAnyH_take (i := 6) (v := ?_) (op_at rfl) (by kernel_rfl) (by kernel_rfl) (by kernel_rfl) (fun _ _ _ h => h) (Or.inl ⟨by rfl, ?_⟩) hS ?_; rotate_left; focus ((intro w' hSw; clear hSw; go_simp) <;> with_reducible rfl)
  try simp only [Act.put, List.setIfInBounds_toArray, List.set_cons_zero, List.set_cons_succ]
  refine wpAnyH_take (i := 7) (v := ?_) (op_at rfl) (by kernel_rfl) (by kernel_rfl) (by kernel_rfl) (fun _ _ _ h => h) (Or.inl ⟨by rfl, ?_⟩) hS ?_; rotate_left; focus ((intro w' hSw; obtain ⟨-, -, -, q, -⟩ := hSw; have c0 : w'.cell? ⟨g, c * 8, none⟩ = some (.int .i64 x.par) := q.at_ HC0.out; have c1 : w'.cell? ⟨g, c * 8 + 1, none⟩ = some (.int .i64 x.st) := q.at_ HC1.out; have c2 : w'.cell? ⟨g, c * 8 + 2, none⟩ = some (.int .i64 x.cur.lv) := q.at_ HC2.out; have c3 : w'.cell? ⟨g, c * 8 + 3, none⟩ = some (.int .u64 (u x.cur.c)) := q.at_ HC3.out; have c4 : w'.cell? ⟨g, c * 8 + 4, none⟩ = some (.int .i64 x.cur.ig) := q.at_ HC4.out; have c5 : w'.cell? ⟨g, c * 8 + 5, none⟩ = some (.int .i64 x.high.lv) := q.at_ HC5.out; have c6 : w'.cell? ⟨g, c * 8 + 6, none⟩ = some (.int .u64 (u x.high.c)) := q.at_ HC6.out; have c7 : w'.cell? ⟨g, c * 8 + 7, none⟩ = some (.int .i64 x.high.ig) := q.at_ HC7.out; clear q; go_simp) <;> with_reducible rfl)
  try simp only [Act.put, List.setIfInBounds_toArray, List.set_cons_zero, List.set_cons_succ]
  refine wpAnyH_ready (rs := [8]) (by kernel_rfl) (by simp) ?_
  refine (AllReadyH.cons (op_at rfl) (fun K hK => ?_) AllReadyH.nil)
  go_simp
  obtain ⟨b0, b1, b2, b3, b4, hb⟩ := hS
  have N0 : Hid (Blk (w4.alloc (.cells #[.int .i64 0, .int .i64 0, .int .i64 0, .int .u64 0, .int .i64 0, .int .i64 0, .int .u64 0, .int .i64 0] 41)) w4.heap.size 41 #[.int .i64 0, .int .i64 0, .int .i64 0, .int .u64 0, .int .i64 0, .int .i64 0, .int .u64 0, .int .i64 0]) := Lib.hid (Blk.new' rfl)
  have d0_N0 : w.heap.size ≠ w4.heap.size := Nat.ne_of_lt b0.lt
  have d1_N0 : w.heap.size + 1 ≠ w4.heap.size := Nat.ne_of_lt b1.lt
  have d2_N0 : eb ≠ w4.heap.size := Nat.ne_of_lt b2.lt
  have d3_N0 : g ≠ w4.heap.size := Nat.ne_of_lt b3.lt
  have d4_N0 : w1.heap.size ≠ w4.heap.size := Nat.ne_of_lt b4.lt
  have dd_N0 : w.heap.size ≤ w4.heap.size := hb.size
  refine hK.out _ _ ⟨b0.alloc _, b1.alloc _, b2.alloc _, b3.alloc _, b4.alloc _, below_alloc hb _⟩ (fun hS => ?_)
  clear hK K b0 b1 b2 b3 b4 hb
  try simp only [Act.put, List.setIfInBounds_toArray, List.set_cons_zero, List.set_cons_succ]
  refine wpAnyH_ready (rs := [9]) (by kernel_rfl) (by simp) ?_
  refine (AllReadyH.cons (op_at rfl) (fun K hK => ?_) AllReadyH.nil)
  go_simp
  obtain ⟨b0, b1, b2, b3, b4, hb⟩ := hS
  refine hK.out _ _ ⟨(Blk.realloc b0 d0_N0), (Blk.realloc b1 d1_N0), (Blk.realloc b2 d2_N0), (Blk.realloc b3 d3_N0), (Blk.realloc b4 d4_N0), (below_realloc hb dd_N0)⟩ (fun hS => ?_)
  replace N0 : Hid (Blk (w4.alloc (.cells #[.int .i64 x.par, .int .i64 x.st, .int .i64 x.cur.lv, .int .u64 (u x.cur.c), .int .i64 x.cur.ig, .int .i64 x.high.lv, .int .u64 (u x.high.c), .int .i64 x.high.ig] 41)) w4.heap.size 41 #[.int .i64 x.par, .int .i64 x.st, .int .i64 x.cur.lv, .int .u64 (u x.cur.c), .int .i64 x.cur.ig, .int .i64 x.high.lv, .int .u64 (u x.high.c), .int .i64 x.high.ig]) := Lib.hid (Blk.new' rfl)
  clear hK K b0 b1 b2 b3 b4 hb
  try simp only [Act.put, List.setIfInBounds_toArray, List.set_cons_zero, List.set_cons_succ]
  refine wpAnyH_done (by kernel_rfl) ?_ _
  obtain ⟨b0, b1, b2, b3, b4, hb⟩ := hS
  replace B0 := Lib.hid b0
  clear b0
  replace B1 := Lib.hid b1
  clear b1
  replace B2 := Lib.hid b2
  clear b2
  replace B3 := Lib.hid b3
  clear b3
  replace B4 := Lib.hid b4
  clear b4
  have B6 := N0
  clear N0
  replace HB := Lib.hid hb
  clear hb
  generalize w4.alloc (.cells #[.int .i64 x.par, .int .i64 x.st, .int .i64 x.cur.lv, .int .u64 (u x.cur.c), .int .i64 x.cur.ig, .int .i64 x.high.lv, .int .u64 (u x.high.c), .int .i64 x.high.ig] 41) = w5 at B0 B1 B2 B3 B4 B6 HB ⊢
  have p0_0 := B0.out.at_ (i := 0) (v := .int .i64 (k : Int)) rfl
  have k0_0 : w.heap.size < w5.heap.size := by have := B0.out.lt; omega
  have k0_1 : w.heap.size < w5.heap.size + 1 := by have := B0.out.lt; omega
  have p4_0 := B4.out.at_ (i := 0) (v := .pointer (some ⟨eb, 0, none⟩)) rfl
  have k4_0 : w1.heap.size < w5.heap.size := by have := B4.out.lt; omega
  have k4_1 : w1.heap.size < w5.heap.size + 1 := by have := B4.out.lt; omega
  have p6_0 := B6.out.at_ (i := 0) (v := .int .i64 x.par) rfl
  have p6_1 := B6.out.at_ (i := 1) (v := .int .i64 x.st) rfl
  have k6_0 : w4.heap.size < w5.heap.size := by have := B6.out.lt; omega
  have k6_1 : w4.heap.size < w5.heap.size + 1 := by have := B6.out.lt; omega
  go_wp2_with fail
  refine (must_any (k : Int) none [(true, 162)] eb (.slice (some ⟨g, 0, none⟩) l.length c') _ _ (by repeat (first | exact B2.out | exact Blk.new' (by simp; done) | exact Blk.new' rfl | refine Blk.drew ?_ | refine Blk.alloc ?_ _)) (RowsAt.of_blk (cs := #[.bool true, .int .i64 162]) (l := [(true, 162)]) (cap := 1) encC_size (Blk.new' rfl) ⟨[], rfl⟩ (by simp) (by decide)) (fun b off m c h => by cases h; have := B2.out.lt; omega)).mono ?_
  rintro e w6 ⟨rfl, hT, hB⟩
  replace HB := Lib.hid (below_turns (w := w) (by repeat (first | exact HB.out | refine below_alloc ?_ _ | refine Below.drew ?_ | refine below_set ?_ (by omega) _)) hB (by first | omega | simp))
  have z6 : w.heap.size ≤ w6.heap.size := HB.out.size
  replace B0 : Hid (Blk w6 (w.heap.size) 3 #[.int .i64 (k : Int)]) := Lib.hid (Blk.turned (by repeat (first | exact B0.out | exact Blk.new' (by simp; done) | exact Blk.new' rfl | refine Blk.drew ?_ | refine Blk.alloc ?_ _)) hB (by omega))
  replace B1 : Hid (Blk w6 (w.heap.size + 1) 3 #[.int .i64 c]) := Lib.hid (Blk.turned (by repeat (first | exact B1.out | exact Blk.new' (by simp; done) | exact Blk.new' rfl | refine Blk.drew ?_ | refine Blk.alloc ?_ _)) hB (by omega))
  replace B2 : Hid (Blk w6 (eb) 63 #[.slice (some ⟨g, 0, none⟩) l.length c', .int .i64 (k : Int), .nilIface]) := Lib.hid hT
  replace B3 : Hid (Blk w6 (g) 41 cs) := Lib.hid (Blk.turned (by repeat (first | exact B3.out | exact Blk.new' (by simp; done) | exact Blk.new' rfl | refine Blk.drew ?_ | refine Blk.alloc ?_ _)) hB (by omega))
  replace B4 : Hid (Blk w6 (w1.heap.size) 54 #[.pointer (some ⟨eb, 0, none⟩)]) := Lib.hid (Blk.turned (by repeat (first | exact B4.out | exact Blk.new' (by simp; done) | exact Blk.new' rfl | refine Blk.drew ?_ | refine Blk.alloc ?_ _)) hB (by omega))
  replace B6 : Hid (Blk w6 (w4.heap.size) 41 #[.int .i64 x.par, .int .i64 x.st, .int .i64 x.cur.lv, .int .u64 (u x.cur.c), .int .i64 x.cur.ig, .int .i64 x.high.lv, .int .u64 (u x.high.c), .int .i64 x.high.ig]) := Lib.hid (Blk.turned (by repeat (first | exact B6.out | exact Blk.new' (by simp; done) | exact Blk.new' rfl | refine Blk.drew ?_ | refine Blk.alloc ?_ _)) hB (by omega))
  clear hT
  clear p0_0 k0_0 k0_1 p4_0 k4_0 k4_1 p6_0 p6_1 k6_0 k6_1
  clear hB
  have p4_0 := B4.out.at_ (i := 0) (v := .pointer (some ⟨eb, 0, none⟩)) rfl
  have k4_0 : w1.heap.size < w6.heap.size := by have := B4.out.lt; omega
  go_wp2_with fail
  refine (edit_start_no (k : Int) 120 eb l.length c' (some ⟨g, 0, none⟩) _ _ (fun W' => Blk W' eb 63 #[.slice (some ⟨g, 0, none⟩) l.length c', .int .i64 (k : Int), .iface 85 (.agg #[.int .i64 (k : Int), .iface 83 (.agg #[.int .i64 120])])] ∧ Below w.heap.size w W') (by repeat (first | exact B2.out | exact Blk.new' (by simp; done) | exact Blk.new' rfl | refine Blk.drew ?_ | refine Blk.alloc ?_ _)) (start_do_no (w1.heap.size) (w.heap.size) (w4.heap.size) (w.heap.size + 1) eb g l.length c' k c (k : Int) p x l r cs w _ (by repeat (first | exact HB.out | refine below_alloc ?_ _ | refine Below.drew ?_ | refine below_set ?_ (by omega) _)) (by repeat (first | exact B4.out | exact Blk.new' (by simp; done) | exact Blk.new' rfl | refine Blk.drew ?_ | refine Blk.alloc ?_ _)) (by repeat (first | exact B0.out | exact Blk.new' (by simp; done) | exact Blk.new' rfl | refine Blk.drew ?_ | refine Blk.alloc ?_ _)) (by repeat (first | exact B6.out | exact Blk.new' (by simp; done) | exact Blk.new' rfl | refine Blk.drew ?_ | refine Blk.alloc ?_ _)) (by repeat (first | exact B1.out | exact Blk.new' (by simp; done) | exact Blk.new' rfl | refine Blk.drew ?_ | refine Blk.alloc ?_ _)) (by repeat (first | exact B2.out | exact Blk.new' (by simp; done) | exact Blk.new' rfl | refine Blk.drew ?_ | refine Blk.alloc ?_ _)) (by repeat (first | exact B3.out | exact Blk.new' (by simp; done) | exact Blk.new' rfl | refine Blk.drew ?_ | refine Blk.alloc ?_ _)) hkl hcl HR.out HP.out HX.out HU.out (by omega) (by omega) (by omega) (by omega) (by omega) (by omega) (by omega) (by omega) (by omega) (by omega) (by omega)) (fun W' h => ⟨h.1, HH.out.up h.2⟩)).mono ?_
  rintro e w7 ⟨rfl, w9, ⟨hE2, hB2⟩, hB⟩
  have HB9 := Lib.hid (below_call hB2 hB)
  clear hE2 hB2 hB
  clear p4_0 k4_0
  go_wp2_with fail
  go_ret2
  exact ⟨_, rfl, RowsAt.nil _ _, HB9.out⟩
set_option maxRecDepth 100000 in
set_option maxHeartbeats 4000000 in
theorem Start_e (l : List Sub) (v : Value)  (c : Nat) (x : Sub) (k : Nat) (p : Sub) (w : World) (hl : SubsAt w.heap.size w v l) (hh : Handle w) (hop : openO l (k : Int) = none) (hh2 : (decide ((0 : Int) ≤ (c : Int)) && decide ((c : Int) < (l.length : Int))) = true) (hx : l[c]? = some x) (hp : l[k]? = some p) (hu : underL p.cur x.high = true) (hle : l.length ≤ 1000) (hpar : (x.par == (k : Int)) = true) (hst : (x.st == 0) = true) :
    Calls Tryd.prog 12 #[v, .int .i64 (k : Int), .int .i64 c] w fun e w' => ∃ v', e = .returned (.tuple #[v', .int .i64 0]) ∧ SubsAt w'.heap.size w' v' (l.set c { x with st := 1, cur := p.cur }) ∧ Below w.heap.size w w' := by
  have hcl : c < l.length := (List.getElem?_eq_some_iff.1 hx).1
  have hcz : (0 : Int) ≤ (c : Int) := by omega
  have hcz2 : (c : Int) < (l.length : Int) := by omega
  have hkl : k < l.length := (List.getElem?_eq_some_iff.1 hp).1
  have HL := Lib.hid hl
  have HH := Lib.hid hh
  have HOP := Lib.hid hop
  have HH2 := Lib.hid hh2
  have HX := Lib.hid hx
  have HP := Lib.hid hp
  have HU := Lib.hid hu
  clear hl hh hop hh2 hx hp hu
  have HB := Lib.hid (Below.refl w.heap.size w)
  go_enter Tryd.func12, Tryd.ntmps12
  go_wp2_with fail
  refine (open_any l v (k : Int) _ (HL.out.later (by repeat (first | exact HB.out | refine below_alloc ?_ _ | refine Below.drew ?_ | refine below_set ?_ (by omega) _)) ((show Below w.heap.size w _ by repeat (first | exact HB.out | refine below_alloc ?_ _ | refine Below.drew ?_ | refine below_set ?_ (by omega) _))).size) hle).mono ?_
  rintro e w1 ⟨eb, v', rfl, hge, hE, hT, hne, hB⟩
  replace HB := Lib.hid (below_call (w := w) (by repeat (first | exact HB.out | refine below_alloc ?_ _ | refine Below.drew ?_ | refine below_set ?_ (by omega) _)) hB)
  have z1 : w.heap.size ≤ w1.heap.size := HB.out.size
  have B0 : Hid (Blk w1 (w.heap.size) 3 #[.int .i64 (k : Int)]) := Lib.hid (Blk.after (by repeat (first | exact Blk.new' (by simp; done) | exact Blk.new' rfl | refine Blk.drew ?_ | refine Blk.alloc ?_ _)) hB)
  have B1 : Hid (Blk w1 (w.heap.size + 1) 3 #[.int .i64 c]) := Lib.hid (Blk.after (by repeat (first | exact Blk.new' (by simp; done) | exact Blk.new' rfl | refine Blk.drew ?_ | refine Blk.alloc ?_ _)) hB)
  clear hB
  obtain ⟨A', c', rfl⟩ := hT.slice
  have zg : w.heap.size + 2 ≤ eb := by simp at hge; omega
  have ze : eb < w1.heap.size := hE.lt
  rw [HOP.out] at hE
  obtain ⟨g, cs, rfl, _, hg, hG, hc1, hc2, r, hr⟩ := hT.cons HX.out
  have zh : w.heap.size + 2 ≤ g := by simp at hg; omega
  have zi : g < w1.heap.size := hG.lt
  have zj : g ≠ eb := hne _ _ _ rfl
  have B2 := Lib.hid (show Blk w1 eb 63 #[.slice (some ⟨g, 0, none⟩) l.length c', .int .i64 (k : Int), .nilIface] from hE)
  have B3 := Lib.hid hG
  have HC0 : Hid (cs[c * 8]? = some (.int .i64 x.par)) := Lib.hid (tab_cell (j := 0) hr HX.out rfl)
  have HC1 : Hid (cs[c * 8 + 1]? = some (.int .i64 x.st)) := Lib.hid (tab_cell (j := 1) hr HX.out rfl)
  have HC2 : Hid (cs[c * 8 + 2]? = some (.int .i64 x.cur.lv)) := Lib.hid (tab_cell (j := 2) hr HX.out rfl)
  have HC3 : Hid (cs[c * 8 + 3]? = some (.int .u64 (u x.cur.c))) := Lib.hid (tab_cell (j := 3) hr HX.out rfl)
  have HC4 : Hid (cs[c * 8 + 4]? = some (.int .i64 x.cur.ig)) := Lib.hid (tab_cell (j := 4) hr HX.out rfl)
  have HC5 : Hid (cs[c * 8 + 5]? = some (.int .i64 x.high.lv)) := Lib.hid (tab_cell (j := 5) hr HX.out rfl)
  have HC6 : Hid (cs[c * 8 + 6]? = some (.int .u64 (u x.high.c))) := Lib.hid (tab_cell (j := 6) hr HX.out rfl)
  have HC7 : Hid (cs[c * 8 + 7]? = some (.int .i64 x.high.ig)) := Lib.hid (tab_cell (j := 7) hr HX.out rfl)
  have HR := Lib.hid hr
  clear hE hT hne hG hr hge hg
  go_wp2_with fail
  refine wp_region_gen2 (S := (fun W' => Blk W' (w.heap.size) 3 #[.int .i64 (k : Int)] ∧ Blk W' (w.heap.size + 1) 3 #[.int .i64 c] ∧ Blk W' (g) 41 cs ∧ Blk W' (w1.heap.size) 54 #[.pointer (some ⟨eb, 0, none⟩)] ∧ Below w.heap.size w W')) (N := (fun W' => Blk W' (eb) 63 #[.slice (some ⟨g, 0, none⟩) l.length c', .int .i64 (k : Int), .nilIface])) (by kernel_rfl) ⟨(by repeat (first | exact B0.out | exact Blk.new' (by simp; done) | exact Blk.new' rfl | refine Blk.drew ?_ | refine Blk.alloc ?_ _)), (by repeat (first | exact B1.out | exact Blk.new' (by simp; done) | exact Blk.new' rfl | refine Blk.drew ?_ | refine Blk.alloc ?_ _)), (by repeat (first | exact B3.out | exact Blk.new' (by simp; done) | exact Blk.new' rfl | refine Blk.drew ?_ | refine Blk.alloc ?_ _)), (by repeat (first | exact Blk.new' (by simp; done) | exact Blk.new' rfl | refine Blk.drew ?_ | refine Blk.alloc ?_ _)), (by repeat (first | exact HB.out | refine below_alloc ?_ _ | refine Below.drew ?_ | refine below_set ?_ (by omega) _))⟩ (by repeat (first | exact B2.out | exact Blk.new' (by simp; done) | exact Blk.new' rfl | refine Blk.drew ?_ | refine Blk.alloc ?_ _)) (fun w2 hS hN => ?_)
  have n0 := hN
  have N0 := Lib.hid n0
  have d0_N0 : w.heap.size ≠ eb := by omega
  have d1_N0 : w.heap.size + 1 ≠ eb := by omega
  have d2_N0 : g ≠ eb := by omega
  have d3_N0 : w1.heap.size ≠ eb := by omega
  have dd_N0 : w.heap.size ≤ eb := by omega
  clear n0 hN
  refine wpAnyH_take (i := 0) (v := ?_) (op_at rfl) (by kernel_rfl) (by kernel_rfl) (by kernel_rfl) (fun _ _ _ h => h) (Or.inl ⟨by rfl, ?_⟩) hS ?_; rotate_left; focus ((intro w' hSw; obtain ⟨-, -, -, q, -⟩ := hSw; have c0 := q.at_ (i := 0) (v := .pointer (some ⟨eb, 0, none⟩)) rfl; clear q; go_simp) <;> with_reducible rfl)
  try simp only [Act.put, List.setIfInBounds_toArray, List.set_cons_zero, List.set_cons_succ]
  refine wpAnyH_take (i := 1) (v := ?_) (op_at rfl) (by kernel_rfl) (by kernel_rfl) (by kernel_rfl) (fun _ _ _ h => h) (Or.inl ⟨by rfl, ?_⟩) hS ?_; rotate_left; focus ((intro w' hSw; obtain ⟨-, -, -, q, -⟩ := hSw; have c0 := q.at_ (i := 0) (v := .pointer (some ⟨eb, 0, none⟩)) rfl; clear q; go_simp) <;> with_reducible rfl)
  try simp only [Act.put, List.setIfInBounds_toArray, List.set_cons_zero, List.set_cons_succ]
  refine wpAnyH_take (i := 2) (v := ?_) (op_at rfl) (by kernel_rfl) (by kernel_rfl) (by kernel_rfl) (fun _ _ _ h => h) (Or.inl ⟨by rfl, ?_⟩) hS ?_; rotate_left; focus ((intro w' hSw; clear hSw; go_simp) <;> with_reducible rfl)
  try simp only [Act.put, List.setIfInBounds_toArray, List.set_cons_zero, List.set_cons_succ]
  refine wpAnyH_take (i := 3) (v := ?_) (op_at rfl) (by kernel_rfl) (by kernel_rfl) (by kernel_rfl) (fun _ _ _ h => h) (Or.inl ⟨by rfl, ?_⟩) hS ?_; rotate_left; focus ((intro w' hSw; clear hSw; go_simp) <;> with_reducible rfl)
  try simp only [Act.put, List.setIfInBounds_toArray, List.set_cons_zero, List.set_cons_succ]
  refine wpAnyH_take (i := 4) (v := ?_) (op_at rfl) (by kernel_rfl) (by kernel_rfl) (by kernel_rfl) (fun _ _ _ h => h) (Or.inl ⟨by rfl, ?_⟩) hS ?_; rotate_left; focus ((intro w' hSw; obtain ⟨-, q, -⟩ := hSw; have c0 := q.at_ (i := 0) (v := .int .i64 c) rfl; clear q; go_simp) <;> with_reducible rfl)
  try simp only [Act.put, List.setIfInBounds_toArray, List.set_cons_zero, List.set_cons_succ]
  refine wpAnyH_ready (rs := [5]) (by kernel_rfl) (by simp) ?_
  refine (AllReadyH.cons (op_at rfl) (fun K hK => ?_) AllReadyH.nil)
  go_simp
  obtain ⟨b0, b1, b2, b3, hb⟩ := hS
  refine (hasIs HH2.out (N0.out.at_ (i := 0) (v := .slice (some ⟨g, 0, none⟩) l.length c') rfl)).mono ?_
  rintro e w' ⟨rfl, rfl⟩
  refine hK.out _ _ ⟨b0, b1, b2, b3, hb⟩ (fun hS => ?_)
  clear hK K b0 b1 b2 b3 hb
  try simp only [Act.put, List.setIfInBounds_toArray, List.set_cons_zero, List.set_cons_succ]
  refine wpAnyH_take (i := 6) (v := ?_) (op_at rfl) (by kernel_rfl) (by kernel_rfl) (by kernel_rfl) (fun _ _ _ h => h) (Or.inl ⟨by rfl, ?_⟩) hS ?_; rotate_left; focus ((intro w' hSw; clear hSw; go_simp) <;> with_reducible rfl)
  try simp only [Act.put, List.setIfInBounds_toArray, List.set_cons_zero, List.set_cons_succ]
  refine wpAnyH_ready (rs := [7]) (by kernel_rfl) (by simp) ?_
  refine (AllReadyH.cons (op_at rfl) (fun K hK => ?_) AllReadyH.nil)
  go_simp
  have dx0_1 : eb ≠ w2.heap.size := Nat.ne_of_lt N0.out.lt
  replace N0 := Lib.hid (N0.out.alloc (.cells #[.bool true, .int .i64 162] 65))
  obtain ⟨b0, b1, b2, b3, hb⟩ := hS
  have N1 : Hid (Blk (w2.alloc (.cells #[.bool true, .int .i64 162] 65)) w2.heap.size 65 #[.bool true, .int .i64 162]) := Lib.hid (Blk.new' rfl)
  have d0_N1 : w.heap.size ≠ w2.heap.size := Nat.ne_of_lt b0.lt
  have d1_N1 : w.heap.size + 1 ≠ w2.heap.size := Nat.ne_of_lt b1.lt
  have d2_N1 : g ≠ w2.heap.size := Nat.ne_of_lt b2.lt
  have d3_N1 : w1.heap.size ≠ w2.heap.size := Nat.ne_of_lt b3.lt
  have dd_N1 : w.heap.size ≤ w2.heap.size := hb.size
  refine hK.out _ _ ⟨b0.alloc _, b1.alloc _, b2.alloc _, b3.alloc _, below_alloc hb _⟩ (fun hS => ?_)
  clear hK K b0 b1 b2 b3 hb
  try simp only [Act.put, List.setIfInBounds_toArray, List.set_cons_zero, List.set_cons_succ]
  refine wpAnyH_ready (rs := [8]) (by kernel_rfl) (by simp) ?_
  refine (AllReadyH.cons (op_at rfl) (fun K hK => ?_) AllReadyH.nil)
  go_simp
  obtain ⟨b0, b1, b2, b3, hb⟩ := hS
  refine (must_any (k : Int) none [(true, 162)] eb (.slice (some ⟨g, 0, none⟩) l.length c') _ _ N0.out (RowsAt.of_blk (cs := #[.bool true, .int .i64 162]) (l := [(true, 162)]) (cap := 1) encC_size (Blk.new' rfl) ⟨[], rfl⟩ (by simp) (by decide)) (fun b off m c h => by cases h; omega)).mono ?_
  rintro e w3 ⟨rfl, hT, hB⟩
  replace N0 : Hid (Blk w3 (eb) 63 #[.slice (some ⟨g, 0, none⟩) l.length c', .int .i64 (k : Int), .nilIface]) := Lib.hid hT
  replace N1 := Lib.hid (N1.out.turned hB (by omega))
  refine hK.out _ _ ⟨b0.turned hB (by omega), b1.turned hB (by omega), b2.turned hB (by omega), b3.turned hB (by omega), below_turns hb hB (by omega)⟩ (fun hS => ?_)
  clear hK K hT hB b0 b1 b2 b3 hb
  try simp only [Act.put, List.setIfInBounds_toArray, List.set_cons_zero, List.set_cons_succ]
  refine wpAnyH_done (by kernel_rfl) ?_ _
  obtain ⟨b0, b1, b2, b3, hb⟩ := hS
  replace B0 := Lib.hid b0
  clear b0
  replace B1 := Lib.hid b1
  clear b1
  replace B3 := Lib.hid b2
  clear b2
  replace B4 := Lib.hid b3
  clear b3
  replace B2 := N0
  clear N0
  have B5 := N1
  clear N1
  replace HB := Lib.hid hb
  clear hb
  have p2_2 := B2.out.at_ (i := 2) (v := .nilIface) rfl
  have k2_0 : eb < w3.heap.size := by have := B2.out.lt; omega
  have p4_0 := B4.out.at_ (i := 0) (v := .pointer (some ⟨eb, 0, none⟩)) rfl
  have k4_0 : w1.heap.size < w3.heap.size := by have := B4.out.lt; omega
  go_wp2_with fail
  refine wp_region_gen (S := (fun W' => Blk W' (w.heap.size) 3 #[.int .i64 (k : Int)] ∧ Blk W' (w.heap.size + 1) 3 #[.int .i64 c] ∧ Blk W' (eb) 63 #[.slice (some ⟨g, 0, none⟩) l.length c', .int .i64 (k : Int), .nilIface] ∧ Blk W' (g) 41 cs ∧ Blk W' (w1.heap.size) 54 #[.pointer (some ⟨eb, 0, none⟩)] ∧ Below w.heap.size w W')) (by kernel_rfl) ⟨(by repeat (first | exact B0.out | exact Blk.new' (by simp; done) | exact Blk.new' rfl | refine Blk.drew ?_ | refine Blk.alloc ?_ _)), (by repeat (first | exact B1.out | exact Blk.new' (by simp; done) | exact Blk.new' rfl | refine Blk.drew ?_ | refine Blk.alloc ?_ _)), (by repeat (first | exact B2.out | exact Blk.new' (by simp; done) | exact Blk.new' rfl | refine Blk.drew ?_ | refine Blk.alloc ?_ _)), (by repeat (first | exact B3.out | exact Blk.new' (by simp; done) | exact Blk.new' rfl | refine Blk.drew ?_ | refine Blk.alloc ?_ _)), (by repeat (first | exact B4.out | exact Blk.new' (by simp; done) | exact Blk.new' rfl | refine Blk.drew ?_ | refine Blk.alloc ?_ _)), (by repeat (first | exact HB.out | refine below_alloc ?_ _ | refine Below.drew ?_ | refine below_set ?_ (by omega) _))⟩ (fun w4 hS => ?_)
  clear p2_2 k2_0 p4_0 k4_0
  refine wpAnyH_take (i := 0) (v := ?_) (op_at rfl) (by kernel_rfl) (by kernel_rfl) (by kernel_rfl) (fun _ _ _ h => h) (Or.inl ⟨by rfl, ?_⟩) hS ?_; rotate_left; focus ((intro w' hSw; obtain ⟨-, -, -, -, q, -⟩ := hSw; have c0 := q.at_ (i := 0) (v := .pointer (some ⟨eb, 0, none⟩)) rfl; clear q; go_simp) <;> with_reducible rfl)
  try simp only [Act.put, List.setIfInBounds_toArray, List.set_cons_zero, List.set_cons_succ]
  refine wpAnyH_take (i := 1) (v := ?_) (op_at rfl) (by kernel_rfl) (by kernel_rfl) (by kernel_rfl) (fun _ _ _ h => h) (Or.inl ⟨by rfl, ?_⟩) hS ?_; rotate_left; focus ((intro w' hSw; clear hSw; go_simp) <;> with_reducible rfl)
  try simp only [Act.put, List.setIfInBounds_toArray, List.set_cons_zero, List.set_cons_succ]
  refine wpAnyH_take (i := 2) (v := ?_) (op_at rfl) (by kernel_rfl) (by kernel_rfl) (by kernel_rfl) (fun _ _ _ h => h) (Or.inl ⟨by rfl, ?_⟩) hS ?_; rotate_left; focus ((intro w' hSw; clear hSw; go_simp) <;> with_reducible rfl)
  try simp only [Act.put, List.setIfInBounds_toArray, List.set_cons_zero, List.set_cons_succ]
  refine wpAnyH_take (i := 3) (v := ?_) (op_at rfl) (by kernel_rfl) (by kernel_rfl) (by kernel_rfl) (fun _ _ _ h => h) (Or.inl ⟨by rfl, ?_⟩) hS ?_; rotate_left; focus ((intro w' hSw; clear hSw; go_simp) <;> with_reducible rfl)
  try simp only [Act.put, List.setIfInBounds_toArray, List.set_cons_zero, List.set_cons_succ]
  refine wpAnyH_take (i := 4) (v := ?_) (op_at rfl) (by kernel_rfl) (by kernel_rfl) (by kernel_rfl) (fun _ _ _ h => h) (Or.inl ⟨by rfl, ?_⟩) hS ?_; rotate_left; focus ((intro w' hSw; obtain ⟨-, -, q, -⟩ := hSw; have c0 := q.at_ (i := 0) (v := .slice (some ⟨g, 0, none⟩) l.length c') rfl; clear q; go_simp) <;> with_reducible rfl)
  try simp only [Act.put, List.setIfInBounds_toArray, List.set_cons_zero, List.set_cons_succ]
  refine wpAnyH_take (i := 5) (v := ?_) (op_at rfl) (by kernel_rfl) (by kernel_rfl) (by kernel_rfl) (fun _ _ _ h => h) (Or.inl ⟨by rfl, ?_⟩) hS ?_; rotate_left; focus ((intro w' hSw; obtain ⟨-, q, -⟩ := hSw; have c0 := q.at_ (i := 0) (v := .int .i64 c) rfl; clear q; go_simp) <;> with_reducible rfl)
  try simp only [Act.put, List.setIfInBounds_toArray, List.set_cons_zero, List.set_cons_succ]
  refine wpAnyH_take (i := 6) (v := ?_) (op_at rfl) (by kernel_rfl) (by kernel_rfl) (by kernel_rfl) (fun _ _ _ h => h) (Or.inl ⟨by rfl, ?_⟩) hS ?_; rotate_left; focus ((intro w' hSw; clear hSw; go_simp) <;> with_reducible rfl)
  try simp only [Act.put, List.setIfInBounds_toArray, List.set_cons_zero, List.set_cons_succ]
  refine wpAnyH_take (i := 7) (v := ?_) (op_at rfl) (by kernel_rfl) (by kernel_rfl) (by kernel_rfl) (fun _ _ _ h => h) (Or.inl ⟨by rfl, ?_⟩) hS ?_; rotate_left; focus ((intro w' hSw; obtain ⟨-, -, -, q, -⟩ := hSw; have c0 : w'.cell? ⟨g, c * 8, none⟩ = some (.int .i64 x.par) := q.at_ HC0.out; have c1 : w'.cell? ⟨g, c * 8 + 1, none⟩ = some (.int .i64 x.st) := q.at_ HC1.out; have c2 : w'.cell? ⟨g, c * 8 + 2, none⟩ = some (.int .i64 x.cur.lv) := q.at_ HC2.out; have c3 : w'.cell? ⟨g, c * 8 + 3, none⟩ = some (.int .u64 (u x.cur.c)) := q.at_ HC3.out; have c4 : w'.cell? ⟨g, c * 8 + 4, none⟩ = some (.int .i64 x.cur.ig) := q.at_ HC4.out; have c5 : w'.cell? ⟨g, c * 8 + 5, none⟩ = some (.int .i64 x.high.lv) := q.at_ HC5.out; have c6 : w'.cell? ⟨g, c * 8 + 6, none⟩ = some (.int .u64 (u x.high.c)) := q.at_ HC6.out; have c7 : w'.cell? ⟨g, c * 8 + 7, none⟩ = some (.int .i64 x.high.ig) := q.at_ HC7.out; clear q; go_simp) <;> with_reducible rfl)
  try simp only [Act.put, List.setIfInBounds_toArray, List.set_cons_zero, List.set_cons_succ]
  refine wpAnyH_ready (rs := [8]) (by kernel_rfl) (by simp) ?_
  refine (AllReadyH.cons (op_at rfl) (fun K hK => ?_) AllReadyH.nil)
  go_simp
  obtain ⟨b0, b1, b2, b3, b4, hb⟩ := hS
  have N0 : Hid (Blk (w4.alloc (.cells #[.int .i64 0, .int .i64 0, .int .i64 0, .int .u64 0, .int .i64 0, .int .i64 0, .int .u64 0, .int .i64 0] 41)) w4.heap.size 41 #[.int .i64 0, .int .i64 0, .int .i64 0, .int .u64 0, .int .i64 0, .int .i64 0, .int .u64 0, .int .i64 0]) := Lib.hid (Blk.new' rfl)
  have d0_N0 : w.heap.size ≠ w4.heap.size := Nat.ne_of_lt b0.lt
  have d1_N0 : w.heap.size + 1 ≠ w4.heap.size := Nat.ne_of_lt b1.lt
  have d2_N0 : eb ≠ w4.heap.size := Nat.ne_of_lt b2.lt
  have d3_N0 : g ≠ w4.heap.size := Nat.ne_of_lt b3.lt
  have d4_N0 : w1.heap.size ≠ w4.heap.size := Nat.ne_of_lt b4.lt
  have dd_N0 : w.heap.size ≤ w4.heap.size := hb.size
  refine hK.out _ _ ⟨b0.alloc _, b1.alloc _, b2.alloc _, b3.alloc _, b4.alloc _, below_alloc hb _⟩ (fun hS => ?_)
  clear hK K b0 b1 b2 b3 b4 hb
  try simp only [Act.put, List.setIfInBounds_toArray, List.set_cons_zero, List.set_cons_succ]
  refine wpAnyH_ready (rs := [9]) (by kernel_rfl) (by simp) ?_
  refine (AllReadyH.cons (op_at rfl) (fun K hK => ?_) AllReadyH.nil)
  go_simp
  obtain ⟨b0, b1, b2, b3, b4, hb⟩ := hS
  refine hK.out _ _ ⟨(Blk.realloc b0 d0_N0), (Blk.realloc b1 d1_N0), (Blk.realloc b2 d2_N0), (Blk.realloc b3 d3_N0), (Blk.realloc b4 d4_N0), (below_realloc hb dd_N0)⟩ (fun hS => ?_)
  replace N0 : Hid (Blk (w4.alloc (.cells #[.int .i64 x.par, .int .i64 x.st, .int .i64 x.cur.lv, .int .u64 (u x.cur.c), .int .i64 x.cur.ig, .int .i64 x.high.lv, .int .u64 (u x.high.c), .int .i64 x.high.ig] 41)) w4.heap.size 41 #[.int .i64 x.par, .int .i64 x.st, .int .i64 x.cur.lv, .int .u64 (u x.cur.c), .int .i64 x.cur.ig, .int .i64 x.high.lv, .int .u64 (u x.high.c), .int .i64 x.high.ig]) := Lib.hid (Blk.new' rfl)
  clear hK K b0 b1 b2 b3 b4 hb
  try simp only [Act.put, List.setIfInBounds_toArray, List.set_cons_zero, List.set_cons_succ]
  refine wpAnyH_done (by kernel_rfl) ?_ _
  obtain ⟨b0, b1, b2, b3, b4, hb⟩ := hS
  replace B0 := Lib.hid b0
  clear b0
  replace B1 := Lib.hid b1
  clear b1
  replace B2 := Lib.hid b2
  clear b2
  replace B3 := Lib.hid b3
  clear b3
  replace B4 := Lib.hid b4
  clear b4
  have B6 := N0
  clear N0
  replace HB := Lib.hid hb
  clear hb
  generalize w4.alloc (.cells #[.int .i64 x.par, .int .i64 x.st, .int .i64 x.cur.lv, .int .u64 (u x.cur.c), .int .i64 x.cur.ig, .int .i64 x.high.lv, .int .u64 (u x.high.c), .int .i64 x.high.ig] 41) = w5 at B0 B1 B2 B3 B4 B6 HB ⊢
  have p0_0 := B0.out.at_ (i := 0) (v := .int .i64 (k : Int)) rfl
  have k0_0 : w.heap.size < w5.heap.size := by have := B0.out.lt; omega
  have k0_1 : w.heap.size < w5.heap.size + 1 := by have := B0.out.lt; omega
  have p4_0 := B4.out.at_ (i := 0) (v := .pointer (some ⟨eb, 0, none⟩)) rfl
  have k4_0 : w1.heap.size < w5.heap.size := by have := B4.out.lt; omega
  have k4_1 : w1.heap.size < w5.heap.size + 1 := by have := B4.out.lt; omega
  have p6_0 := B6.out.at_ (i := 0) (v := .int .i64 x.par) rfl
  have p6_1 := B6.out.at_ (i := 1) (v := .int .i64 x.st) rfl
  have k6_0 : w4.heap.size < w5.heap.size := by have := B6.out.lt; omega
  have k6_1 : w4.heap.size < w5.heap.size + 1 := by have := B6.out.lt; omega
  go_wp2_with fail
  refine (must_any (k : Int) none [(true, 162)] eb (.slice (some ⟨g, 0, none⟩) l.length c') _ _ (by repeat (first | exact B2.out | exact Blk.new' (by simp; done) | exact Blk.new' rfl | refine Blk.drew ?_ | refine Blk.alloc ?_ _)) (RowsAt.of_blk (cs := #[.bool true, .int .i64 162]) (l := [(true, 162)]) (cap := 1) encC_size (Blk.new' rfl) ⟨[], rfl⟩ (by simp) (by decide)) (fun b off m c h => by cases h; have := B2.out.lt; omega)).mono ?_
  rintro e w6 ⟨rfl, hT, hB⟩
  replace HB := Lib.hid (below_turns (w := w) (by repeat (first | exact HB.out | refine below_alloc ?_ _ | refine Below.drew ?_ | refine below_set ?_ (by omega) _)) hB (by first | omega | simp))
  have z6 : w.heap.size ≤ w6.heap.size := HB.out.size
  replace B0 : Hid (Blk w6 (w.heap.size) 3 #[.int .i64 (k : Int)]) := Lib.hid (Blk.turned (by repeat (first | exact B0.out | exact Blk.new' (by simp; done) | exact Blk.new' rfl | refine Blk.drew ?_ | refine Blk.alloc ?_ _)) hB (by omega))
  replace B1 : Hid (Blk w6 (w.heap.size + 1) 3 #[.int .i64 c]) := Lib.hid (Blk.turned (by repeat (first | exact B1.out | exact Blk.new' (by simp; done) | exact Blk.new' rfl | refine Blk.drew ?_ | refine Blk.alloc ?_ _)) hB (by omega))
  replace B2 : Hid (Blk w6 (eb) 63 #[.slice (some ⟨g, 0, none⟩) l.length c', .int .i64 (k : Int), .nilIface]) := Lib.hid hT
  replace B3 : Hid (Blk w6 (g) 41 cs) := Lib.hid (Blk.turned (by repeat (first | exact B3.out | exact Blk.new' (by simp; done) | exact Blk.new' rfl | refine Blk.drew ?_ | refine Blk.alloc ?_ _)) hB (by omega))
  replace B4 : Hid (Blk w6 (w1.heap.size) 54 #[.pointer (some ⟨eb, 0, none⟩)]) := Lib.hid (Blk.turned (by repeat (first | exact B4.out | exact Blk.new' (by simp; done) | exact Blk.new' rfl | refine Blk.drew ?_ | refine Blk.alloc ?_ _)) hB (by omega))
  replace B6 : Hid (Blk w6 (w4.heap.size) 41 #[.int .i64 x.par, .int .i64 x.st, .int .i64 x.cur.lv, .int .u64 (u x.cur.c), .int .i64 x.cur.ig, .int .i64 x.high.lv, .int .u64 (u x.high.c), .int .i64 x.high.ig]) := Lib.hid (Blk.turned (by repeat (first | exact B6.out | exact Blk.new' (by simp; done) | exact Blk.new' rfl | refine Blk.drew ?_ | refine Blk.alloc ?_ _)) hB (by omega))
  clear hT
  clear p0_0 k0_0 k0_1 p4_0 k4_0 k4_1 p6_0 p6_1 k6_0 k6_1
  clear hB
  have p4_0 := B4.out.at_ (i := 0) (v := .pointer (some ⟨eb, 0, none⟩)) rfl
  have k4_0 : w1.heap.size < w6.heap.size := by have := B4.out.lt; omega
  go_wp2_with fail
  refine (edit_start_ok (k : Int) eb l.length c' (some ⟨g, 0, none⟩) _ _ (fun W' => Blk W' eb 63 #[.slice (some ⟨g, 0, none⟩) l.length c', .int .i64 (k : Int), .nilIface] ∧ (∃ cs', Blk W' g 41 cs' ∧ cs'.toList = ((l.set c { x with st := 1, cur := p.cur }).flatMap fun x => (encS x).toList) ++ r) ∧ Below w.heap.size w W') (by repeat (first | exact B2.out | exact Blk.new' (by simp; done) | exact Blk.new' rfl | refine Blk.drew ?_ | refine Blk.alloc ?_ _)) (start_do_ok (w1.heap.size) (w.heap.size) (w4.heap.size) (w.heap.size + 1) eb g l.length c' k c (k : Int) p x l r cs w _ (by repeat (first | exact HB.out | refine below_alloc ?_ _ | refine Below.drew ?_ | refine below_set ?_ (by omega) _)) (by repeat (first | exact B4.out | exact Blk.new' (by simp; done) | exact Blk.new' rfl | refine Blk.drew ?_ | refine Blk.alloc ?_ _)) (by repeat (first | exact B0.out | exact Blk.new' (by simp; done) | exact Blk.new' rfl | refine Blk.drew ?_ | refine Blk.alloc ?_ _)) (by repeat (first | exact B6.out | exact Blk.new' (by simp; done) | exact Blk.new' rfl | refine Blk.drew ?_ | refine Blk.alloc ?_ _)) (by repeat (first | exact B1.out | exact Blk.new' (by simp; done) | exact Blk.new' rfl | refine Blk.drew ?_ | refine Blk.alloc ?_ _)) (by repeat (first | exact B2.out | exact Blk.new' (by simp; done) | exact Blk.new' rfl | refine Blk.drew ?_ | refine Blk.alloc ?_ _)) (by repeat (first | exact B3.out | exact Blk.new' (by simp; done) | exact Blk.new' rfl | refine Blk.drew ?_ | refine Blk.alloc ?_ _)) hkl hcl HR.out HP.out HX.out HU.out (by omega) (by omega) (by omega) (by omega) (by omega) (by omega) (by omega) (by omega) (by omega) (by omega) (by omega)) (fun W' h => h.1)).mono ?_
  rintro e w7 ⟨rfl, hE2, ⟨cs2, hG2, hr2⟩, hB⟩
  have HG2 := Lib.hid hG2
  have HR2 := Lib.hid hr2
  have HB9 := Lib.hid hB
  clear hE2 hG2 hr2 hB
  clear p4_0 k4_0
  go_wp2_with fail
  go_ret2
  have hf := RowsAt.of_blk (l := l.set c { x with st := 1, cur := p.cur }) (cap := c') encS_size HG2.out ⟨r, HR2.out⟩ (by rw [List.length_set]; omega) (by omega)
  rw [List.length_set] at hf
  exact ⟨_, rfl, hf, HB9.out⟩
end

section
open Go.RowKit

attribute [local go_sem] u_and u_or u_andNot u_add u_sub u_bit u_eq_zero u_beq

set_option maxRecDepth 100000 in
set_option maxHeartbeats 4000000 in
theorem rStart_bad (l : List Sub) (sA : Option Addr) (sc : Nat) (who : Int) (child : Int) (y : Int) (w : World) (hl : SubsAt w.heap.size w (.slice sA l.length sc) l) (hc : exitE l who = y) (hy : (y != 0) = true) :
    Calls Tryd.prog 13 #[.slice sA l.length sc, .int .i64 who, .int .i64 child] w fun e w' => ∃ v', e = .returned (.tuple #[v', .int .i64 y]) ∧ SubsAt w'.heap.size w' v' [] ∧ Below w.heap.size w w' := by
  have HL := Lib.hid hl
  have HC := Lib.hid hc
  clear hl hc
  have HB := Lib.hid (Below.refl w.heap.size w)
  go_enter Tryd.func13, Tryd.ntmps13
  go_wp2_with fail
  refine (checkedIs HC.out HL.out).mono ?_
  rintro e w1 ⟨rfl, hB⟩
  replace HB := Lib.hid (below_call (w := w) (by repeat (first | exact HB.out | refine below_alloc ?_ _ | refine Below.drew ?_ | refine below_set ?_ (by omega) _)) hB)
  have z1 : w.heap.size ≤ w1.heap.size := HB.out.size
  clear hB
  go_wp2_with fail
  go_ret2
  exact ⟨_, rfl, RowsAt.nil _ _, (by repeat (first | exact HB.out | refine below_alloc ?_ _ | refine Below.drew ?_ | refine below_set ?_ (by omega) _))⟩
set_option maxRecDepth 100000 in
set_option maxHeartbeats 4000000 in
theorem rStart_lo (l : List Sub) (sA : Option Addr) (sc : Nat) (who : Int) (child : Int) (w : World) (hl : SubsAt w.heap.size w (.slice sA l.length sc) l) (hc : exitE l who = 0) (hlo : child < 0) :
    Calls Tryd.prog 13 #[.slice sA l.length sc, .int .i64 who, .int .i64 child] w fun e w' => ∃ v', e = .returned (.tuple #[v', .int .i64 162]) ∧ SubsAt w'.heap.size w' v' [] ∧ Below w.heap.size w w' := by
  have HL := Lib.hid hl
  have HC := Lib.hid hc
  clear hl hc
  have HB := Lib.hid (Below.refl w.heap.size w)
  go_enter Tryd.func13, Tryd.ntmps13
  go_wp2_with fail
  refine (checkedIs HC.out HL.out).mono ?_
  rintro e w1 ⟨rfl, hB⟩
  replace HB := Lib.hid (below_call (w := w) (by repeat (first | exact HB.out | refine below_alloc ?_ _ | refine Below.drew ?_ | refine below_set ?_ (by omega) _)) hB)
  have z1 : w.heap.size ≤ w1.heap.size := HB.out.size
  clear hB
  go_wp2_with fail
  go_ret2
  exact ⟨_, rfl, RowsAt.nil _ _, (by repeat (first | exact HB.out | refine below_alloc ?_ _ | refine Below.drew ?_ | refine below_set ?_ (by omega) _))⟩
set_option maxRecDepth 100000 in
set_option maxHeartbeats 4000000 in
theorem rStart_hi (l : List Sub) (sA : Option Addr) (sc : Nat) (who : Int) (child : Int) (w : World) (hl : SubsAt w.heap.size w (.slice sA l.length sc) l) (hc : exitE l who = 0) (hlo : ¬ child < 0) (hhi : (l.length : Int) ≤ child) :
    Calls Tryd.prog 13 #[.slice sA l.length sc, .int .i64 who, .int .i64 child] w fun e w' => ∃ v', e = .returned (.tuple #[v', .int .i64 162]) ∧ SubsAt w'.heap.size w' v' [] ∧ Below w.heap.size w w' := by
  have HL := Lib.hid hl
  have HC := Lib.hid hc
  clear hl hc
  have HB := Lib.hid (Below.refl w.heap.size w)
  go_enter Tryd.func13, Tryd.ntmps13
  go_wp2_with fail
  refine (checkedIs HC.out HL.out).mono ?_
  rintro e w1 ⟨rfl, hB⟩
  replace HB := Lib.hid (below_call (w := w) (by repeat (first | exact HB.out | refine below_alloc ?_ _ | refine Below.drew ?_ | refine below_set ?_ (by omega) _)) hB)
  have z1 : w.heap.size ≤ w1.heap.size := HB.out.size
  clear hB
  go_wp2_with fail
  go_ret2
  exact ⟨_, rfl, RowsAt.nil _ _, (by repeat (first | exact HB.out | refine below_alloc ?_ _ | refine Below.drew ?_ | refine below_set ?_ (by omega) _))⟩
set_option maxRecDepth 100000 in
set_option maxHeartbeats 4000000 in
theorem rStart_par (l : List Sub) (sA : Option Addr) (sc : Nat) (who : Int) (c : Nat) (x : Sub) (w : World) (hl : SubsAt w.heap.size w (.slice sA l.length sc) l) (hc : exitE l who = 0) (hx : l[c]? = some x) (hpar : (x.par != who) = true) :
    Calls Tryd.prog 13 #[.slice sA l.length sc, .int .i64 who, .int .i64 c] w fun e w' => ∃ v', e = .returned (.tuple #[v', .int .i64 162]) ∧ SubsAt w'.heap.size w' v' [] ∧ Below w.heap.size w w' := by
  have hcl : c < l.length := (List.getElem?_eq_some_iff.1 hx).1
  have hcz : (0 : Int) ≤ (c : Int) := by omega
  have hcz1 : ¬ (c : Int) < 0 := by omega
  have hcz2 : (c : Int) < (l.length : Int) := by omega
  have hcz3 : ¬ (l.length : Int) ≤ (c : Int) := by omega
  have HL := Lib.hid hl
  have HC := Lib.hid hc
  have HX := Lib.hid hx
  clear hl hc hx
  have HB := Lib.hid (Below.refl w.heap.size w)
  go_enter Tryd.func13, Tryd.ntmps13
  go_wp2_with fail
  refine (checkedIs HC.out HL.out).mono ?_
  rintro e w1 ⟨rfl, hB⟩
  replace HB := Lib.hid (below_call (w := w) (by repeat (first | exact HB.out | refine below_alloc ?_ _ | refine Below.drew ?_ | refine below_set ?_ (by omega) _)) hB)
  have z1 : w.heap.size ≤ w1.heap.size := HB.out.size
  clear hB
  obtain ⟨b, off, hA, hlt, he⟩ := (HL.out.later HB.out HB.out.size).el HX.out (Nat.le_refl _)
  subst hA
  have B0 := Lib.hid (show Els w1 (b) (off + c * 8) #[.int .i64 x.par, .int .i64 x.st, .int .i64 x.cur.lv, .int .u64 (u x.cur.c), .int .i64 x.cur.ig, .int .i64 x.high.lv, .int .u64 (u x.high.c), .int .i64 x.high.ig] from he)
  clear he hlt
  have p0_0 : w1.cell? ⟨b, off + c * 8, none⟩ = some (.int .i64 x.par) := B0.out.at_ (i := 0) (v := .int .i64 x.par) rfl
  have k0_0 : b < w1.heap.size := by have := B0.out.lt; omega
  go_wp2_with fail
  go_ret2
  exact ⟨_, rfl, RowsAt.nil _ _, (by repeat (first | exact HB.out | refine below_alloc ?_ _ | refine Below.drew ?_ | refine below_set ?_ (by omega) _))⟩
set_option maxRecDepth 100000 in
set_option maxHeartbeats 4000000 in
theorem rStart_idle (l : List Sub) (sA : Option Addr) (sc : Nat) (who : Int) (c : Nat) (x : Sub) (w : World) (hl : SubsAt w.heap.size w (.slice sA l.length sc) l) (hc : exitE l who = 0) (hx : l[c]? = some x) (hpar : (x.par != who) = false) (hst : (x.st != 0) = true) :
    Calls Tryd.prog 13 #[.slice sA l.length sc, .int .i64 who, .int .i64 c] w fun e w' => ∃ v', e = .returned (.tuple #[v', .int .i64 162]) ∧ SubsAt w'.heap.size w' v' [] ∧ Below w.heap.size w w' := by
  have hcl : c < l.length := (List.getElem?_eq_some_iff.1 hx).1
  have hcz : (0 : Int) ≤ (c : Int) := by omega
  have hcz1 : ¬ (c : Int) < 0 := by omega
  have hcz2 : (c : Int) < (l.length : Int) := by omega
  have hcz3 : ¬ (l.length : Int) ≤ (c : Int) := by omega
  have HL := Lib.hid hl
  have HC := Lib.hid hc
  have HX := Lib.hid hx
  clear hl hc hx
  have HB := Lib.hid (Below.refl w.heap.size w)
  go_enter Tryd.func13, Tryd.ntmps13
  go_wp2_with fail
  refine (checkedIs HC.out HL.out).mono ?_
  rintro e w1 ⟨rfl, hB⟩
  replace HB := Lib.hid (below_call (w := w) (by repeat (first | exact HB.out | refine below_alloc ?_ _ | refine Below.drew ?_ | refine below_set ?_ (by omega) _)) hB)
  have z1 : w.heap.size ≤ w1.heap.size := HB.out.size
  clear hB
  obtain ⟨b, off, hA, hlt, he⟩ := (HL.out.later HB.out HB.out.size).el HX.out (Nat.le_refl _)
  subst hA
  have B0 := Lib.hid (show Els w1 (b) (off + c * 8) #[.int .i64 x.par, .int .i64 x.st, .int .i64 x.cur.lv, .int .u64 (u x.cur.c), .int .i64 x.cur.ig, .int .i64 x.high.lv, .int .u64 (u x.high.c), .int .i64 x.high.ig] from he)
  clear he hlt
  have p0_0 : w1.cell? ⟨b, off + c * 8, none⟩ = some (.int .i64 x.par) := B0.out.at_ (i := 0) (v := .int .i64 x.par) rfl
  have p0_1 : w1.cell? ⟨b, off + c * 8 + 1, none⟩ = some (.int .i64 x.st) := B0.out.at_ (i := 1) (v := .int .i64 x.st) rfl
  have k0_0 : b < w1.heap.size := by have := B0.out.lt; omega
  go_wp2_with fail
  go_ret2
  exact ⟨_, rfl, RowsAt.nil _ _, (by repeat (first | exact HB.out | refine below_alloc ?_ _ | refine Below.drew ?_ | refine below_set ?_ (by omega) _))⟩
set_option maxRecDepth 100000 in
set_option maxHeartbeats 4000000 in
theorem rStart_no (l : List Sub) (sA : Option Addr) (sc : Nat) (k : Nat) (p : Sub) (c : Nat) (x : Sub) (w : World) (hl : SubsAt w.heap.size w (.slice sA l.length sc) l) (hc : exitE l (k : Int) = 0) (hx : l[c]? = some x) (hp : l[k]? = some p) (hu : underL p.cur x.high = false) (hpar : (x.par != (k : Int)) = false) (hst : (x.st != 0) = false) :
    Calls Tryd.prog 13 #[.slice sA l.length sc, .int .i64 (k : Int), .int .i64 c] w fun e w' => ∃ v', e = .returned (.tuple #[v', .int .i64 120]) ∧ SubsAt w'.heap.size w' v' [] ∧ Below w.heap.size w w' := by
  have hcl : c < l.length := (List.getElem?_eq_some_iff.1 hx).1
  have hcz : (0 : Int) ≤ (c : Int) := by omega
  have hcz1 : ¬ (c : Int) < 0 := by omega
  have hcz2 : (c : Int) < (l.length : Int) := by omega
  have hcz3 : ¬ (l.length : Int) ≤ (c : Int) := by omega
  have hkl : k < l.length := (List.getElem?_eq_some_iff.1 hp).1
  have hkz : (0 : Int) ≤ (k : Int) := by omega
  have hkz2 : (k : Int) < (l.length : Int) := by omega
  have HL := Lib.hid hl
  have HC := Lib.hid hc
  have HX := Lib.hid hx
  have HP := Lib.hid hp
  have HU := Lib.hid hu
  clear hl hc hx hp hu
  have HB := Lib.hid (Below.refl w.heap.size w)
  go_enter Tryd.func13, Tryd.ntmps13
  go_wp2_with fail
  refine (checkedIs HC.out HL.out).mono ?_
  rintro e w1 ⟨rfl, hB⟩
  replace HB := Lib.hid (below_call (w := w) (by repeat (first | exact HB.out | refine below_alloc ?_ _ | refine Below.drew ?_ | refine below_set ?_ (by omega) _)) hB)
  have z1 : w.heap.size ≤ w1.heap.size := HB.out.size
  clear hB
  obtain ⟨b, off, hA, hlt, he⟩ := (HL.out.later HB.out HB.out.size).el HX.out (Nat.le_refl _)
  subst hA
  have B0 := Lib.hid (show Els w1 (b) (off + c * 8) #[.int .i64 x.par, .int .i64 x.st, .int .i64 x.cur.lv, .int .u64 (u x.cur.c), .int .i64 x.cur.ig, .int .i64 x.high.lv, .int .u64 (u x.high.c), .int .i64 x.high.ig] from he)
  clear he hlt
  obtain ⟨b2, off2, hA2, hlt2, he2⟩ := (HL.out.later HB.out HB.out.size).el HP.out (Nat.le_refl _)
  cases hA2
  have B1 := Lib.hid (show Els w1 (b) (off + k * 8) #[.int .i64 p.par, .int .i64 p.st, .int .i64 p.cur.lv, .int .u64 (u p.cur.c), .int .i64 p.cur.ig, .int .i64 p.high.lv, .int .u64 (u p.high.c), .int .i64 p.high.ig] from he2)
  clear he2 hlt2
  have p0_0 : w1.cell? ⟨b, off + c * 8, none⟩ = some (.int .i64 x.par) := B0.out.at_ (i := 0) (v := .int .i64 x.par) rfl
  have p0_1 : w1.cell? ⟨b, off + c * 8 + 1, none⟩ = some (.int .i64 x.st) := B0.out.at_ (i := 1) (v := .int .i64 x.st) rfl
  have p0_2 : w1.cell? ⟨b, off + c * 8 + 2, none⟩ = some (.int .i64 x.cur.lv) := B0.out.at_ (i := 2) (v := .int .i64 x.cur.lv) rfl
  have p0_3 : w1.cell? ⟨b, off + c * 8 + 3, none⟩ = some (.int .u64 (u x.cur.c)) := B0.out.at_ (i := 3) (v := .int .u64 (u x.cur.c)) rfl
  have p0_4 : w1.cell? ⟨b, off + c * 8 + 4, none⟩ = some (.int .i64 x.cur.ig) := B0.out.at_ (i := 4) (v := .int .i64 x.cur.ig) rfl
  have p0_5 : w1.cell? ⟨b, off + c * 8 + 5, none⟩ = some (.int .i64 x.high.lv) := B0.out.at_ (i := 5) (v := .int .i64 x.high.lv) rfl
  have p0_6 : w1.cell? ⟨b, off + c * 8 + 6, none⟩ = some (.int .u64 (u x.high.c)) := B0.out.at_ (i := 6) (v := .int .u64 (u x.high.c)) rfl
  have p0_7 : w1.cell? ⟨b, off + c * 8 + 7, none⟩ = some (.int .i64 x.high.ig) := B0.out.at_ (i := 7) (v := .int .i64 x.high.ig) rfl
  have k0_0 : b < w1.heap.size := by have := B0.out.lt; omega
  have k0_1 : b < w1.heap.size + 1 := by have := B0.out.lt; omega
  go_wp2_with fail
  refine wp_region_gen (S := (fun W' => Els W' (b) (off + c * 8) #[.int .i64 x.par, .int .i64 x.st, .int .i64 x.cur.lv, .int .u64 (u x.cur.c), .int .i64 x.cur.ig, .int .i64 x.high.lv, .int .u64 (u x.high.c), .int .i64 x.high.ig] ∧ Els W' (b) (off + k * 8) #[.int .i64 p.par, .int .i64 p.st, .int .i64 p.cur.lv, .int .u64 (u p.cur.c), .int .i64 p.cur.ig, .int .i64 p.high.lv, .int .u64 (u p.high.c), .int .i64 p.high.ig] ∧ Blk W' (w1.heap.size) 41 #[.int .i64 x.par, .int .i64 x.st, .int .i64 x.cur.lv, .int .u64 (u x.cur.c), .int .i64 x.cur.ig, .int .i64 x.high.lv, .int .u64 (u x.high.c), .int .i64 x.high.ig] ∧ Below w.heap.size w W')) (by kernel_rfl) ⟨(by repeat (first | exact B0.out | refine Els.drew ?_ | refine Els.alloc ?_ _)), (by repeat (first | exact B1.out | refine Els.drew ?_ | refine Els.alloc ?_ _)), (by repeat (first | exact Blk.new' (by simp; done) | exact Blk.new' rfl | refine Blk.drew ?_ | refine Blk.alloc ?_ _)), (by repeat (first | exact HB.out | refine below_alloc ?_ _ | refine Below.drew ?_ | refine below_set ?_ (by omega) _))⟩ (fun w2 hS => ?_)
  clear p0_0 p0_1 p0_2 p0_3 p0_4 p0_5 p0_6 p0_7 k0_0 k0_1
  refine wpAnyH_take (i := 0) (v := ?_) (op_at rfl) (by kernel_rfl) (by kernel_rfl) (by kernel_rfl) (fun _ _ _ h => h) (Or.inl ⟨by rfl, ?_⟩) hS ?_; rotate_left; focus ((intro w' hSw; clear hSw; go_simp) <;> with_reducible rfl)
  try simp only [Act.put, List.setIfInBounds_toArray, List.set_cons_zero, List.set_cons_succ]
  refine wpAnyH_take (i := 1) (v := ?_) (op_at rfl) (by kernel_rfl) (by kernel_rfl) (by kernel_rfl) (fun _ _ _ h => h) (Or.inl ⟨by rfl, ?_⟩) hS ?_; rotate_left; focus ((intro w' hSw; clear hSw; go_simp) <;> with_reducible rfl)
  try simp only [Act.put, List.setIfInBounds_toArray, List.set_cons_zero, List.set_cons_succ]
  refine wpAnyH_take (i := 2) (v := ?_) (op_at rfl) (by kernel_rfl) (by kernel_rfl) (by kernel_rfl) (fun _ _ _ h => h) (Or.inl ⟨by rfl, ?_⟩) hS ?_; rotate_left; focus ((intro w' hSw; clear hSw; go_simp) <;> with_reducible rfl)
  try simp only [Act.put, List.setIfInBounds_toArray, List.set_cons_zero, List.set_cons_succ]
  refine wpAnyH_take (i := 3) (v := ?_) (op_at rfl) (by kernel_rfl) (by kernel_rfl) (by kernel_rfl) (fun _ _ _ h => h) (Or.inl ⟨by rfl, ?_⟩) hS ?_; rotate_left; focus ((intro w' hSw; clear hSw; go_simp) <;> with_reducible rfl)
  try simp only [Act.put, List.setIfInBounds_toArray, List.set_cons_zero, List.set_cons_succ]
  refine wpAnyH_take (i := 4) (v := ?_) (op_at rfl) (by kernel_rfl) (by kernel_rfl) (by kernel_rfl) (fun _ _ _ h => h) (Or.inl ⟨by rfl, ?_⟩) hS ?_; rotate_left; focus ((intro w' hSw; obtain ⟨-, q, -⟩ := hSw; have c2 : w'.cell? ⟨b, off + k * 8 + 2, none⟩ = some (.int .i64 p.cur.lv) := q.at_ (i := 2) (v := .int .i64 p.cur.lv) rfl; have c3 : w'.cell? ⟨b, off + k * 8 + 3, none⟩ = some (.int .u64 (u p.cur.c)) := q.at_ (i := 3) (v := .int .u64 (u p.cur.c)) rfl; have c4 : w'.cell? ⟨b, off + k * 8 + 4, none⟩ = some (.int .i64 p.cur.ig) := q.at_ (i := 4) (v := .int .i64 p.cur.ig) rfl; clear q; go_simp) <;> with_reducible rfl)
  try simp only [Act.put, List.setIfInBounds_toArray, List.set_cons_zero, List.set_cons_succ]
  refine wpAnyH_take (i := 5) (v := ?_) (op_at rfl) (by kernel_rfl) (by kernel_rfl) (by kernel_rfl) (fun _ _ _ h => h) (Or.inl ⟨by rfl, ?_⟩) hS ?_; rotate_left; focus ((intro w' hSw; clear hSw; go_simp) <;> with_reducible rfl)
  try simp only [Act.put, List.setIfInBounds_toArray, List.set_cons_zero, List.set_cons_succ]
  refine wpAnyH_take (i := 6) (v := ?_) (op_at rfl) (by kernel_rfl) (by kernel_rfl) (by kernel_rfl) (fun _ _ _ h => h) (Or.inl ⟨by rfl, ?_⟩) hS ?_; rotate_left; focus ((intro w' hSw; obtain ⟨-, -, q, -⟩ := hSw; have c5 := q.at_ (i := 5) (v := .int .i64 x.high.lv) rfl; have c6 := q.at_ (i := 6) (v := .int .u64 (u x.high.c)) rfl; have c7 := q.at_ (i := 7) (v := .int .i64 x.high.ig) rfl; clear q; go_simp) <;> with_reducible rfl)
  try simp only [Act.put, List.setIfInBounds_toArray, List.set_cons_zero, List.set_cons_succ]
  refine wpAnyH_ready (rs := [7]) (by kernel_rfl) (by simp) ?_
  refine (AllReadyH.cons (op_at rfl) (fun K hK => ?_) AllReadyH.nil)
  go_simp
  obtain ⟨b0, b1, b2, hb⟩ := hS
  refine (rUnderIs HU.out _).mono ?_
  rintro e w3 ⟨rfl, hB⟩
  refine hK.out _ _ ⟨b0.after hB, b1.after hB, b2.after hB, below_call hb hB⟩ (fun hS => ?_)
  clear hK K hB b0 b1 b2 hb
  try simp only [Act.put, List.setIfInBounds_toArray, List.set_cons_zero, List.set_cons_succ]
  refine wpAnyH_take (i := 8) (v := ?_) (op_at rfl) (by kernel_rfl) (by kernel_rfl) (by kernel_rfl) (fun _ _ _ h => h) (Or.inl ⟨by rfl, ?_⟩) hS ?_; rotate_left; focus ((intro w' hSw; clear hSw; go_simp) <;> with_reducible rfl)
  try simp only [Act.put, List.setIfInBounds_toArray, List.set_cons_zero, List.set_cons_succ]
  refine wpAnyH_done (by kernel_rfl) ?_ _
  obtain ⟨b0, b1, b2, hb⟩ := hS
  replace B0 := Lib.hid b0
  clear b0
  replace B1 := Lib.hid b1
  clear b1
  replace B2 := Lib.hid b2
  clear b2
  replace HB := Lib.hid hb
  clear hb
  go_wp2_with fail
  go_ret2
  exact ⟨_, rfl, RowsAt.nil _ _, (by repeat (first | exact HB.out | refine below_alloc ?_ _ | refine Below.drew ?_ | refine below_set ?_ (by omega) _))⟩
set_option maxRecDepth 100000 in
set_option maxHeartbeats 4000000 in
theorem rStart_ok (l : List Sub) (sA : Option Addr) (sc : Nat) (k : Nat) (p : Sub) (c : Nat) (x : Sub) (w : World) (hl : SubsAt w.heap.size w (.slice sA l.length sc) l) (hc : exitE l (k : Int) = 0) (hx : l[c]? = some x) (hp : l[k]? = some p) (hu : underL p.cur x.high = true) (hpar : (x.par != (k : Int)) = false) (hst : (x.st != 0) = false) (hle : l.length ≤ 1000) :
    Calls Tryd.prog 13 #[.slice sA l.length sc, .int .i64 (k : Int), .int .i64 c] w fun e w' => ∃ v', e = .returned (.tuple #[v', .int .i64 0]) ∧ SubsAt w'.heap.size w' v' (l.set c { x with st := 1, cur := p.cur }) ∧ Below w.heap.size w w' := by
  have hcl : c < l.length := (List.getElem?_eq_some_iff.1 hx).1
  have hcz : (0 : Int) ≤ (c : Int) := by omega
  have hcz1 : ¬ (c : Int) < 0 := by omega
  have hcz2 : (c : Int) < (l.length : Int) := by omega
  have hcz3 : ¬ (l.length : Int) ≤ (c : Int) := by omega
  have hkl : k < l.length := (List.getElem?_eq_some_iff.1 hp).1
  have hkz : (0 : Int) ≤ (k : Int) := by omega
  have hkz2 : (k : Int) < (l.length : Int) := by omega
  have HL := Lib.hid hl
  have HC := Lib.hid hc
  have HX := Lib.hid hx
  have HP := Lib.hid hp
  have HU := Lib.hid hu
  clear hl hc hx hp hu
  have HB := Lib.hid (Below.refl w.heap.size w)
  go_enter Tryd.func13, Tryd.ntmps13
  go_wp2_with fail
  refine (checkedIs HC.out HL.out).mono ?_
  rintro e w1 ⟨rfl, hB⟩
  replace HB := Lib.hid (below_call (w := w) (by repeat (first | exact HB.out | refine below_alloc ?_ _ | refine Below.drew ?_ | refine below_set ?_ (by omega) _)) hB)
  have z1 : w.heap.size ≤ w1.heap.size := HB.out.size
  clear hB
  obtain ⟨b, off, hA, hlt, he⟩ := (HL.out.later HB.out HB.out.size).el HX.out (Nat.le_refl _)
  subst hA
  have B0 := Lib.hid (show Els w1 (b) (off + c * 8) #[.int .i64 x.par, .int .i64 x.st, .int .i64 x.cur.lv, .int .u64 (u x.cur.c), .int .i64 x.cur.ig, .int .i64 x.high.lv, .int .u64 (u x.high.c), .int .i64 x.high.ig] from he)
  clear he hlt
  obtain ⟨b2, off2, hA2, hlt2, he2⟩ := (HL.out.later HB.out HB.out.size).el HP.out (Nat.le_refl _)
  cases hA2
  have B1 := Lib.hid (show Els w1 (b) (off + k * 8) #[.int .i64 p.par, .int .i64 p.st, .int .i64 p.cur.lv, .int .u64 (u p.cur.c), .int .i64 p.cur.ig, .int .i64 p.high.lv, .int .u64 (u p.high.c), .int .i64 p.high.ig] from he2)
  clear he2 hlt2
  have p0_0 : w1.cell? ⟨b, off + c * 8, none⟩ = some (.int .i64 x.par) := B0.out.at_ (i := 0) (v := .int .i64 x.par) rfl
  have p0_1 : w1.cell? ⟨b, off + c * 8 + 1, none⟩ = some (.int .i64 x.st) := B0.out.at_ (i := 1) (v := .int .i64 x.st) rfl
  have p0_2 : w1.cell? ⟨b, off + c * 8 + 2, none⟩ = some (.int .i64 x.cur.lv) := B0.out.at_ (i := 2) (v := .int .i64 x.cur.lv) rfl
  have p0_3 : w1.cell? ⟨b, off + c * 8 + 3, none⟩ = some (.int .u64 (u x.cur.c)) := B0.out.at_ (i := 3) (v := .int .u64 (u x.cur.c)) rfl
  have p0_4 : w1.cell? ⟨b, off + c * 8 + 4, none⟩ = some (.int .i64 x.cur.ig) := B0.out.at_ (i := 4) (v := .int .i64 x.cur.ig) rfl
  have p0_5 : w1.cell? ⟨b, off + c * 8 + 5, none⟩ = some (.int .i64 x.high.lv) := B0.out.at_ (i := 5) (v := .int .i64 x.high.lv) rfl
  have p0_6 : w1.cell? ⟨b, off + c * 8 + 6, none⟩ = some (.int .u64 (u x.high.c)) := B0.out.at_ (i := 6) (v := .int .u64 (u x.high.c)) rfl
  have p0_7 : w1.cell? ⟨b, off + c * 8 + 7, none⟩ = some (.int .i64 x.high.ig) := B0.out.at_ (i := 7) (v := .int .i64 x.high.ig) rfl
  have k0_0 : b < w1.heap.size := by have := B0.out.lt; omega
  have k0_1 : b < w1.heap.size + 1 := by have := B0.out.lt; omega
  go_wp2_with fail
  refine wp_region_gen (S := (fun W' => Els W' (b) (off + c * 8) #[.int .i64 x.par, .int .i64 x.st, .int .i64 x.cur.lv, .int .u64 (u x.cur.c), .int .i64 x.cur.ig, .int .i64 x.high.lv, .int .u64 (u x.high.c), .int .i64 x.high.ig] ∧ Els W' (b) (off + k * 8) #[.int .i64 p.par, .int .i64 p.st, .int .i64 p.cur.lv, .int .u64 (u p.cur.c), .int .i64 p.cur.ig, .int .i64 p.high.lv, .int .u64 (u p.high.c), .int .i64 p.high.ig] ∧ Blk W' (w1.heap.size) 41 #[.int .i64 x.par, .int .i64 x.st, .int .i64 x.cur.lv, .int .u64 (u x.cur.c), .int .i64 x.cur.ig, .int .i64 x.high.lv, .int .u64 (u x.high.c), .int .i64 x.high.ig] ∧ Below w.heap.size w W')) (by kernel_rfl) ⟨(by repeat (first | exact B0.out | refine Els.drew ?_ | refine Els.alloc ?_ _)), (by repeat (first | exact B1.out | refine Els.drew ?_ | refine Els.alloc ?_ _)), (by repeat (first | exact Blk.new' (by simp; done) | exact Blk.new' rfl | refine Blk.drew ?_ | refine Blk.alloc ?_ _)), (by repeat (first | exact HB.out | refine below_alloc ?_ _ | refine Below.drew ?_ | refine below_set ?_ (by omega) _))⟩ (fun w2 hS => ?_)
  clear p0_0 p0_1 p0_2 p0_3 p0_4 p0_5 p0_6 p0_7 k0_0 k0_1
  refine wpAnyH_take (i := 0) (v := ?_) (op_at rfl) (by kernel_rfl) (by kernel_rfl) (by kernel_rfl) (fun _ _ _ h => h) (Or.inl ⟨by rfl, ?_⟩) hS ?_; rotate_left; focus ((intro w' hSw; clear hSw; go_simp) <;> with_reducible rfl)
  try simp only [Act.put, List.setIfInBounds_toArray, List.set_cons_zero, List.set_cons_succ]
  refine wpAnyH_take (i := 1) (v := ?_) (op_at rfl) (by kernel_rfl) (by kernel_rfl) (by kernel_rfl) (fun _ _ _ h => h) (Or.inl ⟨by rfl, ?_⟩) hS ?_; rotate_left; focus ((intro w' hSw; clear hSw; go_simp) <;> with_reducible rfl)
  try simp only [Act.put, List.setIfInBounds_toArray, List.set_cons_zero, List.set_cons_succ]
  refine wpAnyH_take (i := 2) (v := ?_) (op_at rfl) (by kernel_rfl) (by kernel_rfl) (by kernel_rfl) (fun _ _ _ h => h) (Or.inl ⟨by rfl, ?_⟩) hS ?_; rotate_left; focus ((intro w' hSw; clear hSw; go_simp) <;> with_reducible rfl)
  try simp only [Act.put, List.setIfInBounds_toArray, List.set_cons_zero, List.set_cons_succ]
  refine wpAnyH_take (i := 3) (v := ?_) (op_at rfl) (by kernel_rfl) (by kernel_rfl) (by kernel_rfl) (fun _ _ _ h => h) (Or.inl ⟨by rfl, ?_⟩) hS ?_; rotate_left; focus ((intro w' hSw; clear hSw; go_simp) <;> with_reducible rfl)
  try simp only [Act.put, List.setIfInBounds_toArray, List.set_cons_zero, List.set_cons_succ]
  refine wpAnyH_take (i := 4) (v := ?_) (op_at rfl) (by kernel_rfl) (by kernel_rfl) (by kernel_rfl) (fun _ _ _ h => h) (Or.inl ⟨by rfl, ?_⟩) hS ?_; rotate_left; focus ((intro w' hSw; obtain ⟨-, q, -⟩ := hSw; have c2 : w'.cell? ⟨b, off + k * 8 + 2, none⟩ = some (.int .i64 p.cur.lv) := q.at_ (i := 2) (v := .int .i64 p.cur.lv) rfl; have c3 : w'.cell? ⟨b, off + k * 8 + 3, none⟩ = some (.int .u64 (u p.cur.c)) := q.at_ (i := 3) (v := .int .u64 (u p.cur.c)) rfl; have c4 : w'.cell? ⟨b, off + k * 8 + 4, none⟩ = some (.int .i64 p.cur.ig) := q.at_ (i := 4) (v := .int .i64 p.cur.ig) rfl; clear q; go_simp) <;> with_reducible rfl)
  try simp only [Act.put, List.setIfInBounds_toArray, List.set_cons_zero, List.set_cons_succ]
  refine wpAnyH_take (i := 5) (v := ?_) (op_at rfl) (by kernel_rfl) (by kernel_rfl) (by kernel_rfl) (fun _ _ _ h => h) (Or.inl ⟨by rfl, ?_⟩) hS ?_; rotate_left; focus ((intro w' hSw; clear hSw; go_simp) <;> with_reducible rfl)
  try simp only [Act.put, List.setIfInBounds_toArray, List.set_cons_zero, List.set_cons_succ]
  refine wpAnyH_take (i := 6) (v := ?_) (op_at rfl) (by kernel_rfl) (by kernel_rfl) (by kernel_rfl) (fun _ _ _ h => h) (Or.inl ⟨by rfl, ?_⟩) hS ?_; rotate_left; focus ((intro w' hSw; obtain ⟨-, -, q, -⟩ := hSw; have c5 := q.at_ (i := 5) (v := .int .i64 x.high.lv) rfl; have c6 := q.at_ (i := 6) (v := .int .u64 (u x.high.c)) rfl; have c7 := q.at_ (i := 7) (v := .int .i64 x.high.ig) rfl; clear q; go_simp) <;> with_reducible rfl)
  try simp only [Act.put, List.setIfInBounds_toArray, List.set_cons_zero, List.set_cons_succ]
  refine wpAnyH_ready (rs := [7]) (by kernel_rfl) (by simp) ?_
  refine (AllReadyH.cons (op_at rfl) (fun K hK => ?_) AllReadyH.nil)
  go_simp
  obtain ⟨b0, b1, b2, hb⟩ := hS
  refine (rUnderIs HU.out _).mono ?_
  rintro e w3 ⟨rfl, hB⟩
  refine hK.out _ _ ⟨b0.after hB, b1.after hB, b2.after hB, below_call hb hB⟩ (fun hS => ?_)
  clear hK K hB b0 b1 b2 hb
  try simp only [Act.put, List.setIfInBounds_toArray, List.set_cons_zero, List.set_cons_succ]
  refine wpAnyH_take (i := 8) (v := ?_) (op_at rfl) (by kernel_rfl) (by kernel_rfl) (by kernel_rfl) (fun _ _ _ h => h) (Or.inl ⟨by rfl, ?_⟩) hS ?_; rotate_left; focus ((intro w' hSw; clear hSw; go_simp) <;> with_reducible rfl)
  try simp only [Act.put, List.setIfInBounds_toArray, List.set_cons_zero, List.set_cons_succ]
  refine wpAnyH_done (by kernel_rfl) ?_ _
  obtain ⟨b0, b1, b2, hb⟩ := hS
  replace B0 := Lib.hid b0
  clear b0
  replace B1 := Lib.hid b1
  clear b1
  replace B2 := Lib.hid b2
  clear b2
  replace HB := Lib.hid hb
  clear hb
  have p1_2 : w3.cell? ⟨b, off + k * 8 + 2, none⟩ = some (.int .i64 p.cur.lv) := B1.out.at_ (i := 2) (v := .int .i64 p.cur.lv) rfl
  have p1_3 : w3.cell? ⟨b, off + k * 8 + 3, none⟩ = some (.int .u64 (u p.cur.c)) := B1.out.at_ (i := 3) (v := .int .u64 (u p.cur.c)) rfl
  have p1_4 : w3.cell? ⟨b, off + k * 8 + 4, none⟩ = some (.int .i64 p.cur.ig) := B1.out.at_ (i := 4) (v := .int .i64 p.cur.ig) rfl
  have k1_0 : b < w3.heap.size := by have := B1.out.lt; omega
  have p2_0 := B2.out.at_ (i := 0) (v := .int .i64 x.par) rfl
  have p2_1 := B2.out.at_ (i := 1) (v := .int .i64 x.st) rfl
  have p2_2 := B2.out.at_ (i := 2) (v := .int .i64 x.cur.lv) rfl
  have p2_3 := B2.out.at_ (i := 3) (v := .int .u64 (u x.cur.c)) rfl
  have p2_4 := B2.out.at_ (i := 4) (v := .int .i64 x.cur.ig) rfl
  have p2_5 := B2.out.at_ (i := 5) (v := .int .i64 x.high.lv) rfl
  have p2_6 := B2.out.at_ (i := 6) (v := .int .u64 (u x.high.c)) rfl
  have p2_7 := B2.out.at_ (i := 7) (v := .int .i64 x.high.ig) rfl
  have f2_1 := B2.out.frozen 1
  have f2_2 := B2.out.frozen 2
  have f2_3 := B2.out.frozen 3
  have f2_4 := B2.out.frozen 4
  have k2_0 : w1.heap.size < w3.heap.size := by have := B2.out.lt; omega
  go_wp2_with fail
  refine (set_any l _ c x { x with st := 1, cur := p.cur } _ (HL.out.later (by repeat (first | exact HB.out | refine below_alloc ?_ _ | refine Below.drew ?_ | refine below_set ?_ (by omega) _)) (Below.size (w := w) (B := w.heap.size) (by repeat (first | exact HB.out | refine below_alloc ?_ _ | refine Below.drew ?_ | refine below_set ?_ (by omega) _)))) hle HX.out).mono ?_
  rintro e w4 ⟨v', rfl, hS, hB⟩
  have HB9 := Lib.hid (below_call (w := w) (by repeat (first | exact HB.out | refine below_alloc ?_ _ | refine Below.drew ?_ | refine below_set ?_ (by omega) _)) hB)
  obtain ⟨A', c', rfl, _, _, _⟩ := hS.slice
  rw [List.length_set] at hS
  have HS := Lib.hid hS
  simp only [List.length_set]
  clear hS hB
  clear p1_2 p1_3 p1_4 k1_0 p2_0 p2_1 p2_2 p2_3 p2_4 p2_5 p2_6 p2_7 f2_1 f2_2 f2_3 f2_4 k2_0
  go_wp2_with fail
  go_ret2
  exact ⟨_, rfl, HS.out, HB9.out⟩
end

end Go.Proofs.YteepgbkblgcegaaDoor
