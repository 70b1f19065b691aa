/-
  LAW 16: SubjectStarts (printed by wip/genlaw16.py).
-/
import Derived.Test.YteepgbkblgcegaaDoorM1
import Derived.Test.YteepgbkblgcegaaDoorMxLawD
namespace Go.Proofs.YteepgbkblgcegaaDoor
open Go.RowKit

attribute [local go_sem] u_and u_or u_andNot u_add u_sub u_bit u_eq_zero u_beq

set_option maxRecDepth 100000 in
set_option maxHeartbeats 8000000 in
theorem starts_no (sa : Addr) (l m t1 : List Sub) (v : Value) (who child e : Int) (w : World) (hh : Env sa w) (hl0 : SubsW w (v) l) (h_few_l : l.take 10 = m) (h_startE_m_whochild : startE m who child = e) (h_startL_m_whochild : startL m who child = t1) (h_len_m : m.length ≤ 1000) (v0 : (e != 0) = true) (v1 : ((t1.length : Int) == 0) = true) :
    Calls Tryd.prog 7 #[v, .int .i64 who, .int .i64 child] w (Yes w) := by
  have HH := Lib.hid hh
  clear hh
  have H_few_l := Lib.hid h_few_l
  clear h_few_l
  have H_startE_m_whochild := Lib.hid h_startE_m_whochild
  clear h_startE_m_whochild
  have H_startL_m_whochild := Lib.hid h_startL_m_whochild
  clear h_startL_m_whochild
  have H_len_m := Lib.hid h_len_m
  clear h_len_m
  have B0 := Lib.hid hl0
  clear hl0
  have HB := Lib.hid (Below.refl w.heap.size w)
  go_enter Tryd.func7, Tryd.ntmps7
  go_wp2_with fail
  refine (shown_any sa _ (HH.out.up (by repeat (first | exact HB.out | refine below_alloc ?_ _ | refine Below.drew ?_ | refine below_set ?_ (by omega) _)))).mono ?_
  rintro e w1 ⟨rfl, hB⟩
  replace HB := Lib.hid (below_call (w := w) (by repeat (first | exact HB.out | refine below_alloc ?_ _ | refine Below.drew ?_ | refine below_set ?_ (by omega) _)) hB)
  have z1 : w.heap.size ≤ w1.heap.size := HB.out.size
  replace B0 : Hid (SubsW w1 (v) l) := Lib.hid (SubsW.after (by repeat (first | exact B0.out | refine SubsW.drew ?_ | refine SubsW.alloc ?_ _)) hB)
  clear hB
  go_wp2_with fail
  refine (fewIs H_few_l.out (by repeat (first | exact B0.out | refine SubsW.drew ?_ | refine SubsW.alloc ?_ _))).mono ?_
  rintro e w' ⟨A1, c1, rfl, hR1, rfl⟩
  have B1 := Lib.hid (show SubsW w1 (.slice A1 m.length c1) m from hR1)
  clear hR1
  go_wp2_with fail
  refine (startIs H_startE_m_whochild.out H_startL_m_whochild.out H_len_m.out (HH.out.up (by repeat (first | exact HB.out | refine below_alloc ?_ _ | refine Below.drew ?_ | refine below_set ?_ (by omega) _))).h (by repeat (first | exact B1.out | refine SubsW.drew ?_ | refine SubsW.alloc ?_ _))).mono ?_
  rintro e w2 ⟨A2, c2, rfl, hR2, hB⟩
  replace HB := Lib.hid (below_call (w := w) (by repeat (first | exact HB.out | refine below_alloc ?_ _ | refine Below.drew ?_ | refine below_set ?_ (by omega) _)) hB)
  have z2 : w.heap.size ≤ w2.heap.size := HB.out.size
  clear hB
  have B2 := Lib.hid (show SubsW w2 (.slice A2 t1.length c2) t1 from hR2)
  clear hR2
  go_wp2_with fail
  go_ret
  exact ⟨rfl, (by repeat (first | exact HB.out | refine below_alloc ?_ _ | refine Below.drew ?_ | refine below_set ?_ (by omega) _))⟩
set_option maxRecDepth 100000 in
set_option maxHeartbeats 8000000 in
theorem starts_ok (sa : Addr) (l m t1 x1 z x3 : List Sub) (v : Value) (k c : Nat) (p y : Sub) (w : World) (hh : Env sa w) (hl0 : SubsW w (v) l) (h_p : m[k]? = some p) (h_y : t1[c]? = some y) (h_few_l : l.take 10 = m) (h_startE_m_kIntcInt : startE m (k : Int) (c : Int) = 0) (h_startL_m_kIntcInt : startL m (k : Int) (c : Int) = t1) (h_len_m : m.length ≤ 1000) (h_startE_t1_kIntcInt : startE t1 (k : Int) (c : Int) = 162) (h_startL_t1_kIntcInt : startL t1 (k : Int) (c : Int) = x1) (h_len_t1 : t1.length ≤ 1000) (h_exitE_t1_cInt : exitE t1 (c : Int) = 0) (h_exitL_t1_cInt : exitL t1 (c : Int) = z) (h_startE_z_kIntcInt : startE z (k : Int) (c : Int) = 162) (h_startL_z_kIntcInt : startL z (k : Int) (c : Int) = x3) (h_len_z : z.length ≤ 1000) (h_q_eql_ycur_pcur : eqL y.cur p.cur = true) (h_aliveTt1cInt : aliveT t1 (c : Int) = true) (v0 : ((t1.length : Int) != (m.length : Int)) = false) (v1 : ¬ (k : Int) < 0) (v2 : ¬ (m.length : Int) ≤ (k : Int)) (v3 : ¬ (c : Int) < 0) (v4 : ¬ (m.length : Int) ≤ (c : Int)) (v5 : (y.st == 1) = true) :
    Calls Tryd.prog 7 #[v, .int .i64 (k : Int), .int .i64 (c : Int)] w (Yes w) := by
  have HH := Lib.hid hh
  clear hh
  have H_p := Lib.hid h_p
  clear h_p
  have H_y := Lib.hid h_y
  clear h_y
  have H_few_l := Lib.hid h_few_l
  clear h_few_l
  have H_startE_m_kIntcInt := Lib.hid h_startE_m_kIntcInt
  clear h_startE_m_kIntcInt
  have H_startL_m_kIntcInt := Lib.hid h_startL_m_kIntcInt
  clear h_startL_m_kIntcInt
  have H_len_m := Lib.hid h_len_m
  clear h_len_m
  have H_startE_t1_kIntcInt := Lib.hid h_startE_t1_kIntcInt
  clear h_startE_t1_kIntcInt
  have H_startL_t1_kIntcInt := Lib.hid h_startL_t1_kIntcInt
  clear h_startL_t1_kIntcInt
  have H_len_t1 := Lib.hid h_len_t1
  clear h_len_t1
  have H_exitE_t1_cInt := Lib.hid h_exitE_t1_cInt
  clear h_exitE_t1_cInt
  have H_exitL_t1_cInt := Lib.hid h_exitL_t1_cInt
  clear h_exitL_t1_cInt
  have H_startE_z_kIntcInt := Lib.hid h_startE_z_kIntcInt
  clear h_startE_z_kIntcInt
  have H_startL_z_kIntcInt := Lib.hid h_startL_z_kIntcInt
  clear h_startL_z_kIntcInt
  have H_len_z := Lib.hid h_len_z
  clear h_len_z
  have H_q_eql_ycur_pcur := Lib.hid h_q_eql_ycur_pcur
  clear h_q_eql_ycur_pcur
  have H_aliveTt1cInt := Lib.hid h_aliveTt1cInt
  clear h_aliveTt1cInt
  have e_q_eql_ycur_pcur := eqlIs H_q_eql_ycur_pcur.out
  have e_q_eql_ycur_pcur := eqlIs H_q_eql_ycur_pcur.out
  have lt_m_0 : ((k : Int) : Int) < (m.length : Int) := by have := (List.getElem?_eq_some_iff.1 H_p.out).1; omega
  have ge_m_0 : (0 : Int) ≤ (k : Int) := by omega
  have lt_t1_0 : ((c : Int) : Int) < (t1.length : Int) := by have := (List.getElem?_eq_some_iff.1 H_y.out).1; omega
  have ge_t1_0 : (0 : Int) ≤ (c : Int) := by omega
  have B0 := Lib.hid hl0
  clear hl0
  have HB := Lib.hid (Below.refl w.heap.size w)
  go_enter Tryd.func7, Tryd.ntmps7
  go_wp2_with fail
  refine (shown_any sa _ (HH.out.up (by repeat (first | exact HB.out | refine below_alloc ?_ _ | refine Below.drew ?_ | refine below_set ?_ (by omega) _)))).mono ?_
  rintro e w1 ⟨rfl, hB⟩
  replace HB := Lib.hid (below_call (w := w) (by repeat (first | exact HB.out | refine below_alloc ?_ _ | refine Below.drew ?_ | refine below_set ?_ (by omega) _)) hB)
  have z1 : w.heap.size ≤ w1.heap.size := HB.out.size
  replace B0 : Hid (SubsW w1 (v) l) := Lib.hid (SubsW.after (by repeat (first | exact B0.out | refine SubsW.drew ?_ | refine SubsW.alloc ?_ _)) hB)
  clear hB
  go_wp2_with fail
  refine (fewIs H_few_l.out (by repeat (first | exact B0.out | refine SubsW.drew ?_ | refine SubsW.alloc ?_ _))).mono ?_
  rintro e w' ⟨A1, c1, rfl, hR1, rfl⟩
  obtain ⟨bm, om, hA, _, he⟩ := RowsAt.el hR1 H_p.out (Nat.le_refl _)
  subst hA
  have B1 := Lib.hid (show Els w1 (bm) (om + k * 8) #[.int .i64 p.par, .int .i64 p.st, .int .i64 p.cur.lv, .int .u64 (u p.cur.c), .int .i64 p.cur.ig, .int .i64 p.high.lv, .int .u64 (u p.high.c), .int .i64 p.high.ig] from he)
  clear he
  have B2 := Lib.hid (show SubsW w1 (.slice (some ⟨bm, om, none⟩) m.length c1) m from hR1)
  clear hR1
  go_wp2_with fail
  refine (startIs H_startE_m_kIntcInt.out H_startL_m_kIntcInt.out H_len_m.out (HH.out.up (by repeat (first | exact HB.out | refine below_alloc ?_ _ | refine Below.drew ?_ | refine below_set ?_ (by omega) _))).h (by repeat (first | exact B2.out | refine SubsW.drew ?_ | refine SubsW.alloc ?_ _))).mono ?_
  rintro e w2 ⟨A2, c2, rfl, hR2, hB⟩
  replace HB := Lib.hid (below_call (w := w) (by repeat (first | exact HB.out | refine below_alloc ?_ _ | refine Below.drew ?_ | refine below_set ?_ (by omega) _)) hB)
  have z2 : w.heap.size ≤ w2.heap.size := HB.out.size
  replace B1 : Hid (Els w2 (bm) (om + k * 8) #[.int .i64 p.par, .int .i64 p.st, .int .i64 p.cur.lv, .int .u64 (u p.cur.c), .int .i64 p.cur.ig, .int .i64 p.high.lv, .int .u64 (u p.high.c), .int .i64 p.high.ig]) := Lib.hid (Els.after (by repeat (first | exact B1.out | refine Els.drew ?_ | refine Els.alloc ?_ _)) hB)
  clear hB
  obtain ⟨bt1, ot1, hA, _, he⟩ := RowsAt.el hR2 H_y.out (Nat.le_refl _)
  subst hA
  have B3 := Lib.hid (show Els w2 (bt1) (ot1 + c * 8) #[.int .i64 y.par, .int .i64 y.st, .int .i64 y.cur.lv, .int .u64 (u y.cur.c), .int .i64 y.cur.ig, .int .i64 y.high.lv, .int .u64 (u y.high.c), .int .i64 y.high.ig] from he)
  clear he
  have B4 := Lib.hid (show SubsW w2 (.slice (some ⟨bt1, ot1, none⟩) t1.length c2) t1 from hR2)
  clear hR2
  go_wp2_with fail
  refine (startIs H_startE_t1_kIntcInt.out H_startL_t1_kIntcInt.out H_len_t1.out (HH.out.up (by repeat (first | exact HB.out | refine below_alloc ?_ _ | refine Below.drew ?_ | refine below_set ?_ (by omega) _))).h (by repeat (first | exact B4.out | refine SubsW.drew ?_ | refine SubsW.alloc ?_ _))).mono ?_
  rintro e w3 ⟨A3, c3, rfl, hR3, hB⟩
  replace HB := Lib.hid (below_call (w := w) (by repeat (first | exact HB.out | refine below_alloc ?_ _ | refine Below.drew ?_ | refine below_set ?_ (by omega) _)) hB)
  have z3 : w.heap.size ≤ w3.heap.size := HB.out.size
  replace B1 : Hid (Els w3 (bm) (om + k * 8) #[.int .i64 p.par, .int .i64 p.st, .int .i64 p.cur.lv, .int .u64 (u p.cur.c), .int .i64 p.cur.ig, .int .i64 p.high.lv, .int .u64 (u p.high.c), .int .i64 p.high.ig]) := Lib.hid (Els.after (by repeat (first | exact B1.out | refine Els.drew ?_ | refine Els.alloc ?_ _)) hB)
  replace B3 : Hid (Els w3 (bt1) (ot1 + c * 8) #[.int .i64 y.par, .int .i64 y.st, .int .i64 y.cur.lv, .int .u64 (u y.cur.c), .int .i64 y.cur.ig, .int .i64 y.high.lv, .int .u64 (u y.high.c), .int .i64 y.high.ig]) := Lib.hid (Els.after (by repeat (first | exact B3.out | refine Els.drew ?_ | refine Els.alloc ?_ _)) hB)
  replace B4 : Hid (SubsW w3 (.slice (some ⟨bt1, ot1, none⟩) t1.length c2) t1) := Lib.hid (SubsW.after (by repeat (first | exact B4.out | refine SubsW.drew ?_ | refine SubsW.alloc ?_ _)) hB)
  clear hB
  have B5 := Lib.hid (show SubsW w3 (.slice A3 x1.length c3) x1 from hR3)
  clear hR3
  go_wp2_with fail
  refine (exitIs H_exitE_t1_cInt.out H_exitL_t1_cInt.out H_len_t1.out (HH.out.up (by repeat (first | exact HB.out | refine below_alloc ?_ _ | refine Below.drew ?_ | refine below_set ?_ (by omega) _))).h (by repeat (first | exact B4.out | refine SubsW.drew ?_ | refine SubsW.alloc ?_ _))).mono ?_
  rintro e w4 ⟨A4, c4, rfl, hR4, hB⟩
  replace HB := Lib.hid (below_call (w := w) (by repeat (first | exact HB.out | refine below_alloc ?_ _ | refine Below.drew ?_ | refine below_set ?_ (by omega) _)) hB)
  have z4 : w.heap.size ≤ w4.heap.size := HB.out.size
  replace B1 : Hid (Els w4 (bm) (om + k * 8) #[.int .i64 p.par, .int .i64 p.st, .int .i64 p.cur.lv, .int .u64 (u p.cur.c), .int .i64 p.cur.ig, .int .i64 p.high.lv, .int .u64 (u p.high.c), .int .i64 p.high.ig]) := Lib.hid (Els.after (by repeat (first | exact B1.out | refine Els.drew ?_ | refine Els.alloc ?_ _)) hB)
  replace B3 : Hid (Els w4 (bt1) (ot1 + c * 8) #[.int .i64 y.par, .int .i64 y.st, .int .i64 y.cur.lv, .int .u64 (u y.cur.c), .int .i64 y.cur.ig, .int .i64 y.high.lv, .int .u64 (u y.high.c), .int .i64 y.high.ig]) := Lib.hid (Els.after (by repeat (first | exact B3.out | refine Els.drew ?_ | refine Els.alloc ?_ _)) hB)
  replace B4 : Hid (SubsW w4 (.slice (some ⟨bt1, ot1, none⟩) t1.length c2) t1) := Lib.hid (SubsW.after (by repeat (first | exact B4.out | refine SubsW.drew ?_ | refine SubsW.alloc ?_ _)) hB)
  clear hB
  have B6 := Lib.hid (show SubsW w4 (.slice A4 z.length c4) z from hR4)
  clear hR4
  go_wp2_with fail
  refine (startIs H_startE_z_kIntcInt.out H_startL_z_kIntcInt.out H_len_z.out (HH.out.up (by repeat (first | exact HB.out | refine below_alloc ?_ _ | refine Below.drew ?_ | refine below_set ?_ (by omega) _))).h (by repeat (first | exact B6.out | refine SubsW.drew ?_ | refine SubsW.alloc ?_ _))).mono ?_
  rintro e w5 ⟨A5, c5, rfl, hR5, hB⟩
  replace HB := Lib.hid (below_call (w := w) (by repeat (first | exact HB.out | refine below_alloc ?_ _ | refine Below.drew ?_ | refine below_set ?_ (by omega) _)) hB)
  have z5 : w.heap.size ≤ w5.heap.size := HB.out.size
  replace B1 : Hid (Els w5 (bm) (om + k * 8) #[.int .i64 p.par, .int .i64 p.st, .int .i64 p.cur.lv, .int .u64 (u p.cur.c), .int .i64 p.cur.ig, .int .i64 p.high.lv, .int .u64 (u p.high.c), .int .i64 p.high.ig]) := Lib.hid (Els.after (by repeat (first | exact B1.out | refine Els.drew ?_ | refine Els.alloc ?_ _)) hB)
  replace B3 : Hid (Els w5 (bt1) (ot1 + c * 8) #[.int .i64 y.par, .int .i64 y.st, .int .i64 y.cur.lv, .int .u64 (u y.cur.c), .int .i64 y.cur.ig, .int .i64 y.high.lv, .int .u64 (u y.high.c), .int .i64 y.high.ig]) := Lib.hid (Els.after (by repeat (first | exact B3.out | refine Els.drew ?_ | refine Els.alloc ?_ _)) hB)
  replace B4 : Hid (SubsW w5 (.slice (some ⟨bt1, ot1, none⟩) t1.length c2) t1) := Lib.hid (SubsW.after (by repeat (first | exact B4.out | refine SubsW.drew ?_ | refine SubsW.alloc ?_ _)) hB)
  clear hB
  have B7 := Lib.hid (show SubsW w5 (.slice A5 x3.length c5) x3 from hR5)
  clear hR5
  go_wp2_with fail
  refine wp_region_gen (S := (fun W' => Els W' (bm) (om + k * 8) #[.int .i64 p.par, .int .i64 p.st, .int .i64 p.cur.lv, .int .u64 (u p.cur.c), .int .i64 p.cur.ig, .int .i64 p.high.lv, .int .u64 (u p.high.c), .int .i64 p.high.ig] ∧ Els W' (bt1) (ot1 + c * 8) #[.int .i64 y.par, .int .i64 y.st, .int .i64 y.cur.lv, .int .u64 (u y.cur.c), .int .i64 y.cur.ig, .int .i64 y.high.lv, .int .u64 (u y.high.c), .int .i64 y.high.ig] ∧ SubsW W' (.slice (some ⟨bt1, ot1, none⟩) t1.length c2) t1 ∧ Below w.heap.size w W')) (by kernel_rfl) ⟨(by repeat (first | exact B1.out | refine Els.drew ?_ | refine Els.alloc ?_ _)), (by repeat (first | exact B3.out | refine Els.drew ?_ | refine Els.alloc ?_ _)), (by repeat (first | exact B4.out | refine SubsW.drew ?_ | refine SubsW.alloc ?_ _)), (by repeat (first | exact HB.out | refine below_alloc ?_ _ | refine Below.drew ?_ | refine below_set ?_ (by omega) _))⟩ (fun w6 hS => ?_)
  refine wpAnyH_take (i := 0) (v := ?_) (op_at rfl) (by kernel_rfl) (by kernel_rfl) (by kernel_rfl) (fun _ _ _ h => h) (Or.inl ⟨by rfl, ?_⟩) hS ?_; rotate_left; focus ((intro w' hSw; clear hSw; go_simp) <;> with_reducible rfl)
  try simp only [Act.put, List.setIfInBounds_toArray, List.set_cons_zero, List.set_cons_succ]
  refine wpAnyH_take (i := 1) (v := ?_) (op_at rfl) (by kernel_rfl) (by kernel_rfl) (by kernel_rfl) (fun _ _ _ h => h) (Or.inl ⟨by rfl, ?_⟩) hS ?_; rotate_left; focus ((intro w' hSw; clear hSw; go_simp) <;> with_reducible rfl)
  try simp only [Act.put, List.setIfInBounds_toArray, List.set_cons_zero, List.set_cons_succ]
  refine wpAnyH_take (i := 2) (v := ?_) (op_at rfl) (by kernel_rfl) (by kernel_rfl) (by kernel_rfl) (fun _ _ _ h => h) (Or.inl ⟨by rfl, ?_⟩) hS ?_; rotate_left; focus ((intro w' hSw; clear hSw; go_simp) <;> with_reducible rfl)
  try simp only [Act.put, List.setIfInBounds_toArray, List.set_cons_zero, List.set_cons_succ]
  refine wpAnyH_take (i := 3) (v := ?_) (op_at rfl) (by kernel_rfl) (by kernel_rfl) (by kernel_rfl) (fun _ _ _ h => h) (Or.inl ⟨by rfl, ?_⟩) hS ?_; rotate_left; focus ((intro w' hSw; clear hSw; go_simp) <;> with_reducible rfl)
  try simp only [Act.put, List.setIfInBounds_toArray, List.set_cons_zero, List.set_cons_succ]
  refine wpAnyH_take (i := 4) (v := ?_) (op_at rfl) (by kernel_rfl) (by kernel_rfl) (by kernel_rfl) (fun _ _ _ h => h) (Or.inl ⟨by rfl, ?_⟩) hS ?_; rotate_left; focus ((intro w' hSw; clear hSw; go_simp) <;> with_reducible rfl)
  try simp only [Act.put, List.setIfInBounds_toArray, List.set_cons_zero, List.set_cons_succ]
  refine wpAnyH_take (i := 5) (v := ?_) (op_at rfl) (by kernel_rfl) (by kernel_rfl) (by kernel_rfl) (fun _ _ _ h => h) (Or.inl ⟨by rfl, ?_⟩) hS ?_; rotate_left; focus ((intro w' hSw; clear hSw; go_simp) <;> with_reducible rfl)
  try simp only [Act.put, List.setIfInBounds_toArray, List.set_cons_zero, List.set_cons_succ]
  refine wpAnyH_take (i := 6) (v := ?_) (op_at rfl) (by kernel_rfl) (by kernel_rfl) (by kernel_rfl) (fun _ _ _ h => h) (Or.inl ⟨by rfl, ?_⟩) hS ?_; rotate_left; focus ((intro w' hSw; clear hSw; go_simp) <;> with_reducible rfl)
  try simp only [Act.put, List.setIfInBounds_toArray, List.set_cons_zero, List.set_cons_succ]
  refine wpAnyH_take (i := 7) (v := ?_) (op_at rfl) (by kernel_rfl) (by kernel_rfl) (by kernel_rfl) (fun _ _ _ h => h) (Or.inl ⟨by rfl, ?_⟩) hS ?_; rotate_left; focus ((intro w' hSw; clear hSw; go_simp) <;> with_reducible rfl)
  try simp only [Act.put, List.setIfInBounds_toArray, List.set_cons_zero, List.set_cons_succ]
  refine wpAnyH_take (i := 8) (v := ?_) (op_at rfl) (by kernel_rfl) (by kernel_rfl) (by kernel_rfl) (fun _ _ _ h => h) (Or.inl ⟨by rfl, ?_⟩) hS ?_; rotate_left; focus ((intro w' hSw; clear hSw; go_simp) <;> with_reducible rfl)
  try simp only [Act.put, List.setIfInBounds_toArray, List.set_cons_zero, List.set_cons_succ]
  refine wpAnyH_take (i := 9) (v := ?_) (op_at rfl) (by kernel_rfl) (by kernel_rfl) (by kernel_rfl) (fun _ _ _ h => h) (Or.inl ⟨by rfl, ?_⟩) hS ?_; rotate_left; focus ((intro w' hSw; clear hSw; go_simp) <;> with_reducible rfl)
  try simp only [Act.put, List.setIfInBounds_toArray, List.set_cons_zero, List.set_cons_succ]
  refine wpAnyH_take (i := 10) (v := ?_) (op_at rfl) (by kernel_rfl) (by kernel_rfl) (by kernel_rfl) (fun _ _ _ h => h) (Or.inl ⟨by rfl, ?_⟩) hS ?_; rotate_left; focus ((intro w' hSw; clear hSw; go_simp) <;> with_reducible rfl)
  try simp only [Act.put, List.setIfInBounds_toArray, List.set_cons_zero, List.set_cons_succ]
  refine wpAnyH_take (i := 11) (v := ?_) (op_at rfl) (by kernel_rfl) (by kernel_rfl) (by kernel_rfl) (fun _ _ _ h => h) (Or.inl ⟨by rfl, ?_⟩) hS ?_; rotate_left; focus ((intro w' hSw; clear hSw; go_simp) <;> with_reducible rfl)
  try simp only [Act.put, List.setIfInBounds_toArray, List.set_cons_zero, List.set_cons_succ]
  refine wpAnyH_take (i := 12) (v := ?_) (op_at rfl) (by kernel_rfl) (by kernel_rfl) (by kernel_rfl) (fun _ _ _ h => h) (Or.inl ⟨by rfl, ?_⟩) hS ?_; rotate_left; focus ((intro w' hSw; clear hSw; go_simp) <;> with_reducible rfl)
  try simp only [Act.put, List.setIfInBounds_toArray, List.set_cons_zero, List.set_cons_succ]
  refine wpAnyH_take (i := 13) (v := ?_) (op_at rfl) (by kernel_rfl) (by kernel_rfl) (by kernel_rfl) (fun _ _ _ h => h) (Or.inl ⟨by rfl, ?_⟩) hS ?_; rotate_left; focus ((intro w' hSw; clear hSw; go_simp) <;> with_reducible rfl)
  try simp only [Act.put, List.setIfInBounds_toArray, List.set_cons_zero, List.set_cons_succ]
  refine wpAnyH_take (i := 14) (v := ?_) (op_at rfl) (by kernel_rfl) (by kernel_rfl) (by kernel_rfl) (fun _ _ _ h => h) (Or.inl ⟨by rfl, ?_⟩) hS ?_; rotate_left; focus ((intro w' hSw; clear hSw; go_simp) <;> with_reducible rfl)
  try simp only [Act.put, List.setIfInBounds_toArray, List.set_cons_zero, List.set_cons_succ]
  refine wpAnyH_take (i := 15) (v := ?_) (op_at rfl) (by kernel_rfl) (by kernel_rfl) (by kernel_rfl) (fun _ _ _ h => h) (Or.inl ⟨by rfl, ?_⟩) hS ?_; rotate_left; focus ((intro w' hSw; clear hSw; go_simp) <;> with_reducible rfl)
  try simp only [Act.put, List.setIfInBounds_toArray, List.set_cons_zero, List.set_cons_succ]
  refine wpAnyH_take (i := 16) (v := ?_) (op_at rfl) (by kernel_rfl) (by kernel_rfl) (by kernel_rfl) (fun _ _ _ h => h) (Or.inl ⟨by rfl, ?_⟩) hS ?_; rotate_left; focus ((intro w' hSw; clear hSw; go_simp) <;> with_reducible rfl)
  try simp only [Act.put, List.setIfInBounds_toArray, List.set_cons_zero, List.set_cons_succ]
  refine wpAnyH_take (i := 17) (v := ?_) (op_at rfl) (by kernel_rfl) (by kernel_rfl) (by kernel_rfl) (fun _ _ _ h => h) (Or.inl ⟨by rfl, ?_⟩) hS ?_; rotate_left; focus ((intro w' hSw; clear hSw; go_simp) <;> with_reducible rfl)
  try simp only [Act.put, List.setIfInBounds_toArray, List.set_cons_zero, List.set_cons_succ]
  refine wpAnyH_take (i := 18) (v := ?_) (op_at rfl) (by kernel_rfl) (by kernel_rfl) (by kernel_rfl) (fun _ _ _ h => h) (Or.inl ⟨by rfl, ?_⟩) hS ?_; rotate_left; focus ((intro w' hSw; obtain ⟨-, q, -⟩ := hSw; have c1 : w'.cell? ⟨bt1, ot1 + c * 8 + 1, none⟩ = some (.int .i64 y.st) := q.at_ (i := 1) (v := .int .i64 y.st) rfl; clear q; go_simp) <;> with_reducible rfl)
  try simp only [Act.put, List.setIfInBounds_toArray, List.set_cons_zero, List.set_cons_succ]
  refine wpAnyH_take (i := 19) (v := ?_) (op_at rfl) (by kernel_rfl) (by kernel_rfl) (by kernel_rfl) (fun _ _ _ h => h) (Or.inl ⟨by rfl, ?_⟩) hS ?_; rotate_left; focus ((intro w' hSw; clear hSw; go_simp) <;> with_reducible rfl)
  try simp only [Act.put, List.setIfInBounds_toArray, List.set_cons_zero, List.set_cons_succ]
  refine wpAnyH_take (i := 20) (v := ?_) (op_at rfl) (by kernel_rfl) (by kernel_rfl) (by kernel_rfl) (fun _ _ _ h => h) (Or.inl ⟨by rfl, ?_⟩) hS ?_; rotate_left; focus ((intro w' hSw; clear hSw; go_simp) <;> with_reducible rfl)
  try simp only [Act.put, List.setIfInBounds_toArray, List.set_cons_zero, List.set_cons_succ]
  refine wpAnyH_take (i := 21) (v := ?_) (op_at rfl) (by kernel_rfl) (by kernel_rfl) (by kernel_rfl) (fun _ _ _ h => h) (Or.inl ⟨by rfl, ?_⟩) hS ?_; rotate_left; focus ((intro w' hSw; clear hSw; go_simp) <;> with_reducible rfl)
  try simp only [Act.put, List.setIfInBounds_toArray, List.set_cons_zero, List.set_cons_succ]
  refine wpAnyH_take (i := 22) (v := ?_) (op_at rfl) (by kernel_rfl) (by kernel_rfl) (by kernel_rfl) (fun _ _ _ h => h) (Or.inl ⟨by rfl, ?_⟩) hS ?_; rotate_left; focus ((intro w' hSw; clear hSw; go_simp) <;> with_reducible rfl)
  try simp only [Act.put, List.setIfInBounds_toArray, List.set_cons_zero, List.set_cons_succ]
  refine wpAnyH_take (i := 23) (v := ?_) (op_at rfl) (by kernel_rfl) (by kernel_rfl) (by kernel_rfl) (fun _ _ _ h => h) (Or.inl ⟨by rfl, ?_⟩) hS ?_; rotate_left; focus ((intro w' hSw; clear hSw; go_simp) <;> with_reducible rfl)
  try simp only [Act.put, List.setIfInBounds_toArray, List.set_cons_zero, List.set_cons_succ]
  refine wpAnyH_take (i := 24) (v := ?_) (op_at rfl) (by kernel_rfl) (by kernel_rfl) (by kernel_rfl) (fun _ _ _ h => h) (Or.inl ⟨by rfl, ?_⟩) hS ?_; rotate_left; focus ((intro w' hSw; clear hSw; go_simp) <;> with_reducible rfl)
  try simp only [Act.put, List.setIfInBounds_toArray, List.set_cons_zero, List.set_cons_succ]
  refine wpAnyH_take (i := 25) (v := ?_) (op_at rfl) (by kernel_rfl) (by kernel_rfl) (by kernel_rfl) (fun _ _ _ h => h) (Or.inl ⟨by rfl, ?_⟩) hS ?_; rotate_left; focus ((intro w' hSw; clear hSw; go_simp) <;> with_reducible rfl)
  try simp only [Act.put, List.setIfInBounds_toArray, List.set_cons_zero, List.set_cons_succ]
  refine wpAnyH_take (i := 26) (v := ?_) (op_at rfl) (by kernel_rfl) (by kernel_rfl) (by kernel_rfl) (fun _ _ _ h => h) (Or.inl ⟨by rfl, ?_⟩) hS ?_; rotate_left; focus ((intro w' hSw; obtain ⟨-, q, -⟩ := hSw; have c2 : w'.cell? ⟨bt1, ot1 + c * 8 + 2, none⟩ = some (.int .i64 y.cur.lv) := q.at_ (i := 2) (v := .int .i64 y.cur.lv) rfl; have c3 : w'.cell? ⟨bt1, ot1 + c * 8 + 3, none⟩ = some (.int .u64 (u y.cur.c)) := q.at_ (i := 3) (v := .int .u64 (u y.cur.c)) rfl; have c4 : w'.cell? ⟨bt1, ot1 + c * 8 + 4, none⟩ = some (.int .i64 y.cur.ig) := q.at_ (i := 4) (v := .int .i64 y.cur.ig) rfl; clear q; go_simp) <;> with_reducible rfl)
  try simp only [Act.put, List.setIfInBounds_toArray, List.set_cons_zero, List.set_cons_succ]
  refine wpAnyH_take (i := 27) (v := ?_) (op_at rfl) (by kernel_rfl) (by kernel_rfl) (by kernel_rfl) (fun _ _ _ h => h) (Or.inl ⟨by rfl, ?_⟩) hS ?_; rotate_left; focus ((intro w' hSw; clear hSw; go_simp) <;> with_reducible rfl)
  try simp only [Act.put, List.setIfInBounds_toArray, List.set_cons_zero, List.set_cons_succ]
  refine wpAnyH_take (i := 28) (v := ?_) (op_at rfl) (by kernel_rfl) (by kernel_rfl) (by kernel_rfl) (fun _ _ _ h => h) (Or.inl ⟨by rfl, ?_⟩) hS ?_; rotate_left; focus ((intro w' hSw; clear hSw; go_simp) <;> with_reducible rfl)
  try simp only [Act.put, List.setIfInBounds_toArray, List.set_cons_zero, List.set_cons_succ]
  refine wpAnyH_take (i := 29) (v := ?_) (op_at rfl) (by kernel_rfl) (by kernel_rfl) (by kernel_rfl) (fun _ _ _ h => h) (Or.inl ⟨by rfl, ?_⟩) hS ?_; rotate_left; focus ((intro w' hSw; clear hSw; go_simp) <;> with_reducible rfl)
  try simp only [Act.put, List.setIfInBounds_toArray, List.set_cons_zero, List.set_cons_succ]
  refine wpAnyH_take (i := 30) (v := ?_) (op_at rfl) (by kernel_rfl) (by kernel_rfl) (by kernel_rfl) (fun _ _ _ h => h) (Or.inl ⟨by rfl, ?_⟩) hS ?_; rotate_left; focus ((intro w' hSw; clear hSw; go_simp) <;> with_reducible rfl)
  try simp only [Act.put, List.setIfInBounds_toArray, List.set_cons_zero, List.set_cons_succ]
  refine wpAnyH_take (i := 31) (v := ?_) (op_at rfl) (by kernel_rfl) (by kernel_rfl) (by kernel_rfl) (fun _ _ _ h => h) (Or.inl ⟨by rfl, ?_⟩) hS ?_; rotate_left; focus ((intro w' hSw; obtain ⟨q, -⟩ := hSw; have c2 : w'.cell? ⟨bm, om + k * 8 + 2, none⟩ = some (.int .i64 p.cur.lv) := q.at_ (i := 2) (v := .int .i64 p.cur.lv) rfl; have c3 : w'.cell? ⟨bm, om + k * 8 + 3, none⟩ = some (.int .u64 (u p.cur.c)) := q.at_ (i := 3) (v := .int .u64 (u p.cur.c)) rfl; have c4 : w'.cell? ⟨bm, om + k * 8 + 4, none⟩ = some (.int .i64 p.cur.ig) := q.at_ (i := 4) (v := .int .i64 p.cur.ig) rfl; clear q; go_simp) <;> with_reducible rfl)
  try simp only [Act.put, List.setIfInBounds_toArray, List.set_cons_zero, List.set_cons_succ]
  refine wpAnyH_take (i := 32) (v := ?_) (op_at rfl) (by kernel_rfl) (by kernel_rfl) (by kernel_rfl) (fun _ _ _ h => h) (Or.inl ⟨by rfl, ?_⟩) hS ?_; rotate_left; focus ((intro w' hSw; clear hSw; go_simp) <;> with_reducible rfl)
  try simp only [Act.put, List.setIfInBounds_toArray, List.set_cons_zero, List.set_cons_succ]
  refine wpAnyH_take (i := 33) (v := ?_) (op_at rfl) (by kernel_rfl) (by kernel_rfl) (by kernel_rfl) (fun _ _ _ h => h) (Or.inl ⟨by rfl, ?_⟩) hS ?_; rotate_left; focus ((intro w' hSw; clear hSw; go_simp) <;> with_reducible rfl)
  try simp only [Act.put, List.setIfInBounds_toArray, List.set_cons_zero, List.set_cons_succ]
  refine wpAnyH_take (i := 34) (v := ?_) (op_at rfl) (by kernel_rfl) (by kernel_rfl) (by kernel_rfl) (fun _ _ _ h => h) (Or.inl ⟨by rfl, ?_⟩) hS ?_; rotate_left; focus ((intro w' hSw; clear hSw; go_simp) <;> with_reducible rfl)
  try simp only [Act.put, List.setIfInBounds_toArray, List.set_cons_zero, List.set_cons_succ]
  refine wpAnyH_take (i := 35) (v := ?_) (op_at rfl) (by kernel_rfl) (by kernel_rfl) (by kernel_rfl) (fun _ _ _ h => h) (Or.inl ⟨by rfl, ?_⟩) hS ?_; rotate_left; focus ((intro w' hSw; clear hSw; go_simp) <;> with_reducible rfl)
  try simp only [Act.put, List.setIfInBounds_toArray, List.set_cons_zero, List.set_cons_succ]
  refine wpAnyH_take (i := 36) (v := ?_) (op_at rfl) (by kernel_rfl) (by kernel_rfl) (by kernel_rfl) (fun _ _ _ h => h) (Or.inl ⟨by rfl, ?_⟩) hS ?_; rotate_left; focus ((intro w' hSw; clear hSw; go_simp) <;> with_reducible rfl)
  try simp only [Act.put, List.setIfInBounds_toArray, List.set_cons_zero, List.set_cons_succ]
  refine wpAnyH_ready (rs := [37]) (by kernel_rfl) (by simp) ?_
  refine (AllReadyH.cons (op_at rfl) (fun K hK => ?_) AllReadyH.nil)
  go_simp
  obtain ⟨b0, b1, b2, hb⟩ := hS
  refine (aliveIs H_aliveTt1cInt.out b2).mono ?_
  rintro e w7 ⟨rfl, hB⟩
  refine hK.out _ _ ⟨b0.after hB, b1.after hB, b2.after hB, below_call hb hB⟩ (fun hS => ?_)
  clear hK K hB b0 b1 b2 hb
  try simp only [Act.put, List.setIfInBounds_toArray, List.set_cons_zero, List.set_cons_succ]
  refine wpAnyH_take (i := 38) (v := ?_) (op_at rfl) (by kernel_rfl) (by kernel_rfl) (by kernel_rfl) (fun _ _ _ h => h) (Or.inl ⟨by rfl, ?_⟩) hS ?_; rotate_left; focus ((intro w' hSw; clear hSw; go_simp) <;> with_reducible rfl)
  try simp only [Act.put, List.setIfInBounds_toArray, List.set_cons_zero, List.set_cons_succ]
  refine wpAnyH_take (i := 39) (v := ?_) (op_at rfl) (by kernel_rfl) (by kernel_rfl) (by kernel_rfl) (fun _ _ _ h => h) (Or.inl ⟨by rfl, ?_⟩) hS ?_; rotate_left; focus ((intro w' hSw; clear hSw; go_simp) <;> with_reducible rfl)
  try simp only [Act.put, List.setIfInBounds_toArray, List.set_cons_zero, List.set_cons_succ]
  refine wpAnyH_done (by kernel_rfl) ?_ _
  obtain ⟨b0, b1, b2, hb⟩ := hS
  replace B1 := Lib.hid b0
  clear b0
  replace B3 := Lib.hid b1
  clear b1
  replace B4 := Lib.hid b2
  clear b2
  replace HB := Lib.hid hb
  clear hb
  go_wp2_with fail
  go_ret
  exact ⟨rfl, (by repeat (first | exact HB.out | refine below_alloc ?_ _ | refine Below.drew ?_ | refine below_set ?_ (by omega) _))⟩
theorem starts_walk (sa : Addr) (l : List Sub) (v : Value) (who child : Int) (w : World) (hh : Env sa w) (hl : SubsW w v l) :
    Calls Tryd.prog 7 #[v, .int .i64 who, .int .i64 child] w (Yes w) := by
  have hlen : (l.take 10).length ≤ 1000 := by rw [List.length_take]; omega
  generalize hm : l.take 10 = m at *
  by_cases h0 : startE m who child = 0
  · cases ho : openO m who with
    | some y =>
      rcases exitE_cases m who with ⟨ho', _⟩ | ⟨_, ho'⟩ | ⟨_, ho'⟩
      · rw [ho] at ho'; cases ho'
      · unfold startE at h0; rw [ho'] at h0; cases h0
      · unfold startE at h0; rw [ho'] at h0; cases h0
    | none =>
      obtain ⟨k, p, rfl, hk, hp, hps⟩ := alive_el (open_alive ho).2
      have hr := (open_alive ho).1
      cases hx : childO m child with
      | none => unfold startE at h0; rw [ho, hx] at h0; cases h0
      | some x =>
        obtain ⟨c, rfl, hxc⟩ := childO_some hx
        have hc : c < m.length := (List.getElem?_eq_some_iff.1 hxc).1
        have e1 : startE m (k : Int) (c : Int) = if (x.par == (k : Int)) = true ∧ (x.st == 0) = true then (if underL p.cur x.high then 0 else 120) else 162 := by
          unfold startE; rw [ho, hx, Int.toNat_natCast, hp]
        have e2 : startL m (k : Int) (c : Int) = if (x.par == (k : Int)) = true ∧ (x.st == 0) = true then (if underL p.cur x.high then m.set c { x with st := 1, cur := p.cur } else []) else [] := by
          unfold startL; rw [ho, hx, Int.toNat_natCast, Int.toNat_natCast, hp]
        by_cases h1 : (x.par == (k : Int)) = true ∧ (x.st == 0) = true
        · rw [if_pos h1] at e1 e2
          cases hu : underL p.cur x.high
          · rw [hu] at e1; rw [e1] at h0; cases h0
          · rw [hu, if_pos rfl] at e1 e2
            obtain ⟨hkc, hru⟩ := start_right hr hp hps hxc (beq_iff_eq.1 h1.1) (beq_iff_eq.1 h1.2) hu
            have hy : (m.set c { x with st := 1, cur := p.cur })[c]? = some { x with st := 1, cur := p.cur } := List.getElem?_set_self hc
            have hpu : (m.set c { x with st := 1, cur := p.cur })[k]? = some p := by rw [List.getElem?_set_ne (by omega)]; exact hp
            have ha1 : aliveT (m.set c { x with st := 1, cur := p.cur }) (k : Int) = true := alive_iff.2 ⟨hru, p, hpu, hps⟩
            have ha2 : aliveT (m.set c { x with st := 1, cur := p.cur }) (c : Int) = true := alive_iff.2 ⟨hru, _, hy, rfl⟩
            have ho1 := open_none.2 ⟨hru, ha1⟩
            have ho2 := open_none.2 ⟨hru, ha2⟩
            have hz : exitL (m.set c { x with st := 1, cur := p.cur }) (c : Int) = (m.set c { x with st := 1, cur := p.cur }).set c { x with st := 2, cur := p.cur } := by unfold exitL; rw [ho2, Int.toNat_natCast, hy]
            have hrz := exit_right hru hy rfl
            have hlu : c < (m.set c { x with st := 1, cur := p.cur }).length := by rw [List.length_set]; exact hc
            have hyz : ((m.set c { x with st := 1, cur := p.cur }).set c { x with st := 2, cur := p.cur })[c]? = some { x with st := 2, cur := p.cur } := List.getElem?_set_self hlu
            have hpz : ((m.set c { x with st := 1, cur := p.cur }).set c { x with st := 2, cur := p.cur })[k]? = some p := by rw [List.getElem?_set_ne (by omega)]; exact hpu
            have ho3 := open_none.2 ⟨hrz, alive_iff.2 ⟨hrz, p, hpz, hps⟩⟩
            refine starts_ok sa l m _ _ _ _ v k c p _ w hh hl hp hy hm e1 e2 hlen (startE_162 ho1 hy (by decide : (1 : Int) ≠ 0)) rfl (by rw [List.length_set]; exact hlen) (by unfold exitE; rw [ho2]) hz (startE_162 ho3 hyz (by decide : (2 : Int) ≠ 0)) rfl (by rw [List.length_set, List.length_set]; exact hlen) (eqL_self _) ha2 (by rw [List.length_set]; simp) (by omega) (by omega) (by omega) (by omega) rfl
        · rw [if_neg h1] at e1; rw [e1] at h0; cases h0
  · refine starts_no sa l m _ v who child _ w hh hl hm rfl rfl hlen (bne_iff_ne.2 h0) ?_
    have : startL m who child = [] := by
      unfold startE at h0
      unfold startL
      cases ho : openO m who with
      | some y => rfl
      | none =>
        rw [ho] at h0
        cases hx : childO m child with
        | none => rfl
        | some x =>
          rw [hx] at h0
          dsimp only at h0 ⊢
          split
          · rename_i h1
            rw [if_pos h1] at h0
            cases hp : m[who.toNat]? with
            | none => rfl
            | some p =>
              rw [hp] at h0
              dsimp only at h0 ⊢
              split
              · rename_i hu; rw [if_pos hu] at h0; exact absurd rfl h0
              · rfl
          · rfl
    rw [this]; rfl
end Go.Proofs.YteepgbkblgcegaaDoor
