/-
  LAW 16: SubjectEnds (printed by wip/genlaw16.py).
-/
import Derived.Test.YteepgbkblgcegaaDoorM1
import Derived.Test.YteepgbkblgcegaaDoorMxLawP
namespace Go.Proofs.YteepgbkblgcegaaDoor
open Go.RowKit

attribute [local go_sem] u_and u_or u_andNot u_add u_sub u_bit u_eq_zero u_beq

set_option maxRecDepth 100000 in
set_option maxHeartbeats 8000000 in
theorem ends_s (sa : Addr) (l m t1 : List Sub) (v : Value) (who other : Int) (a : Lab) (w : World) (hh : Env sa w) (hl0 : SubsW w (v) l) (h_few_l : l.take 10 = m) (h_exitE_m_who : exitE m who = 160) (h_exitL_m_who : exitL m who = t1) (h_len_m : m.length ≤ 1000) :
    Calls Tryd.prog 6 #[v, .int .i64 who, .int .i64 other, .agg #[.int .i64 a.lv, .int .u64 (u a.c), .int .i64 a.ig]] w (Yes w) := by
  have HH := Lib.hid hh
  clear hh
  have H_few_l := Lib.hid h_few_l
  clear h_few_l
  have H_exitE_m_who := Lib.hid h_exitE_m_who
  clear h_exitE_m_who
  have H_exitL_m_who := Lib.hid h_exitL_m_who
  clear h_exitL_m_who
  have H_len_m := Lib.hid h_len_m
  clear h_len_m
  have B0 := Lib.hid hl0
  clear hl0
  have HB := Lib.hid (Below.refl w.heap.size w)
  go_enter Tryd.func6, Tryd.ntmps6
  go_wp2_with fail
  refine (shown_any sa _ (HH.out.up (by repeat (first | exact HB.out | refine below_alloc ?_ _ | refine Below.drew ?_ | refine below_set ?_ (by omega) _)))).mono ?_
  rintro e w1 ⟨rfl, hB⟩
  replace HB := Lib.hid (below_call (w := w) (by repeat (first | exact HB.out | refine below_alloc ?_ _ | refine Below.drew ?_ | refine below_set ?_ (by omega) _)) hB)
  have z1 : w.heap.size ≤ w1.heap.size := HB.out.size
  replace B0 : Hid (SubsW w1 (v) l) := Lib.hid (SubsW.after (by repeat (first | exact B0.out | refine SubsW.drew ?_ | refine SubsW.alloc ?_ _)) hB)
  clear hB
  go_wp2_with fail
  refine (fewIs H_few_l.out (by repeat (first | exact B0.out | refine SubsW.drew ?_ | refine SubsW.alloc ?_ _))).mono ?_
  rintro e w' ⟨A1, c1, rfl, hR1, rfl⟩
  have B2 := Lib.hid (show SubsW w1 (.slice A1 m.length c1) m from hR1)
  clear hR1
  go_wp2_with fail
  refine (exitIs H_exitE_m_who.out H_exitL_m_who.out H_len_m.out (HH.out.up (by repeat (first | exact HB.out | refine below_alloc ?_ _ | refine Below.drew ?_ | refine below_set ?_ (by omega) _))).h (by repeat (first | exact B2.out | refine SubsW.drew ?_ | refine SubsW.alloc ?_ _))).mono ?_
  rintro e w2 ⟨A2, c2, rfl, hR2, hB⟩
  replace HB := Lib.hid (below_call (w := w) (by repeat (first | exact HB.out | refine below_alloc ?_ _ | refine Below.drew ?_ | refine below_set ?_ (by omega) _)) hB)
  have z2 : w.heap.size ≤ w2.heap.size := HB.out.size
  clear hB
  have B3 := Lib.hid (show SubsW w2 (.slice A2 t1.length c2) t1 from hR2)
  clear hR2
  go_wp2_with fail
  go_ret
  exact ⟨rfl, (by repeat (first | exact HB.out | refine below_alloc ?_ _ | refine Below.drew ?_ | refine below_set ?_ (by omega) _))⟩
set_option maxRecDepth 100000 in
set_option maxHeartbeats 8000000 in
theorem ends_d (sa : Addr) (l m t1 : List Sub) (v : Value) (who other : Int) (a : Lab) (w : World) (hh : Env sa w) (hl0 : SubsW w (v) l) (h_few_l : l.take 10 = m) (h_exitE_m_who : exitE m who = 161) (h_exitL_m_who : exitL m who = t1) (h_len_m : m.length ≤ 1000) :
    Calls Tryd.prog 6 #[v, .int .i64 who, .int .i64 other, .agg #[.int .i64 a.lv, .int .u64 (u a.c), .int .i64 a.ig]] w (Yes w) := by
  have HH := Lib.hid hh
  clear hh
  have H_few_l := Lib.hid h_few_l
  clear h_few_l
  have H_exitE_m_who := Lib.hid h_exitE_m_who
  clear h_exitE_m_who
  have H_exitL_m_who := Lib.hid h_exitL_m_who
  clear h_exitL_m_who
  have H_len_m := Lib.hid h_len_m
  clear h_len_m
  have B0 := Lib.hid hl0
  clear hl0
  have HB := Lib.hid (Below.refl w.heap.size w)
  go_enter Tryd.func6, Tryd.ntmps6
  go_wp2_with fail
  refine (shown_any sa _ (HH.out.up (by repeat (first | exact HB.out | refine below_alloc ?_ _ | refine Below.drew ?_ | refine below_set ?_ (by omega) _)))).mono ?_
  rintro e w1 ⟨rfl, hB⟩
  replace HB := Lib.hid (below_call (w := w) (by repeat (first | exact HB.out | refine below_alloc ?_ _ | refine Below.drew ?_ | refine below_set ?_ (by omega) _)) hB)
  have z1 : w.heap.size ≤ w1.heap.size := HB.out.size
  replace B0 : Hid (SubsW w1 (v) l) := Lib.hid (SubsW.after (by repeat (first | exact B0.out | refine SubsW.drew ?_ | refine SubsW.alloc ?_ _)) hB)
  clear hB
  go_wp2_with fail
  refine (fewIs H_few_l.out (by repeat (first | exact B0.out | refine SubsW.drew ?_ | refine SubsW.alloc ?_ _))).mono ?_
  rintro e w' ⟨A1, c1, rfl, hR1, rfl⟩
  have B2 := Lib.hid (show SubsW w1 (.slice A1 m.length c1) m from hR1)
  clear hR1
  go_wp2_with fail
  refine (exitIs H_exitE_m_who.out H_exitL_m_who.out H_len_m.out (HH.out.up (by repeat (first | exact HB.out | refine below_alloc ?_ _ | refine Below.drew ?_ | refine below_set ?_ (by omega) _))).h (by repeat (first | exact B2.out | refine SubsW.drew ?_ | refine SubsW.alloc ?_ _))).mono ?_
  rintro e w2 ⟨A2, c2, rfl, hR2, hB⟩
  replace HB := Lib.hid (below_call (w := w) (by repeat (first | exact HB.out | refine below_alloc ?_ _ | refine Below.drew ?_ | refine below_set ?_ (by omega) _)) hB)
  have z2 : w.heap.size ≤ w2.heap.size := HB.out.size
  clear hB
  have B3 := Lib.hid (show SubsW w2 (.slice A2 t1.length c2) t1 from hR2)
  clear hR2
  go_wp2_with fail
  go_ret
  exact ⟨rfl, (by repeat (first | exact HB.out | refine below_alloc ?_ _ | refine Below.drew ?_ | refine below_set ?_ (by omega) _))⟩
set_option maxRecDepth 100000 in
set_option maxHeartbeats 8000000 in
theorem ends_ok (sa : Addr) (l m t1 x1 x2 x3 x4 : List Sub) (v : Value) (who other i : Int) (a : Lab) (w : World) (hh : Env sa w) (hl0 : SubsW w (v) l) (h_few_l : l.take 10 = m) (h_exitE_m_who : exitE m who = 0) (h_exitL_m_who : exitL m who = t1) (h_len_m : m.length ≤ 1000) (h_exitE_t1_who : exitE t1 who = 161) (h_exitL_t1_who : exitL t1 who = x1) (h_len_t1 : t1.length ≤ 1000) (h_sfloatE_t1_whoa : sfloatE t1 who a = 161) (h_sfloatL_t1_whoa : sfloatL t1 who a = x2) (h_startE_t1_whoother : startE t1 who other = 161) (h_startL_t1_whoother : startL t1 who other = x3) (h_startE_t1_otherwho : startE t1 other who = i) (h_startL_t1_otherwho : startL t1 other who = x4) (h_aliveTt1who : aliveT t1 who = false) (v0 : (i != 0) = true) :
    Calls Tryd.prog 6 #[v, .int .i64 who, .int .i64 other, .agg #[.int .i64 a.lv, .int .u64 (u a.c), .int .i64 a.ig]] w (Yes w) := by
  have HH := Lib.hid hh
  clear hh
  have H_few_l := Lib.hid h_few_l
  clear h_few_l
  have H_exitE_m_who := Lib.hid h_exitE_m_who
  clear h_exitE_m_who
  have H_exitL_m_who := Lib.hid h_exitL_m_who
  clear h_exitL_m_who
  have H_len_m := Lib.hid h_len_m
  clear h_len_m
  have H_exitE_t1_who := Lib.hid h_exitE_t1_who
  clear h_exitE_t1_who
  have H_exitL_t1_who := Lib.hid h_exitL_t1_who
  clear h_exitL_t1_who
  have H_len_t1 := Lib.hid h_len_t1
  clear h_len_t1
  have H_sfloatE_t1_whoa := Lib.hid h_sfloatE_t1_whoa
  clear h_sfloatE_t1_whoa
  have H_sfloatL_t1_whoa := Lib.hid h_sfloatL_t1_whoa
  clear h_sfloatL_t1_whoa
  have H_startE_t1_whoother := Lib.hid h_startE_t1_whoother
  clear h_startE_t1_whoother
  have H_startL_t1_whoother := Lib.hid h_startL_t1_whoother
  clear h_startL_t1_whoother
  have H_startE_t1_otherwho := Lib.hid h_startE_t1_otherwho
  clear h_startE_t1_otherwho
  have H_startL_t1_otherwho := Lib.hid h_startL_t1_otherwho
  clear h_startL_t1_otherwho
  have H_aliveTt1who := Lib.hid h_aliveTt1who
  clear h_aliveTt1who
  have B0 := Lib.hid hl0
  clear hl0
  have HB := Lib.hid (Below.refl w.heap.size w)
  go_enter Tryd.func6, Tryd.ntmps6
  go_wp2_with fail
  refine (shown_any sa _ (HH.out.up (by repeat (first | exact HB.out | refine below_alloc ?_ _ | refine Below.drew ?_ | refine below_set ?_ (by omega) _)))).mono ?_
  rintro e w1 ⟨rfl, hB⟩
  replace HB := Lib.hid (below_call (w := w) (by repeat (first | exact HB.out | refine below_alloc ?_ _ | refine Below.drew ?_ | refine below_set ?_ (by omega) _)) hB)
  have z1 : w.heap.size ≤ w1.heap.size := HB.out.size
  replace B0 : Hid (SubsW w1 (v) l) := Lib.hid (SubsW.after (by repeat (first | exact B0.out | refine SubsW.drew ?_ | refine SubsW.alloc ?_ _)) hB)
  have B1 : Hid (Blk w1 (w.heap.size) 25 #[.int .i64 a.lv, .int .u64 (u a.c), .int .i64 a.ig]) := Lib.hid (Blk.after (by repeat (first | exact Blk.new' (by simp; done) | exact Blk.new' rfl | refine Blk.drew ?_ | refine Blk.alloc ?_ _)) hB)
  clear hB
  go_wp2_with fail
  refine (fewIs H_few_l.out (by repeat (first | exact B0.out | refine SubsW.drew ?_ | refine SubsW.alloc ?_ _))).mono ?_
  rintro e w' ⟨A1, c1, rfl, hR1, rfl⟩
  have B2 := Lib.hid (show SubsW w1 (.slice A1 m.length c1) m from hR1)
  clear hR1
  go_wp2_with fail
  refine (exitIs H_exitE_m_who.out H_exitL_m_who.out H_len_m.out (HH.out.up (by repeat (first | exact HB.out | refine below_alloc ?_ _ | refine Below.drew ?_ | refine below_set ?_ (by omega) _))).h (by repeat (first | exact B2.out | refine SubsW.drew ?_ | refine SubsW.alloc ?_ _))).mono ?_
  rintro e w2 ⟨A2, c2, rfl, hR2, hB⟩
  replace HB := Lib.hid (below_call (w := w) (by repeat (first | exact HB.out | refine below_alloc ?_ _ | refine Below.drew ?_ | refine below_set ?_ (by omega) _)) hB)
  have z2 : w.heap.size ≤ w2.heap.size := HB.out.size
  replace B1 : Hid (Blk w2 (w.heap.size) 25 #[.int .i64 a.lv, .int .u64 (u a.c), .int .i64 a.ig]) := Lib.hid (Blk.after (by repeat (first | exact B1.out | exact Blk.new' (by simp; done) | exact Blk.new' rfl | refine Blk.drew ?_ | refine Blk.alloc ?_ _)) hB)
  clear hB
  have B3 := Lib.hid (show SubsW w2 (.slice A2 t1.length c2) t1 from hR2)
  clear hR2
  go_wp2_with fail
  refine (exitIs H_exitE_t1_who.out H_exitL_t1_who.out H_len_t1.out (HH.out.up (by repeat (first | exact HB.out | refine below_alloc ?_ _ | refine Below.drew ?_ | refine below_set ?_ (by omega) _))).h (by repeat (first | exact B3.out | refine SubsW.drew ?_ | refine SubsW.alloc ?_ _))).mono ?_
  rintro e w3 ⟨A3, c3, rfl, hR3, hB⟩
  replace HB := Lib.hid (below_call (w := w) (by repeat (first | exact HB.out | refine below_alloc ?_ _ | refine Below.drew ?_ | refine below_set ?_ (by omega) _)) hB)
  have z3 : w.heap.size ≤ w3.heap.size := HB.out.size
  replace B1 : Hid (Blk w3 (w.heap.size) 25 #[.int .i64 a.lv, .int .u64 (u a.c), .int .i64 a.ig]) := Lib.hid (Blk.after (by repeat (first | exact B1.out | exact Blk.new' (by simp; done) | exact Blk.new' rfl | refine Blk.drew ?_ | refine Blk.alloc ?_ _)) hB)
  replace B3 : Hid (SubsW w3 (.slice A2 t1.length c2) t1) := Lib.hid (SubsW.after (by repeat (first | exact B3.out | refine SubsW.drew ?_ | refine SubsW.alloc ?_ _)) hB)
  clear hB
  have B4 := Lib.hid (show SubsW w3 (.slice A3 x1.length c3) x1 from hR3)
  clear hR3
  have p1_0 := B1.out.at_ (i := 0) (v := .int .i64 a.lv) rfl
  have p1_1 := B1.out.at_ (i := 1) (v := .int .u64 (u a.c)) rfl
  have p1_2 := B1.out.at_ (i := 2) (v := .int .i64 a.ig) rfl
  have k1_0 : w.heap.size < w3.heap.size := by have := B1.out.lt; omega
  go_wp2_with fail
  refine (sfloatIs H_sfloatE_t1_whoa.out H_sfloatL_t1_whoa.out H_len_t1.out (HH.out.up (by repeat (first | exact HB.out | refine below_alloc ?_ _ | refine Below.drew ?_ | refine below_set ?_ (by omega) _))) (by repeat (first | exact B3.out | refine SubsW.drew ?_ | refine SubsW.alloc ?_ _))).mono ?_
  rintro e w4 ⟨A4, c4, rfl, hR4, hB⟩
  replace HB := Lib.hid (below_call (w := w) (by repeat (first | exact HB.out | refine below_alloc ?_ _ | refine Below.drew ?_ | refine below_set ?_ (by omega) _)) hB)
  have z4 : w.heap.size ≤ w4.heap.size := HB.out.size
  replace B3 : Hid (SubsW w4 (.slice A2 t1.length c2) t1) := Lib.hid (SubsW.after (by repeat (first | exact B3.out | refine SubsW.drew ?_ | refine SubsW.alloc ?_ _)) hB)
  clear p1_0 p1_1 p1_2 k1_0
  clear hB
  have B5 := Lib.hid (show SubsW w4 (.slice A4 x2.length c4) x2 from hR4)
  clear hR4
  go_wp2_with fail
  refine (startIs H_startE_t1_whoother.out H_startL_t1_whoother.out H_len_t1.out (HH.out.up (by repeat (first | exact HB.out | refine below_alloc ?_ _ | refine Below.drew ?_ | refine below_set ?_ (by omega) _))).h (by repeat (first | exact B3.out | refine SubsW.drew ?_ | refine SubsW.alloc ?_ _))).mono ?_
  rintro e w5 ⟨A5, c5, rfl, hR5, hB⟩
  replace HB := Lib.hid (below_call (w := w) (by repeat (first | exact HB.out | refine below_alloc ?_ _ | refine Below.drew ?_ | refine below_set ?_ (by omega) _)) hB)
  have z5 : w.heap.size ≤ w5.heap.size := HB.out.size
  replace B3 : Hid (SubsW w5 (.slice A2 t1.length c2) t1) := Lib.hid (SubsW.after (by repeat (first | exact B3.out | refine SubsW.drew ?_ | refine SubsW.alloc ?_ _)) hB)
  clear hB
  have B6 := Lib.hid (show SubsW w5 (.slice A5 x3.length c5) x3 from hR5)
  clear hR5
  go_wp2_with fail
  refine (startIs H_startE_t1_otherwho.out H_startL_t1_otherwho.out H_len_t1.out (HH.out.up (by repeat (first | exact HB.out | refine below_alloc ?_ _ | refine Below.drew ?_ | refine below_set ?_ (by omega) _))).h (by repeat (first | exact B3.out | refine SubsW.drew ?_ | refine SubsW.alloc ?_ _))).mono ?_
  rintro e w6 ⟨A6, c6, rfl, hR6, hB⟩
  replace HB := Lib.hid (below_call (w := w) (by repeat (first | exact HB.out | refine below_alloc ?_ _ | refine Below.drew ?_ | refine below_set ?_ (by omega) _)) hB)
  have z6 : w.heap.size ≤ w6.heap.size := HB.out.size
  replace B3 : Hid (SubsW w6 (.slice A2 t1.length c2) t1) := Lib.hid (SubsW.after (by repeat (first | exact B3.out | refine SubsW.drew ?_ | refine SubsW.alloc ?_ _)) hB)
  clear hB
  have B7 := Lib.hid (show SubsW w6 (.slice A6 x4.length c6) x4 from hR6)
  clear hR6
  go_wp2_with fail
  refine (aliveIs H_aliveTt1who.out (by repeat (first | exact B3.out | refine SubsW.drew ?_ | refine SubsW.alloc ?_ _))).mono ?_
  rintro e w7 ⟨rfl, hB⟩
  replace HB := Lib.hid (below_call (w := w) (by repeat (first | exact HB.out | refine below_alloc ?_ _ | refine Below.drew ?_ | refine below_set ?_ (by omega) _)) hB)
  have z7 : w.heap.size ≤ w7.heap.size := HB.out.size
  clear hB
  go_wp2_with fail
  go_ret
  exact ⟨rfl, (by repeat (first | exact HB.out | refine below_alloc ?_ _ | refine Below.drew ?_ | refine below_set ?_ (by omega) _))⟩
theorem startE_162 {l : List Sub} {who : Int} {c : Nat} {z : Sub} (ho : openO l who = none) (hz : l[c]? = some z) (h : z.st ≠ 0) : startE l who (c : Int) = 162 := by
  unfold startE
  rw [ho, childO_in hz]
  simp [h]
theorem startE_ne {l : List Sub} {who : Int} {c : Nat} {z : Sub} (hz : l[c]? = some z) (h : z.st ≠ 0) : startE l who (c : Int) ≠ 0 := by
  rcases exitE_cases l who with ⟨ho, _⟩ | ⟨_, ho⟩ | ⟨_, ho⟩
  · rw [startE_162 ho hz h]; decide
  · unfold startE; rw [ho]; exact (by decide : (160 : Int) ≠ 0)
  · unfold startE; rw [ho]; exact (by decide : (161 : Int) ≠ 0)
theorem ends_walk (sa : Addr) (l : List Sub) (v : Value) (who other : Int) (a : Lab) (w : World) (hh : Env sa w) (hl : SubsW w v l) :
    Calls Tryd.prog 6 #[v, .int .i64 who, .int .i64 other, .agg #[.int .i64 a.lv, .int .u64 (u a.c), .int .i64 a.ig]] w (Yes w) := by
  have hlen : (l.take 10).length ≤ 1000 := by rw [List.length_take]; omega
  rcases exitE_cases (l.take 10) who with ⟨ho, h0⟩ | ⟨h0, ho⟩ | ⟨h0, ho⟩
  · obtain ⟨k, x, rfl, hk, hx, hs⟩ := alive_el (open_alive ho).2
    have hr := (open_alive ho).1
    have hu : exitL (l.take 10) (k : Int) = (l.take 10).set k { x with st := 2 } := by unfold exitL; rw [ho, Int.toNat_natCast, hx]
    have hz : ((l.take 10).set k { x with st := 2 })[k]? = some { x with st := 2 } := List.getElem?_set_self hk
    have hru := exit_right hr hx hs
    have hda : aliveT ((l.take 10).set k { x with st := 2 }) (k : Int) = false := by rw [alive_in hru hz]; rfl
    have ho2 := open_dead hru hda
    exact ends_ok sa l _ _ _ _ _ _ v (k : Int) other _ a w hh hl rfl h0 hu hlen (by unfold exitE; rw [ho2]) rfl (by rw [List.length_set]; exact hlen) (by unfold sfloatE; rw [ho2]) rfl (by unfold startE; rw [ho2]) rfl rfl rfl hda (bne_iff_ne.2 (startE_ne hz (by decide : (2 : Int) ≠ 0)))
  · exact ends_s sa l _ _ v who other a w hh hl rfl h0 rfl hlen
  · exact ends_d sa l _ _ v who other a w hh hl rfl h0 rfl hlen
end Go.Proofs.YteepgbkblgcegaaDoor
