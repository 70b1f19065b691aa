/-
  LAW 16: SubjectApart (printed by wip/genlaw16.py).
-/
import Derived.Test.YteepgbkblgcegaaDoorM1
import Derived.Test.YteepgbkblgcegaaDoorMxLawQ
namespace Go.Proofs.YteepgbkblgcegaaDoor
open Go.RowKit

attribute [local go_sem] u_and u_or u_andNot u_add u_sub u_bit u_eq_zero u_beq

set_option maxRecDepth 100000 in
set_option maxHeartbeats 8000000 in
theorem apart_core (sa : Addr) (l m t1 : List Sub) (v : Value) (x : Deed) (w : World) (hh : Env sa w) (hl0 : SubsW w (v) l) (h_lt : t1.length = m.length) (h_ap : ∀ (k : Nat) p q, m[k]? = some p → t1[k]? = some q → q = p ∨ (k : Int) = x.who ∨ (modD x = 0 ∧ (k : Int) = x.ch ∧ p.par = x.who)) (h_few_l : l.take 10 = m) (h_done_m_x : doneL m x = t1) (h_len_m : m.length ≤ 1000) (v0 : ((t1.length : Int) != (m.length : Int)) = false) :
    Calls Tryd.prog 5 #[v, .agg #[.int .i64 x.d, .int .i64 x.who, .int .i64 x.ch, .int .i64 x.a.lv, .int .u64 (u x.a.c), .int .i64 x.a.ig]] w (Yes w) := by
  have HH := Lib.hid hh
  clear hh
  have H_lt := Lib.hid h_lt
  clear h_lt
  have H_ap := Lib.hid h_ap
  clear h_ap
  have H_few_l := Lib.hid h_few_l
  clear h_few_l
  have H_done_m_x := Lib.hid h_done_m_x
  clear h_done_m_x
  have H_len_m := Lib.hid h_len_m
  clear h_len_m
  have B0 := Lib.hid hl0
  clear hl0
  have HB := Lib.hid (Below.refl w.heap.size w)
  go_enter Tryd.func5, Tryd.ntmps5
  go_wp2_with fail
  refine (shown_any sa _ (HH.out.up (by repeat (first | exact HB.out | refine below_alloc ?_ _ | refine Below.drew ?_ | refine below_set ?_ (by omega) _)))).mono ?_
  rintro e w1 ⟨rfl, hB⟩
  replace HB := Lib.hid (below_call (w := w) (by repeat (first | exact HB.out | refine below_alloc ?_ _ | refine Below.drew ?_ | refine below_set ?_ (by omega) _)) hB)
  have z1 : w.heap.size ≤ w1.heap.size := HB.out.size
  replace B0 : Hid (SubsW w1 (v) l) := Lib.hid (SubsW.after (by repeat (first | exact B0.out | refine SubsW.drew ?_ | refine SubsW.alloc ?_ _)) hB)
  have B1 : Hid (Blk w1 (w.heap.size) 39 #[.int .i64 x.d, .int .i64 x.who, .int .i64 x.ch, .int .i64 x.a.lv, .int .u64 (u x.a.c), .int .i64 x.a.ig]) := Lib.hid (Blk.after (by repeat (first | exact Blk.new' (by simp; done) | exact Blk.new' rfl | refine Blk.drew ?_ | refine Blk.alloc ?_ _)) hB)
  clear hB
  go_wp2_with fail
  refine (fewIs H_few_l.out (by repeat (first | exact B0.out | refine SubsW.drew ?_ | refine SubsW.alloc ?_ _))).mono ?_
  rintro e w' ⟨A1, c1, rfl, hR1, rfl⟩
  have B2 := Lib.hid (show SubsW w1 (.slice A1 m.length c1) m from hR1)
  clear hR1
  have p1_0 := B1.out.at_ (i := 0) (v := .int .i64 x.d) rfl
  have p1_1 := B1.out.at_ (i := 1) (v := .int .i64 x.who) rfl
  have p1_2 := B1.out.at_ (i := 2) (v := .int .i64 x.ch) rfl
  have p1_3 := B1.out.at_ (i := 3) (v := .int .i64 x.a.lv) rfl
  have p1_4 := B1.out.at_ (i := 4) (v := .int .u64 (u x.a.c)) rfl
  have p1_5 := B1.out.at_ (i := 5) (v := .int .i64 x.a.ig) rfl
  have k1_0 : w.heap.size < w1.heap.size := by have := B1.out.lt; omega
  go_wp2_with fail
  refine (doneIs H_done_m_x.out H_len_m.out (HH.out.up (by repeat (first | exact HB.out | refine below_alloc ?_ _ | refine Below.drew ?_ | refine below_set ?_ (by omega) _))) (by repeat (first | exact B2.out | refine SubsW.drew ?_ | refine SubsW.alloc ?_ _))).mono ?_
  rintro e w2 ⟨A2, c2, rfl, hR2, hB⟩
  replace HB := Lib.hid (below_call (w := w) (by repeat (first | exact HB.out | refine below_alloc ?_ _ | refine Below.drew ?_ | refine below_set ?_ (by omega) _)) hB)
  have z2 : w.heap.size ≤ w2.heap.size := HB.out.size
  replace B1 : Hid (Blk w2 (w.heap.size) 39 #[.int .i64 x.d, .int .i64 x.who, .int .i64 x.ch, .int .i64 x.a.lv, .int .u64 (u x.a.c), .int .i64 x.a.ig]) := Lib.hid (Blk.after (by repeat (first | exact B1.out | exact Blk.new' (by simp; done) | exact Blk.new' rfl | refine Blk.drew ?_ | refine Blk.alloc ?_ _)) hB)
  replace B2 : Hid (SubsW w2 (.slice A1 m.length c1) m) := Lib.hid (SubsW.after (by repeat (first | exact B2.out | refine SubsW.drew ?_ | refine SubsW.alloc ?_ _)) hB)
  clear p1_0 p1_1 p1_2 p1_3 p1_4 p1_5 k1_0
  clear hB
  have B3 := Lib.hid (show SubsW w2 (.slice A2 t1.length c2) t1 from hR2)
  clear hR2
  have HB0 := HB
  clear HB
  go_wp2_with fail
  go_loopw [7] (fun i wr => ∃ k : Nat, i = .int .i64 k ∧ k ≤ m.length ∧ Below w2.heap.size w2 wr) (fun i _ => m.length - (intOf i).toNat)
  case atStart => exact ⟨0, rfl, Nat.zero_le _, Below.refl _ _⟩
  case round =>
    obtain ⟨k, rfl, hk, hB⟩ := hrel
    have HB := Lib.hid hB
    clear hB
    by_cases hkl : k < m.length
    · obtain ⟨p, hp⟩ : ∃ p, m[k]? = some p := ⟨_, List.getElem?_eq_getElem hkl⟩
      obtain ⟨y, hq⟩ : ∃ y, t1[k]? = some y := ⟨_, List.getElem?_eq_getElem (by have := H_lt.out; omega)⟩
      have HC := Lib.hid (H_ap.out k p y hp hq)
      obtain ⟨b, off, hA, _, he⟩ := RowsAt.el (B2.out.after HB.out) hp (Nat.le_refl _)
      subst hA
      obtain ⟨sb, soff, hA, _, he2⟩ := RowsAt.el (B3.out.after HB.out) hq (Nat.le_refl _)
      subst hA
      have B2 : Hid (Blk wr w.heap.size 39 #[.int .i64 x.d, .int .i64 x.who, .int .i64 x.ch, .int .i64 x.a.lv, .int .u64 (u x.a.c), .int .i64 x.a.ig]) := Lib.hid (B1.out.after HB.out)
      have B0 := Lib.hid (show Els wr b (off + k * 8) #[.int .i64 p.par, .int .i64 p.st, .int .i64 p.cur.lv, .int .u64 (u p.cur.c), .int .i64 p.cur.ig, .int .i64 p.high.lv, .int .u64 (u p.high.c), .int .i64 p.high.ig] from he)
      have B1 := Lib.hid (show Els wr sb (soff + k * 8) #[.int .i64 y.par, .int .i64 y.st, .int .i64 y.cur.lv, .int .u64 (u y.cur.c), .int .i64 y.cur.ig, .int .i64 y.high.lv, .int .u64 (u y.high.c), .int .i64 y.high.ig] from he2)
      have hml : m.length ≤ 1000 := H_len_m.out
      have hkz : (0 : Int) ≤ (k : Int) := by omega
      have hkz2 : (k : Int) < (m.length : Int) := by omega
      have hkz3 : (k : Int) < (t1.length : Int) := by have := H_lt.out; omega
      clear he he2 hp hq
      cases hqq : eqS y p
      rotate_left
      · have hE : ∀ W, (binOp .neq 41 (.agg #[.int .i64 y.par, .int .i64 y.st, .int .i64 y.cur.lv, .int .u64 (u y.cur.c), .int .i64 y.cur.ig, .int .i64 y.high.lv, .int .u64 (u y.high.c), .int .i64 y.high.ig]) (.agg #[.int .i64 p.par, .int .i64 p.st, .int .i64 p.cur.lv, .int .u64 (u p.cur.c), .int .i64 p.cur.ig, .int .i64 p.high.lv, .int .u64 (u p.high.c), .int .i64 p.high.ig])).run Tryd.prog W = .ok (.bool false) W := fun W => by rw [neq_sub, hqq]; rfl
        clear hqq
        go_wp2_with fail
        refine wp_region_gen (S := (fun W' => Els W' (b) (off + k * 8) #[.int .i64 p.par, .int .i64 p.st, .int .i64 p.cur.lv, .int .u64 (u p.cur.c), .int .i64 p.cur.ig, .int .i64 p.high.lv, .int .u64 (u p.high.c), .int .i64 p.high.ig] ∧ Els W' (sb) (soff + k * 8) #[.int .i64 y.par, .int .i64 y.st, .int .i64 y.cur.lv, .int .u64 (u y.cur.c), .int .i64 y.cur.ig, .int .i64 y.high.lv, .int .u64 (u y.high.c), .int .i64 y.high.ig] ∧ Blk W' (w.heap.size) 39 #[.int .i64 x.d, .int .i64 x.who, .int .i64 x.ch, .int .i64 x.a.lv, .int .u64 (u x.a.c), .int .i64 x.a.ig] ∧ Below w2.heap.size w2 W')) (by kernel_rfl) ⟨(by repeat (first | exact B0.out | refine Els.drew ?_ | refine Els.alloc ?_ _)), (by repeat (first | exact B1.out | refine Els.drew ?_ | refine Els.alloc ?_ _)), (by repeat (first | exact B2.out | exact Blk.new' (by simp; done) | exact Blk.new' rfl | refine Blk.drew ?_ | refine Blk.alloc ?_ _)), (by repeat (first | exact HB.out | refine below_alloc ?_ _ | refine Below.drew ?_ | refine below_set ?_ (by omega) _))⟩ (fun w1 hS => ?_)
        refine wpAnyH_take (i := 0) (v := ?_) (op_at rfl) (by kernel_rfl) (by kernel_rfl) (by kernel_rfl) (fun _ _ _ h => h) (Or.inl ⟨by rfl, ?_⟩) hS ?_; rotate_left; focus ((intro w' hSw; clear hSw; go_simp) <;> with_reducible rfl)
        try simp only [Act.put, List.setIfInBounds_toArray, List.set_cons_zero, List.set_cons_succ]
        refine wpAnyH_take (i := 1) (v := ?_) (op_at rfl) (by kernel_rfl) (by kernel_rfl) (by kernel_rfl) (fun _ _ _ h => h) (Or.inl ⟨by rfl, ?_⟩) hS ?_; rotate_left; focus ((intro w' hSw; clear hSw; go_simp) <;> with_reducible rfl)
        try simp only [Act.put, List.setIfInBounds_toArray, List.set_cons_zero, List.set_cons_succ]
        refine wpAnyH_take (i := 2) (v := ?_) (op_at rfl) (by kernel_rfl) (by kernel_rfl) (by kernel_rfl) (fun _ _ _ h => h) (Or.inl ⟨by rfl, ?_⟩) hS ?_; rotate_left; focus ((intro w' hSw; clear hSw; go_simp) <;> with_reducible rfl)
        try simp only [Act.put, List.setIfInBounds_toArray, List.set_cons_zero, List.set_cons_succ]
        refine wpAnyH_take (i := 3) (v := ?_) (op_at rfl) (by kernel_rfl) (by kernel_rfl) (by kernel_rfl) (fun _ _ _ h => h) (Or.inl ⟨by rfl, ?_⟩) hS ?_; rotate_left; focus ((intro w' hSw; obtain ⟨-, q, -⟩ := hSw; have c0 : w'.cell? ⟨sb, soff + k * 8, none⟩ = some (.int .i64 y.par) := q.at_ (i := 0) (v := .int .i64 y.par) rfl; have c1 : w'.cell? ⟨sb, soff + k * 8 + 1, none⟩ = some (.int .i64 y.st) := q.at_ (i := 1) (v := .int .i64 y.st) rfl; have c2 : w'.cell? ⟨sb, soff + k * 8 + 2, none⟩ = some (.int .i64 y.cur.lv) := q.at_ (i := 2) (v := .int .i64 y.cur.lv) rfl; have c3 : w'.cell? ⟨sb, soff + k * 8 + 3, none⟩ = some (.int .u64 (u y.cur.c)) := q.at_ (i := 3) (v := .int .u64 (u y.cur.c)) rfl; have c4 : w'.cell? ⟨sb, soff + k * 8 + 4, none⟩ = some (.int .i64 y.cur.ig) := q.at_ (i := 4) (v := .int .i64 y.cur.ig) rfl; have c5 : w'.cell? ⟨sb, soff + k * 8 + 5, none⟩ = some (.int .i64 y.high.lv) := q.at_ (i := 5) (v := .int .i64 y.high.lv) rfl; have c6 : w'.cell? ⟨sb, soff + k * 8 + 6, none⟩ = some (.int .u64 (u y.high.c)) := q.at_ (i := 6) (v := .int .u64 (u y.high.c)) rfl; have c7 : w'.cell? ⟨sb, soff + k * 8 + 7, none⟩ = some (.int .i64 y.high.ig) := q.at_ (i := 7) (v := .int .i64 y.high.ig) rfl; clear q; go_simp) <;> with_reducible rfl)
        try simp only [Act.put, List.setIfInBounds_toArray, List.set_cons_zero, List.set_cons_succ]
        refine wpAnyH_take (i := 4) (v := ?_) (op_at rfl) (by kernel_rfl) (by kernel_rfl) (by kernel_rfl) (fun _ _ _ h => h) (Or.inl ⟨by rfl, ?_⟩) hS ?_; rotate_left; focus ((intro w' hSw; clear hSw; go_simp) <;> with_reducible rfl)
        try simp only [Act.put, List.setIfInBounds_toArray, List.set_cons_zero, List.set_cons_succ]
        refine wpAnyH_take (i := 5) (v := ?_) (op_at rfl) (by kernel_rfl) (by kernel_rfl) (by kernel_rfl) (fun _ _ _ h => h) (Or.inl ⟨by rfl, ?_⟩) hS ?_; rotate_left; focus ((intro w' hSw; clear hSw; go_simp) <;> with_reducible rfl)
        try simp only [Act.put, List.setIfInBounds_toArray, List.set_cons_zero, List.set_cons_succ]
        refine wpAnyH_take (i := 6) (v := ?_) (op_at rfl) (by kernel_rfl) (by kernel_rfl) (by kernel_rfl) (fun _ _ _ h => h) (Or.inl ⟨by rfl, ?_⟩) hS ?_; rotate_left; focus ((intro w' hSw; clear hSw; go_simp) <;> with_reducible rfl)
        try simp only [Act.put, List.setIfInBounds_toArray, List.set_cons_zero, List.set_cons_succ]
        refine wpAnyH_take (i := 7) (v := ?_) (op_at rfl) (by kernel_rfl) (by kernel_rfl) (by kernel_rfl) (fun _ _ _ h => h) (Or.inl ⟨by rfl, ?_⟩) hS ?_; rotate_left; focus ((intro w' hSw; obtain ⟨q, -⟩ := hSw; have c0 : w'.cell? ⟨b, off + k * 8, none⟩ = some (.int .i64 p.par) := q.at_ (i := 0) (v := .int .i64 p.par) rfl; have c1 : w'.cell? ⟨b, off + k * 8 + 1, none⟩ = some (.int .i64 p.st) := q.at_ (i := 1) (v := .int .i64 p.st) rfl; have c2 : w'.cell? ⟨b, off + k * 8 + 2, none⟩ = some (.int .i64 p.cur.lv) := q.at_ (i := 2) (v := .int .i64 p.cur.lv) rfl; have c3 : w'.cell? ⟨b, off + k * 8 + 3, none⟩ = some (.int .u64 (u p.cur.c)) := q.at_ (i := 3) (v := .int .u64 (u p.cur.c)) rfl; have c4 : w'.cell? ⟨b, off + k * 8 + 4, none⟩ = some (.int .i64 p.cur.ig) := q.at_ (i := 4) (v := .int .i64 p.cur.ig) rfl; have c5 : w'.cell? ⟨b, off + k * 8 + 5, none⟩ = some (.int .i64 p.high.lv) := q.at_ (i := 5) (v := .int .i64 p.high.lv) rfl; have c6 : w'.cell? ⟨b, off + k * 8 + 6, none⟩ = some (.int .u64 (u p.high.c)) := q.at_ (i := 6) (v := .int .u64 (u p.high.c)) rfl; have c7 : w'.cell? ⟨b, off + k * 8 + 7, none⟩ = some (.int .i64 p.high.ig) := q.at_ (i := 7) (v := .int .i64 p.high.ig) rfl; clear q; go_simp) <;> with_reducible rfl)
        try simp only [Act.put, List.setIfInBounds_toArray, List.set_cons_zero, List.set_cons_succ]
        refine wpAnyH_take (i := 8) (v := ?_) (op_at rfl) (by kernel_rfl) (by kernel_rfl) (by kernel_rfl) (fun _ _ _ h => h) (Or.inl ⟨by rfl, ?_⟩) hS ?_; rotate_left; focus ((intro w' hSw; clear hSw; go_simp) <;> with_reducible rfl)
        try simp only [Act.put, List.setIfInBounds_toArray, List.set_cons_zero, List.set_cons_succ]
        refine wpAnyH_take (i := 9) (v := ?_) (op_at rfl) (by kernel_rfl) (by kernel_rfl) (by kernel_rfl) (fun _ _ _ h => h) (Or.inl ⟨by rfl, ?_⟩) hS ?_; rotate_left; focus ((intro w' hSw; clear hSw; go_simp) <;> with_reducible rfl)
        try simp only [Act.put, List.setIfInBounds_toArray, List.set_cons_zero, List.set_cons_succ]
        refine wpAnyH_take (i := 10) (v := undef) (op_at rfl) (by kernel_rfl) (by kernel_rfl) (by kernel_rfl) (fun _ _ _ h => h) (Or.inr ⟨by rfl, rfl⟩) hS ?_
        try simp only [Act.put, List.setIfInBounds_toArray, List.set_cons_zero, List.set_cons_succ]
        refine wpAnyH_take (i := 11) (v := undef) (op_at rfl) (by kernel_rfl) (by kernel_rfl) (by kernel_rfl) (fun _ _ _ h => h) (Or.inr ⟨by rfl, rfl⟩) hS ?_
        try simp only [Act.put, List.setIfInBounds_toArray, List.set_cons_zero, List.set_cons_succ]
        refine wpAnyH_take (i := 12) (v := undef) (op_at rfl) (by kernel_rfl) (by kernel_rfl) (by kernel_rfl) (fun _ _ _ h => h) (Or.inr ⟨by rfl, rfl⟩) hS ?_
        try simp only [Act.put, List.setIfInBounds_toArray, List.set_cons_zero, List.set_cons_succ]
        refine wpAnyH_take (i := 13) (v := undef) (op_at rfl) (by kernel_rfl) (by kernel_rfl) (by kernel_rfl) (fun _ _ _ h => h) (Or.inr ⟨by rfl, rfl⟩) hS ?_
        try simp only [Act.put, List.setIfInBounds_toArray, List.set_cons_zero, List.set_cons_succ]
        refine wpAnyH_take (i := 14) (v := ?_) (op_at rfl) (by kernel_rfl) (by kernel_rfl) (by kernel_rfl) (fun _ _ _ h => h) (Or.inl ⟨by rfl, ?_⟩) hS ?_; rotate_left; focus ((intro w' hSw; clear hSw; go_simp) <;> with_reducible rfl)
        try simp only [Act.put, List.setIfInBounds_toArray, List.set_cons_zero, List.set_cons_succ]
        refine wpAnyH_take (i := 15) (v := ?_) (op_at rfl) (by kernel_rfl) (by kernel_rfl) (by kernel_rfl) (fun _ _ _ h => h) (Or.inl ⟨by rfl, ?_⟩) hS ?_; rotate_left; focus ((intro w' hSw; clear hSw; go_simp) <;> with_reducible rfl)
        try simp only [Act.put, List.setIfInBounds_toArray, List.set_cons_zero, List.set_cons_succ]
        refine wpAnyH_take (i := 16) (v := undef) (op_at rfl) (by kernel_rfl) (by kernel_rfl) (by kernel_rfl) (fun _ _ _ h => h) (Or.inr ⟨by rfl, rfl⟩) hS ?_
        try simp only [Act.put, List.setIfInBounds_toArray, List.set_cons_zero, List.set_cons_succ]
        refine wpAnyH_take (i := 17) (v := undef) (op_at rfl) (by kernel_rfl) (by kernel_rfl) (by kernel_rfl) (fun _ _ _ h => h) (Or.inr ⟨by rfl, rfl⟩) hS ?_
        try simp only [Act.put, List.setIfInBounds_toArray, List.set_cons_zero, List.set_cons_succ]
        refine wpAnyH_take (i := 18) (v := undef) (op_at rfl) (by kernel_rfl) (by kernel_rfl) (by kernel_rfl) (fun _ _ _ h => h) (Or.inr ⟨by rfl, rfl⟩) hS ?_
        try simp only [Act.put, List.setIfInBounds_toArray, List.set_cons_zero, List.set_cons_succ]
        refine wpAnyH_take (i := 19) (v := undef) (op_at rfl) (by kernel_rfl) (by kernel_rfl) (by kernel_rfl) (fun _ _ _ h => h) (Or.inr ⟨by rfl, rfl⟩) hS ?_
        try simp only [Act.put, List.setIfInBounds_toArray, List.set_cons_zero, List.set_cons_succ]
        refine wpAnyH_take (i := 20) (v := undef) (op_at rfl) (by kernel_rfl) (by kernel_rfl) (by kernel_rfl) (fun _ _ _ h => h) (Or.inr ⟨by rfl, rfl⟩) hS ?_
        try simp only [Act.put, List.setIfInBounds_toArray, List.set_cons_zero, List.set_cons_succ]
        refine wpAnyH_take (i := 21) (v := undef) (op_at rfl) (by kernel_rfl) (by kernel_rfl) (by kernel_rfl) (fun _ _ _ h => h) (Or.inr ⟨by rfl, rfl⟩) hS ?_
        try simp only [Act.put, List.setIfInBounds_toArray, List.set_cons_zero, List.set_cons_succ]
        refine wpAnyH_take (i := 22) (v := undef) (op_at rfl) (by kernel_rfl) (by kernel_rfl) (by kernel_rfl) (fun _ _ _ h => h) (Or.inr ⟨by rfl, rfl⟩) hS ?_
        try simp only [Act.put, List.setIfInBounds_toArray, List.set_cons_zero, List.set_cons_succ]
        refine wpAnyH_take (i := 23) (v := undef) (op_at rfl) (by kernel_rfl) (by kernel_rfl) (by kernel_rfl) (fun _ _ _ h => h) (Or.inr ⟨by rfl, rfl⟩) hS ?_
        try simp only [Act.put, List.setIfInBounds_toArray, List.set_cons_zero, List.set_cons_succ]
        refine wpAnyH_take (i := 24) (v := undef) (op_at rfl) (by kernel_rfl) (by kernel_rfl) (by kernel_rfl) (fun _ _ _ h => h) (Or.inr ⟨by rfl, rfl⟩) hS ?_
        try simp only [Act.put, List.setIfInBounds_toArray, List.set_cons_zero, List.set_cons_succ]
        refine wpAnyH_take (i := 25) (v := undef) (op_at rfl) (by kernel_rfl) (by kernel_rfl) (by kernel_rfl) (fun _ _ _ h => h) (Or.inr ⟨by rfl, rfl⟩) hS ?_
        try simp only [Act.put, List.setIfInBounds_toArray, List.set_cons_zero, List.set_cons_succ]
        refine wpAnyH_take (i := 26) (v := undef) (op_at rfl) (by kernel_rfl) (by kernel_rfl) (by kernel_rfl) (fun _ _ _ h => h) (Or.inr ⟨by rfl, rfl⟩) hS ?_
        try simp only [Act.put, List.setIfInBounds_toArray, List.set_cons_zero, List.set_cons_succ]
        refine wpAnyH_take (i := 27) (v := undef) (op_at rfl) (by kernel_rfl) (by kernel_rfl) (by kernel_rfl) (fun _ _ _ h => h) (Or.inr ⟨by rfl, rfl⟩) hS ?_
        try simp only [Act.put, List.setIfInBounds_toArray, List.set_cons_zero, List.set_cons_succ]
        refine wpAnyH_take (i := 28) (v := undef) (op_at rfl) (by kernel_rfl) (by kernel_rfl) (by kernel_rfl) (fun _ _ _ h => h) (Or.inr ⟨by rfl, rfl⟩) hS ?_
        try simp only [Act.put, List.setIfInBounds_toArray, List.set_cons_zero, List.set_cons_succ]
        refine wpAnyH_take (i := 29) (v := undef) (op_at rfl) (by kernel_rfl) (by kernel_rfl) (by kernel_rfl) (fun _ _ _ h => h) (Or.inr ⟨by rfl, rfl⟩) hS ?_
        try simp only [Act.put, List.setIfInBounds_toArray, List.set_cons_zero, List.set_cons_succ]
        refine wpAnyH_take (i := 30) (v := undef) (op_at rfl) (by kernel_rfl) (by kernel_rfl) (by kernel_rfl) (fun _ _ _ h => h) (Or.inr ⟨by rfl, rfl⟩) hS ?_
        try simp only [Act.put, List.setIfInBounds_toArray, List.set_cons_zero, List.set_cons_succ]
        refine wpAnyH_take (i := 31) (v := undef) (op_at rfl) (by kernel_rfl) (by kernel_rfl) (by kernel_rfl) (fun _ _ _ h => h) (Or.inr ⟨by rfl, rfl⟩) hS ?_
        try simp only [Act.put, List.setIfInBounds_toArray, List.set_cons_zero, List.set_cons_succ]
        refine wpAnyH_take (i := 32) (v := undef) (op_at rfl) (by kernel_rfl) (by kernel_rfl) (by kernel_rfl) (fun _ _ _ h => h) (Or.inr ⟨by rfl, rfl⟩) hS ?_
        try simp only [Act.put, List.setIfInBounds_toArray, List.set_cons_zero, List.set_cons_succ]
        refine wpAnyH_take (i := 33) (v := undef) (op_at rfl) (by kernel_rfl) (by kernel_rfl) (by kernel_rfl) (fun _ _ _ h => h) (Or.inr ⟨by rfl, rfl⟩) hS ?_
        try simp only [Act.put, List.setIfInBounds_toArray, List.set_cons_zero, List.set_cons_succ]
        refine wpAnyH_take (i := 34) (v := undef) (op_at rfl) (by kernel_rfl) (by kernel_rfl) (by kernel_rfl) (fun _ _ _ h => h) (Or.inr ⟨by rfl, rfl⟩) hS ?_
        try simp only [Act.put, List.setIfInBounds_toArray, List.set_cons_zero, List.set_cons_succ]
        refine wpAnyH_take (i := 35) (v := undef) (op_at rfl) (by kernel_rfl) (by kernel_rfl) (by kernel_rfl) (fun _ _ _ h => h) (Or.inr ⟨by rfl, rfl⟩) hS ?_
        try simp only [Act.put, List.setIfInBounds_toArray, List.set_cons_zero, List.set_cons_succ]
        refine wpAnyH_take (i := 36) (v := undef) (op_at rfl) (by kernel_rfl) (by kernel_rfl) (by kernel_rfl) (fun _ _ _ h => h) (Or.inr ⟨by rfl, rfl⟩) hS ?_
        try simp only [Act.put, List.setIfInBounds_toArray, List.set_cons_zero, List.set_cons_succ]
        refine wpAnyH_take (i := 37) (v := ?_) (op_at rfl) (by kernel_rfl) (by kernel_rfl) (by kernel_rfl) (fun _ _ _ h => h) (Or.inl ⟨by rfl, ?_⟩) hS ?_; rotate_left; focus ((intro w' hSw; clear hSw; go_simp) <;> with_reducible rfl)
        try simp only [Act.put, List.setIfInBounds_toArray, List.set_cons_zero, List.set_cons_succ]
        refine wpAnyH_done (by kernel_rfl) ?_ _
        obtain ⟨b0, b1, b2, hb⟩ := hS
        replace B0 := Lib.hid b0
        clear b0
        replace B1 := Lib.hid b1
        clear b1
        replace B2 := Lib.hid b2
        clear b2
        replace HB := Lib.hid hb
        clear hb
        go_wp2_with fail
        go_roundw
        case rel => exact ⟨k + 1, by go_num, by omega, HB.out⟩
        case measure => simp [intOf]; omega
      have hE : ∀ W, (binOp .neq 41 (.agg #[.int .i64 y.par, .int .i64 y.st, .int .i64 y.cur.lv, .int .u64 (u y.cur.c), .int .i64 y.cur.ig, .int .i64 y.high.lv, .int .u64 (u y.high.c), .int .i64 y.high.ig]) (.agg #[.int .i64 p.par, .int .i64 p.st, .int .i64 p.cur.lv, .int .u64 (u p.cur.c), .int .i64 p.cur.ig, .int .i64 p.high.lv, .int .u64 (u p.high.c), .int .i64 p.high.ig])).run Tryd.prog W = .ok (.bool true) W := fun W => by rw [neq_sub, hqq]; rfl
      have HQ := Lib.hid hqq
      clear hqq
      rcases HC.out with h | h | ⟨h1, h2, h3⟩
      · exfalso
        have h9 := HQ.out
        rw [eqS_iff.2 h] at h9; cases h9
      · have c1 : ((k : Int) != x.who) = false := by rw [h]; simp
        clear h
        go_wp2_with fail
        refine wp_region_gen (S := (fun W' => Els W' (b) (off + k * 8) #[.int .i64 p.par, .int .i64 p.st, .int .i64 p.cur.lv, .int .u64 (u p.cur.c), .int .i64 p.cur.ig, .int .i64 p.high.lv, .int .u64 (u p.high.c), .int .i64 p.high.ig] ∧ Els W' (sb) (soff + k * 8) #[.int .i64 y.par, .int .i64 y.st, .int .i64 y.cur.lv, .int .u64 (u y.cur.c), .int .i64 y.cur.ig, .int .i64 y.high.lv, .int .u64 (u y.high.c), .int .i64 y.high.ig] ∧ Blk W' (w.heap.size) 39 #[.int .i64 x.d, .int .i64 x.who, .int .i64 x.ch, .int .i64 x.a.lv, .int .u64 (u x.a.c), .int .i64 x.a.ig] ∧ Below w2.heap.size w2 W')) (by kernel_rfl) ⟨(by repeat (first | exact B0.out | refine Els.drew ?_ | refine Els.alloc ?_ _)), (by repeat (first | exact B1.out | refine Els.drew ?_ | refine Els.alloc ?_ _)), (by repeat (first | exact B2.out | exact Blk.new' (by simp; done) | exact Blk.new' rfl | refine Blk.drew ?_ | refine Blk.alloc ?_ _)), (by repeat (first | exact HB.out | refine below_alloc ?_ _ | refine Below.drew ?_ | refine below_set ?_ (by omega) _))⟩ (fun w1 hS => ?_)
        refine wpAnyH_take (i := 0) (v := ?_) (op_at rfl) (by kernel_rfl) (by kernel_rfl) (by kernel_rfl) (fun _ _ _ h => h) (Or.inl ⟨by rfl, ?_⟩) hS ?_; rotate_left; focus ((intro w' hSw; clear hSw; go_simp) <;> with_reducible rfl)
        try simp only [Act.put, List.setIfInBounds_toArray, List.set_cons_zero, List.set_cons_succ]
        refine wpAnyH_take (i := 1) (v := ?_) (op_at rfl) (by kernel_rfl) (by kernel_rfl) (by kernel_rfl) (fun _ _ _ h => h) (Or.inl ⟨by rfl, ?_⟩) hS ?_; rotate_left; focus ((intro w' hSw; clear hSw; go_simp) <;> with_reducible rfl)
        try simp only [Act.put, List.setIfInBounds_toArray, List.set_cons_zero, List.set_cons_succ]
        refine wpAnyH_take (i := 2) (v := ?_) (op_at rfl) (by kernel_rfl) (by kernel_rfl) (by kernel_rfl) (fun _ _ _ h => h) (Or.inl ⟨by rfl, ?_⟩) hS ?_; rotate_left; focus ((intro w' hSw; clear hSw; go_simp) <;> with_reducible rfl)
        try simp only [Act.put, List.setIfInBounds_toArray, List.set_cons_zero, List.set_cons_succ]
        refine wpAnyH_take (i := 3) (v := ?_) (op_at rfl) (by kernel_rfl) (by kernel_rfl) (by kernel_rfl) (fun _ _ _ h => h) (Or.inl ⟨by rfl, ?_⟩) hS ?_; rotate_left; focus ((intro w' hSw; obtain ⟨-, q, -⟩ := hSw; have c0 : w'.cell? ⟨sb, soff + k * 8, none⟩ = some (.int .i64 y.par) := q.at_ (i := 0) (v := .int .i64 y.par) rfl; have c1 : w'.cell? ⟨sb, soff + k * 8 + 1, none⟩ = some (.int .i64 y.st) := q.at_ (i := 1) (v := .int .i64 y.st) rfl; have c2 : w'.cell? ⟨sb, soff + k * 8 + 2, none⟩ = some (.int .i64 y.cur.lv) := q.at_ (i := 2) (v := .int .i64 y.cur.lv) rfl; have c3 : w'.cell? ⟨sb, soff + k * 8 + 3, none⟩ = some (.int .u64 (u y.cur.c)) := q.at_ (i := 3) (v := .int .u64 (u y.cur.c)) rfl; have c4 : w'.cell? ⟨sb, soff + k * 8 + 4, none⟩ = some (.int .i64 y.cur.ig) := q.at_ (i := 4) (v := .int .i64 y.cur.ig) rfl; have c5 : w'.cell? ⟨sb, soff + k * 8 + 5, none⟩ = some (.int .i64 y.high.lv) := q.at_ (i := 5) (v := .int .i64 y.high.lv) rfl; have c6 : w'.cell? ⟨sb, soff + k * 8 + 6, none⟩ = some (.int .u64 (u y.high.c)) := q.at_ (i := 6) (v := .int .u64 (u y.high.c)) rfl; have c7 : w'.cell? ⟨sb, soff + k * 8 + 7, none⟩ = some (.int .i64 y.high.ig) := q.at_ (i := 7) (v := .int .i64 y.high.ig) rfl; clear q; go_simp) <;> with_reducible rfl)
        try simp only [Act.put, List.setIfInBounds_toArray, List.set_cons_zero, List.set_cons_succ]
        refine wpAnyH_take (i := 4) (v := ?_) (op_at rfl) (by kernel_rfl) (by kernel_rfl) (by kernel_rfl) (fun _ _ _ h => h) (Or.inl ⟨by rfl, ?_⟩) hS ?_; rotate_left; focus ((intro w' hSw; clear hSw; go_simp) <;> with_reducible rfl)
        try simp only [Act.put, List.setIfInBounds_toArray, List.set_cons_zero, List.set_cons_succ]
        refine wpAnyH_take (i := 5) (v := ?_) (op_at rfl) (by kernel_rfl) (by kernel_rfl) (by kernel_rfl) (fun _ _ _ h => h) (Or.inl ⟨by rfl, ?_⟩) hS ?_; rotate_left; focus ((intro w' hSw; clear hSw; go_simp) <;> with_reducible rfl)
        try simp only [Act.put, List.setIfInBounds_toArray, List.set_cons_zero, List.set_cons_succ]
        refine wpAnyH_take (i := 6) (v := ?_) (op_at rfl) (by kernel_rfl) (by kernel_rfl) (by kernel_rfl) (fun _ _ _ h => h) (Or.inl ⟨by rfl, ?_⟩) hS ?_; rotate_left; focus ((intro w' hSw; clear hSw; go_simp) <;> with_reducible rfl)
        try simp only [Act.put, List.setIfInBounds_toArray, List.set_cons_zero, List.set_cons_succ]
        refine wpAnyH_take (i := 7) (v := ?_) (op_at rfl) (by kernel_rfl) (by kernel_rfl) (by kernel_rfl) (fun _ _ _ h => h) (Or.inl ⟨by rfl, ?_⟩) hS ?_; rotate_left; focus ((intro w' hSw; obtain ⟨q, -⟩ := hSw; have c0 : w'.cell? ⟨b, off + k * 8, none⟩ = some (.int .i64 p.par) := q.at_ (i := 0) (v := .int .i64 p.par) rfl; have c1 : w'.cell? ⟨b, off + k * 8 + 1, none⟩ = some (.int .i64 p.st) := q.at_ (i := 1) (v := .int .i64 p.st) rfl; have c2 : w'.cell? ⟨b, off + k * 8 + 2, none⟩ = some (.int .i64 p.cur.lv) := q.at_ (i := 2) (v := .int .i64 p.cur.lv) rfl; have c3 : w'.cell? ⟨b, off + k * 8 + 3, none⟩ = some (.int .u64 (u p.cur.c)) := q.at_ (i := 3) (v := .int .u64 (u p.cur.c)) rfl; have c4 : w'.cell? ⟨b, off + k * 8 + 4, none⟩ = some (.int .i64 p.cur.ig) := q.at_ (i := 4) (v := .int .i64 p.cur.ig) rfl; have c5 : w'.cell? ⟨b, off + k * 8 + 5, none⟩ = some (.int .i64 p.high.lv) := q.at_ (i := 5) (v := .int .i64 p.high.lv) rfl; have c6 : w'.cell? ⟨b, off + k * 8 + 6, none⟩ = some (.int .u64 (u p.high.c)) := q.at_ (i := 6) (v := .int .u64 (u p.high.c)) rfl; have c7 : w'.cell? ⟨b, off + k * 8 + 7, none⟩ = some (.int .i64 p.high.ig) := q.at_ (i := 7) (v := .int .i64 p.high.ig) rfl; clear q; go_simp) <;> with_reducible rfl)
        try simp only [Act.put, List.setIfInBounds_toArray, List.set_cons_zero, List.set_cons_succ]
        refine wpAnyH_take (i := 8) (v := ?_) (op_at rfl) (by kernel_rfl) (by kernel_rfl) (by kernel_rfl) (fun _ _ _ h => h) (Or.inl ⟨by rfl, ?_⟩) hS ?_; rotate_left; focus ((intro w' hSw; clear hSw; go_simp) <;> with_reducible rfl)
        try simp only [Act.put, List.setIfInBounds_toArray, List.set_cons_zero, List.set_cons_succ]
        refine wpAnyH_take (i := 9) (v := ?_) (op_at rfl) (by kernel_rfl) (by kernel_rfl) (by kernel_rfl) (fun _ _ _ h => h) (Or.inl ⟨by rfl, ?_⟩) hS ?_; rotate_left; focus ((intro w' hSw; clear hSw; go_simp) <;> with_reducible rfl)
        try simp only [Act.put, List.setIfInBounds_toArray, List.set_cons_zero, List.set_cons_succ]
        refine wpAnyH_take (i := 10) (v := ?_) (op_at rfl) (by kernel_rfl) (by kernel_rfl) (by kernel_rfl) (fun _ _ _ h => h) (Or.inl ⟨by rfl, ?_⟩) hS ?_; rotate_left; focus ((intro w' hSw; clear hSw; go_simp) <;> with_reducible rfl)
        try simp only [Act.put, List.setIfInBounds_toArray, List.set_cons_zero, List.set_cons_succ]
        refine wpAnyH_take (i := 11) (v := ?_) (op_at rfl) (by kernel_rfl) (by kernel_rfl) (by kernel_rfl) (fun _ _ _ h => h) (Or.inl ⟨by rfl, ?_⟩) hS ?_; rotate_left; focus ((intro w' hSw; clear hSw; go_simp) <;> with_reducible rfl)
        try simp only [Act.put, List.setIfInBounds_toArray, List.set_cons_zero, List.set_cons_succ]
        refine wpAnyH_take (i := 12) (v := ?_) (op_at rfl) (by kernel_rfl) (by kernel_rfl) (by kernel_rfl) (fun _ _ _ h => h) (Or.inl ⟨by rfl, ?_⟩) hS ?_; rotate_left; focus ((intro w' hSw; obtain ⟨-, -, q, -⟩ := hSw; have c1 := q.at_ (i := 1) (v := .int .i64 x.who) rfl; clear q; go_simp) <;> with_reducible rfl)
        try simp only [Act.put, List.setIfInBounds_toArray, List.set_cons_zero, List.set_cons_succ]
        refine wpAnyH_take (i := 13) (v := ?_) (op_at rfl) (by kernel_rfl) (by kernel_rfl) (by kernel_rfl) (fun _ _ _ h => h) (Or.inl ⟨by rfl, ?_⟩) hS ?_; rotate_left; focus ((intro w' hSw; clear hSw; go_simp) <;> with_reducible rfl)
        try simp only [Act.put, List.setIfInBounds_toArray, List.set_cons_zero, List.set_cons_succ]
        refine wpAnyH_take (i := 14) (v := ?_) (op_at rfl) (by kernel_rfl) (by kernel_rfl) (by kernel_rfl) (fun _ _ _ h => h) (Or.inl ⟨by rfl, ?_⟩) hS ?_; rotate_left; focus ((intro w' hSw; clear hSw; go_simp) <;> with_reducible rfl)
        try simp only [Act.put, List.setIfInBounds_toArray, List.set_cons_zero, List.set_cons_succ]
        refine wpAnyH_take (i := 15) (v := ?_) (op_at rfl) (by kernel_rfl) (by kernel_rfl) (by kernel_rfl) (fun _ _ _ h => h) (Or.inl ⟨by rfl, ?_⟩) hS ?_; rotate_left; focus ((intro w' hSw; clear hSw; go_simp) <;> with_reducible rfl)
        try simp only [Act.put, List.setIfInBounds_toArray, List.set_cons_zero, List.set_cons_succ]
        refine wpAnyH_take (i := 16) (v := undef) (op_at rfl) (by kernel_rfl) (by kernel_rfl) (by kernel_rfl) (fun _ _ _ h => h) (Or.inr ⟨by rfl, rfl⟩) hS ?_
        try simp only [Act.put, List.setIfInBounds_toArray, List.set_cons_zero, List.set_cons_succ]
        refine wpAnyH_take (i := 17) (v := undef) (op_at rfl) (by kernel_rfl) (by kernel_rfl) (by kernel_rfl) (fun _ _ _ h => h) (Or.inr ⟨by rfl, rfl⟩) hS ?_
        try simp only [Act.put, List.setIfInBounds_toArray, List.set_cons_zero, List.set_cons_succ]
        refine wpAnyH_take (i := 18) (v := undef) (op_at rfl) (by kernel_rfl) (by kernel_rfl) (by kernel_rfl) (fun _ _ _ h => h) (Or.inr ⟨by rfl, rfl⟩) hS ?_
        try simp only [Act.put, List.setIfInBounds_toArray, List.set_cons_zero, List.set_cons_succ]
        refine wpAnyH_take (i := 19) (v := undef) (op_at rfl) (by kernel_rfl) (by kernel_rfl) (by kernel_rfl) (fun _ _ _ h => h) (Or.inr ⟨by rfl, rfl⟩) hS ?_
        try simp only [Act.put, List.setIfInBounds_toArray, List.set_cons_zero, List.set_cons_succ]
        refine wpAnyH_take (i := 20) (v := undef) (op_at rfl) (by kernel_rfl) (by kernel_rfl) (by kernel_rfl) (fun _ _ _ h => h) (Or.inr ⟨by rfl, rfl⟩) hS ?_
        try simp only [Act.put, List.setIfInBounds_toArray, List.set_cons_zero, List.set_cons_succ]
        refine wpAnyH_take (i := 21) (v := undef) (op_at rfl) (by kernel_rfl) (by kernel_rfl) (by kernel_rfl) (fun _ _ _ h => h) (Or.inr ⟨by rfl, rfl⟩) hS ?_
        try simp only [Act.put, List.setIfInBounds_toArray, List.set_cons_zero, List.set_cons_succ]
        refine wpAnyH_take (i := 22) (v := undef) (op_at rfl) (by kernel_rfl) (by kernel_rfl) (by kernel_rfl) (fun _ _ _ h => h) (Or.inr ⟨by rfl, rfl⟩) hS ?_
        try simp only [Act.put, List.setIfInBounds_toArray, List.set_cons_zero, List.set_cons_succ]
        refine wpAnyH_take (i := 23) (v := undef) (op_at rfl) (by kernel_rfl) (by kernel_rfl) (by kernel_rfl) (fun _ _ _ h => h) (Or.inr ⟨by rfl, rfl⟩) hS ?_
        try simp only [Act.put, List.setIfInBounds_toArray, List.set_cons_zero, List.set_cons_succ]
        refine wpAnyH_take (i := 24) (v := undef) (op_at rfl) (by kernel_rfl) (by kernel_rfl) (by kernel_rfl) (fun _ _ _ h => h) (Or.inr ⟨by rfl, rfl⟩) hS ?_
        try simp only [Act.put, List.setIfInBounds_toArray, List.set_cons_zero, List.set_cons_succ]
        refine wpAnyH_take (i := 25) (v := undef) (op_at rfl) (by kernel_rfl) (by kernel_rfl) (by kernel_rfl) (fun _ _ _ h => h) (Or.inr ⟨by rfl, rfl⟩) hS ?_
        try simp only [Act.put, List.setIfInBounds_toArray, List.set_cons_zero, List.set_cons_succ]
        refine wpAnyH_take (i := 26) (v := undef) (op_at rfl) (by kernel_rfl) (by kernel_rfl) (by kernel_rfl) (fun _ _ _ h => h) (Or.inr ⟨by rfl, rfl⟩) hS ?_
        try simp only [Act.put, List.setIfInBounds_toArray, List.set_cons_zero, List.set_cons_succ]
        refine wpAnyH_take (i := 27) (v := undef) (op_at rfl) (by kernel_rfl) (by kernel_rfl) (by kernel_rfl) (fun _ _ _ h => h) (Or.inr ⟨by rfl, rfl⟩) hS ?_
        try simp only [Act.put, List.setIfInBounds_toArray, List.set_cons_zero, List.set_cons_succ]
        refine wpAnyH_take (i := 28) (v := undef) (op_at rfl) (by kernel_rfl) (by kernel_rfl) (by kernel_rfl) (fun _ _ _ h => h) (Or.inr ⟨by rfl, rfl⟩) hS ?_
        try simp only [Act.put, List.setIfInBounds_toArray, List.set_cons_zero, List.set_cons_succ]
        refine wpAnyH_take (i := 29) (v := undef) (op_at rfl) (by kernel_rfl) (by kernel_rfl) (by kernel_rfl) (fun _ _ _ h => h) (Or.inr ⟨by rfl, rfl⟩) hS ?_
        try simp only [Act.put, List.setIfInBounds_toArray, List.set_cons_zero, List.set_cons_succ]
        refine wpAnyH_take (i := 30) (v := undef) (op_at rfl) (by kernel_rfl) (by kernel_rfl) (by kernel_rfl) (fun _ _ _ h => h) (Or.inr ⟨by rfl, rfl⟩) hS ?_
        try simp only [Act.put, List.setIfInBounds_toArray, List.set_cons_zero, List.set_cons_succ]
        refine wpAnyH_take (i := 31) (v := undef) (op_at rfl) (by kernel_rfl) (by kernel_rfl) (by kernel_rfl) (fun _ _ _ h => h) (Or.inr ⟨by rfl, rfl⟩) hS ?_
        try simp only [Act.put, List.setIfInBounds_toArray, List.set_cons_zero, List.set_cons_succ]
        refine wpAnyH_take (i := 32) (v := undef) (op_at rfl) (by kernel_rfl) (by kernel_rfl) (by kernel_rfl) (fun _ _ _ h => h) (Or.inr ⟨by rfl, rfl⟩) hS ?_
        try simp only [Act.put, List.setIfInBounds_toArray, List.set_cons_zero, List.set_cons_succ]
        refine wpAnyH_take (i := 33) (v := undef) (op_at rfl) (by kernel_rfl) (by kernel_rfl) (by kernel_rfl) (fun _ _ _ h => h) (Or.inr ⟨by rfl, rfl⟩) hS ?_
        try simp only [Act.put, List.setIfInBounds_toArray, List.set_cons_zero, List.set_cons_succ]
        refine wpAnyH_take (i := 34) (v := undef) (op_at rfl) (by kernel_rfl) (by kernel_rfl) (by kernel_rfl) (fun _ _ _ h => h) (Or.inr ⟨by rfl, rfl⟩) hS ?_
        try simp only [Act.put, List.setIfInBounds_toArray, List.set_cons_zero, List.set_cons_succ]
        refine wpAnyH_take (i := 35) (v := undef) (op_at rfl) (by kernel_rfl) (by kernel_rfl) (by kernel_rfl) (fun _ _ _ h => h) (Or.inr ⟨by rfl, rfl⟩) hS ?_
        try simp only [Act.put, List.setIfInBounds_toArray, List.set_cons_zero, List.set_cons_succ]
        refine wpAnyH_take (i := 36) (v := undef) (op_at rfl) (by kernel_rfl) (by kernel_rfl) (by kernel_rfl) (fun _ _ _ h => h) (Or.inr ⟨by rfl, rfl⟩) hS ?_
        try simp only [Act.put, List.setIfInBounds_toArray, List.set_cons_zero, List.set_cons_succ]
        refine wpAnyH_take (i := 37) (v := ?_) (op_at rfl) (by kernel_rfl) (by kernel_rfl) (by kernel_rfl) (fun _ _ _ h => h) (Or.inl ⟨by rfl, ?_⟩) hS ?_; rotate_left; focus ((intro w' hSw; clear hSw; go_simp) <;> with_reducible rfl)
        try simp only [Act.put, List.setIfInBounds_toArray, List.set_cons_zero, List.set_cons_succ]
        refine wpAnyH_done (by kernel_rfl) ?_ _
        obtain ⟨b0, b1, b2, hb⟩ := hS
        replace B0 := Lib.hid b0
        clear b0
        replace B1 := Lib.hid b1
        clear b1
        replace B2 := Lib.hid b2
        clear b2
        replace HB := Lib.hid hb
        clear hb
        go_wp2_with fail
        go_roundw
        case rel => exact ⟨k + 1, by go_num, by omega, HB.out⟩
        case measure => simp [intOf]; omega
      · by_cases h : (k : Int) = x.who
        · have c1 : ((k : Int) != x.who) = false := by rw [h]; simp
          clear h h1 h2 h3
          go_wp2_with fail
          refine wp_region_gen (S := (fun W' => Els W' (b) (off + k * 8) #[.int .i64 p.par, .int .i64 p.st, .int .i64 p.cur.lv, .int .u64 (u p.cur.c), .int .i64 p.cur.ig, .int .i64 p.high.lv, .int .u64 (u p.high.c), .int .i64 p.high.ig] ∧ Els W' (sb) (soff + k * 8) #[.int .i64 y.par, .int .i64 y.st, .int .i64 y.cur.lv, .int .u64 (u y.cur.c), .int .i64 y.cur.ig, .int .i64 y.high.lv, .int .u64 (u y.high.c), .int .i64 y.high.ig] ∧ Blk W' (w.heap.size) 39 #[.int .i64 x.d, .int .i64 x.who, .int .i64 x.ch, .int .i64 x.a.lv, .int .u64 (u x.a.c), .int .i64 x.a.ig] ∧ Below w2.heap.size w2 W')) (by kernel_rfl) ⟨(by repeat (first | exact B0.out | refine Els.drew ?_ | refine Els.alloc ?_ _)), (by repeat (first | exact B1.out | refine Els.drew ?_ | refine Els.alloc ?_ _)), (by repeat (first | exact B2.out | exact Blk.new' (by simp; done) | exact Blk.new' rfl | refine Blk.drew ?_ | refine Blk.alloc ?_ _)), (by repeat (first | exact HB.out | refine below_alloc ?_ _ | refine Below.drew ?_ | refine below_set ?_ (by omega) _))⟩ (fun w1 hS => ?_)
          refine wpAnyH_take (i := 0) (v := ?_) (op_at rfl) (by kernel_rfl) (by kernel_rfl) (by kernel_rfl) (fun _ _ _ h => h) (Or.inl ⟨by rfl, ?_⟩) hS ?_; rotate_left; focus ((intro w' hSw; clear hSw; go_simp) <;> with_reducible rfl)
          try simp only [Act.put, List.setIfInBounds_toArray, List.set_cons_zero, List.set_cons_succ]
          refine wpAnyH_take (i := 1) (v := ?_) (op_at rfl) (by kernel_rfl) (by kernel_rfl) (by kernel_rfl) (fun _ _ _ h => h) (Or.inl ⟨by rfl, ?_⟩) hS ?_; rotate_left; focus ((intro w' hSw; clear hSw; go_simp) <;> with_reducible rfl)
          try simp only [Act.put, List.setIfInBounds_toArray, List.set_cons_zero, List.set_cons_succ]
          refine wpAnyH_take (i := 2) (v := ?_) (op_at rfl) (by kernel_rfl) (by kernel_rfl) (by kernel_rfl) (fun _ _ _ h => h) (Or.inl ⟨by rfl, ?_⟩) hS ?_; rotate_left; focus ((intro w' hSw; clear hSw; go_simp) <;> with_reducible rfl)
          try simp only [Act.put, List.setIfInBounds_toArray, List.set_cons_zero, List.set_cons_succ]
          refine wpAnyH_take (i := 3) (v := ?_) (op_at rfl) (by kernel_rfl) (by kernel_rfl) (by kernel_rfl) (fun _ _ _ h => h) (Or.inl ⟨by rfl, ?_⟩) hS ?_; rotate_left; focus ((intro w' hSw; obtain ⟨-, q, -⟩ := hSw; have c0 : w'.cell? ⟨sb, soff + k * 8, none⟩ = some (.int .i64 y.par) := q.at_ (i := 0) (v := .int .i64 y.par) rfl; have c1 : w'.cell? ⟨sb, soff + k * 8 + 1, none⟩ = some (.int .i64 y.st) := q.at_ (i := 1) (v := .int .i64 y.st) rfl; have c2 : w'.cell? ⟨sb, soff + k * 8 + 2, none⟩ = some (.int .i64 y.cur.lv) := q.at_ (i := 2) (v := .int .i64 y.cur.lv) rfl; have c3 : w'.cell? ⟨sb, soff + k * 8 + 3, none⟩ = some (.int .u64 (u y.cur.c)) := q.at_ (i := 3) (v := .int .u64 (u y.cur.c)) rfl; have c4 : w'.cell? ⟨sb, soff + k * 8 + 4, none⟩ = some (.int .i64 y.cur.ig) := q.at_ (i := 4) (v := .int .i64 y.cur.ig) rfl; have c5 : w'.cell? ⟨sb, soff + k * 8 + 5, none⟩ = some (.int .i64 y.high.lv) := q.at_ (i := 5) (v := .int .i64 y.high.lv) rfl; have c6 : w'.cell? ⟨sb, soff + k * 8 + 6, none⟩ = some (.int .u64 (u y.high.c)) := q.at_ (i := 6) (v := .int .u64 (u y.high.c)) rfl; have c7 : w'.cell? ⟨sb, soff + k * 8 + 7, none⟩ = some (.int .i64 y.high.ig) := q.at_ (i := 7) (v := .int .i64 y.high.ig) rfl; clear q; go_simp) <;> with_reducible rfl)
          try simp only [Act.put, List.setIfInBounds_toArray, List.set_cons_zero, List.set_cons_succ]
          refine wpAnyH_take (i := 4) (v := ?_) (op_at rfl) (by kernel_rfl) (by kernel_rfl) (by kernel_rfl) (fun _ _ _ h => h) (Or.inl ⟨by rfl, ?_⟩) hS ?_; rotate_left; focus ((intro w' hSw; clear hSw; go_simp) <;> with_reducible rfl)
          try simp only [Act.put, List.setIfInBounds_toArray, List.set_cons_zero, List.set_cons_succ]
          refine wpAnyH_take (i := 5) (v := ?_) (op_at rfl) (by kernel_rfl) (by kernel_rfl) (by kernel_rfl) (fun _ _ _ h => h) (Or.inl ⟨by rfl, ?_⟩) hS ?_; rotate_left; focus ((intro w' hSw; clear hSw; go_simp) <;> with_reducible rfl)
          try simp only [Act.put, List.setIfInBounds_toArray, List.set_cons_zero, List.set_cons_succ]
          refine wpAnyH_take (i := 6) (v := ?_) (op_at rfl) (by kernel_rfl) (by kernel_rfl) (by kernel_rfl) (fun _ _ _ h => h) (Or.inl ⟨by rfl, ?_⟩) hS ?_; rotate_left; focus ((intro w' hSw; clear hSw; go_simp) <;> with_reducible rfl)
          try simp only [Act.put, List.setIfInBounds_toArray, List.set_cons_zero, List.set_cons_succ]
          refine wpAnyH_take (i := 7) (v := ?_) (op_at rfl) (by kernel_rfl) (by kernel_rfl) (by kernel_rfl) (fun _ _ _ h => h) (Or.inl ⟨by rfl, ?_⟩) hS ?_; rotate_left; focus ((intro w' hSw; obtain ⟨q, -⟩ := hSw; have c0 : w'.cell? ⟨b, off + k * 8, none⟩ = some (.int .i64 p.par) := q.at_ (i := 0) (v := .int .i64 p.par) rfl; have c1 : w'.cell? ⟨b, off + k * 8 + 1, none⟩ = some (.int .i64 p.st) := q.at_ (i := 1) (v := .int .i64 p.st) rfl; have c2 : w'.cell? ⟨b, off + k * 8 + 2, none⟩ = some (.int .i64 p.cur.lv) := q.at_ (i := 2) (v := .int .i64 p.cur.lv) rfl; have c3 : w'.cell? ⟨b, off + k * 8 + 3, none⟩ = some (.int .u64 (u p.cur.c)) := q.at_ (i := 3) (v := .int .u64 (u p.cur.c)) rfl; have c4 : w'.cell? ⟨b, off + k * 8 + 4, none⟩ = some (.int .i64 p.cur.ig) := q.at_ (i := 4) (v := .int .i64 p.cur.ig) rfl; have c5 : w'.cell? ⟨b, off + k * 8 + 5, none⟩ = some (.int .i64 p.high.lv) := q.at_ (i := 5) (v := .int .i64 p.high.lv) rfl; have c6 : w'.cell? ⟨b, off + k * 8 + 6, none⟩ = some (.int .u64 (u p.high.c)) := q.at_ (i := 6) (v := .int .u64 (u p.high.c)) rfl; have c7 : w'.cell? ⟨b, off + k * 8 + 7, none⟩ = some (.int .i64 p.high.ig) := q.at_ (i := 7) (v := .int .i64 p.high.ig) rfl; clear q; go_simp) <;> with_reducible rfl)
          try simp only [Act.put, List.setIfInBounds_toArray, List.set_cons_zero, List.set_cons_succ]
          refine wpAnyH_take (i := 8) (v := ?_) (op_at rfl) (by kernel_rfl) (by kernel_rfl) (by kernel_rfl) (fun _ _ _ h => h) (Or.inl ⟨by rfl, ?_⟩) hS ?_; rotate_left; focus ((intro w' hSw; clear hSw; go_simp) <;> with_reducible rfl)
          try simp only [Act.put, List.setIfInBounds_toArray, List.set_cons_zero, List.set_cons_succ]
          refine wpAnyH_take (i := 9) (v := ?_) (op_at rfl) (by kernel_rfl) (by kernel_rfl) (by kernel_rfl) (fun _ _ _ h => h) (Or.inl ⟨by rfl, ?_⟩) hS ?_; rotate_left; focus ((intro w' hSw; clear hSw; go_simp) <;> with_reducible rfl)
          try simp only [Act.put, List.setIfInBounds_toArray, List.set_cons_zero, List.set_cons_succ]
          refine wpAnyH_take (i := 10) (v := ?_) (op_at rfl) (by kernel_rfl) (by kernel_rfl) (by kernel_rfl) (fun _ _ _ h => h) (Or.inl ⟨by rfl, ?_⟩) hS ?_; rotate_left; focus ((intro w' hSw; clear hSw; go_simp) <;> with_reducible rfl)
          try simp only [Act.put, List.setIfInBounds_toArray, List.set_cons_zero, List.set_cons_succ]
          refine wpAnyH_take (i := 11) (v := ?_) (op_at rfl) (by kernel_rfl) (by kernel_rfl) (by kernel_rfl) (fun _ _ _ h => h) (Or.inl ⟨by rfl, ?_⟩) hS ?_; rotate_left; focus ((intro w' hSw; clear hSw; go_simp) <;> with_reducible rfl)
          try simp only [Act.put, List.setIfInBounds_toArray, List.set_cons_zero, List.set_cons_succ]
          refine wpAnyH_take (i := 12) (v := ?_) (op_at rfl) (by kernel_rfl) (by kernel_rfl) (by kernel_rfl) (fun _ _ _ h => h) (Or.inl ⟨by rfl, ?_⟩) hS ?_; rotate_left; focus ((intro w' hSw; obtain ⟨-, -, q, -⟩ := hSw; have c1 := q.at_ (i := 1) (v := .int .i64 x.who) rfl; clear q; go_simp) <;> with_reducible rfl)
          try simp only [Act.put, List.setIfInBounds_toArray, List.set_cons_zero, List.set_cons_succ]
          refine wpAnyH_take (i := 13) (v := ?_) (op_at rfl) (by kernel_rfl) (by kernel_rfl) (by kernel_rfl) (fun _ _ _ h => h) (Or.inl ⟨by rfl, ?_⟩) hS ?_; rotate_left; focus ((intro w' hSw; clear hSw; go_simp) <;> with_reducible rfl)
          try simp only [Act.put, List.setIfInBounds_toArray, List.set_cons_zero, List.set_cons_succ]
          refine wpAnyH_take (i := 14) (v := ?_) (op_at rfl) (by kernel_rfl) (by kernel_rfl) (by kernel_rfl) (fun _ _ _ h => h) (Or.inl ⟨by rfl, ?_⟩) hS ?_; rotate_left; focus ((intro w' hSw; clear hSw; go_simp) <;> with_reducible rfl)
          try simp only [Act.put, List.setIfInBounds_toArray, List.set_cons_zero, List.set_cons_succ]
          refine wpAnyH_take (i := 15) (v := ?_) (op_at rfl) (by kernel_rfl) (by kernel_rfl) (by kernel_rfl) (fun _ _ _ h => h) (Or.inl ⟨by rfl, ?_⟩) hS ?_; rotate_left; focus ((intro w' hSw; clear hSw; go_simp) <;> with_reducible rfl)
          try simp only [Act.put, List.setIfInBounds_toArray, List.set_cons_zero, List.set_cons_succ]
          refine wpAnyH_take (i := 16) (v := undef) (op_at rfl) (by kernel_rfl) (by kernel_rfl) (by kernel_rfl) (fun _ _ _ h => h) (Or.inr ⟨by rfl, rfl⟩) hS ?_
          try simp only [Act.put, List.setIfInBounds_toArray, List.set_cons_zero, List.set_cons_succ]
          refine wpAnyH_take (i := 17) (v := undef) (op_at rfl) (by kernel_rfl) (by kernel_rfl) (by kernel_rfl) (fun _ _ _ h => h) (Or.inr ⟨by rfl, rfl⟩) hS ?_
          try simp only [Act.put, List.setIfInBounds_toArray, List.set_cons_zero, List.set_cons_succ]
          refine wpAnyH_take (i := 18) (v := undef) (op_at rfl) (by kernel_rfl) (by kernel_rfl) (by kernel_rfl) (fun _ _ _ h => h) (Or.inr ⟨by rfl, rfl⟩) hS ?_
          try simp only [Act.put, List.setIfInBounds_toArray, List.set_cons_zero, List.set_cons_succ]
          refine wpAnyH_take (i := 19) (v := undef) (op_at rfl) (by kernel_rfl) (by kernel_rfl) (by kernel_rfl) (fun _ _ _ h => h) (Or.inr ⟨by rfl, rfl⟩) hS ?_
          try simp only [Act.put, List.setIfInBounds_toArray, List.set_cons_zero, List.set_cons_succ]
          refine wpAnyH_take (i := 20) (v := undef) (op_at rfl) (by kernel_rfl) (by kernel_rfl) (by kernel_rfl) (fun _ _ _ h => h) (Or.inr ⟨by rfl, rfl⟩) hS ?_
          try simp only [Act.put, List.setIfInBounds_toArray, List.set_cons_zero, List.set_cons_succ]
          refine wpAnyH_take (i := 21) (v := undef) (op_at rfl) (by kernel_rfl) (by kernel_rfl) (by kernel_rfl) (fun _ _ _ h => h) (Or.inr ⟨by rfl, rfl⟩) hS ?_
          try simp only [Act.put, List.setIfInBounds_toArray, List.set_cons_zero, List.set_cons_succ]
          refine wpAnyH_take (i := 22) (v := undef) (op_at rfl) (by kernel_rfl) (by kernel_rfl) (by kernel_rfl) (fun _ _ _ h => h) (Or.inr ⟨by rfl, rfl⟩) hS ?_
          try simp only [Act.put, List.setIfInBounds_toArray, List.set_cons_zero, List.set_cons_succ]
          refine wpAnyH_take (i := 23) (v := undef) (op_at rfl) (by kernel_rfl) (by kernel_rfl) (by kernel_rfl) (fun _ _ _ h => h) (Or.inr ⟨by rfl, rfl⟩) hS ?_
          try simp only [Act.put, List.setIfInBounds_toArray, List.set_cons_zero, List.set_cons_succ]
          refine wpAnyH_take (i := 24) (v := undef) (op_at rfl) (by kernel_rfl) (by kernel_rfl) (by kernel_rfl) (fun _ _ _ h => h) (Or.inr ⟨by rfl, rfl⟩) hS ?_
          try simp only [Act.put, List.setIfInBounds_toArray, List.set_cons_zero, List.set_cons_succ]
          refine wpAnyH_take (i := 25) (v := undef) (op_at rfl) (by kernel_rfl) (by kernel_rfl) (by kernel_rfl) (fun _ _ _ h => h) (Or.inr ⟨by rfl, rfl⟩) hS ?_
          try simp only [Act.put, List.setIfInBounds_toArray, List.set_cons_zero, List.set_cons_succ]
          refine wpAnyH_take (i := 26) (v := undef) (op_at rfl) (by kernel_rfl) (by kernel_rfl) (by kernel_rfl) (fun _ _ _ h => h) (Or.inr ⟨by rfl, rfl⟩) hS ?_
          try simp only [Act.put, List.setIfInBounds_toArray, List.set_cons_zero, List.set_cons_succ]
          refine wpAnyH_take (i := 27) (v := undef) (op_at rfl) (by kernel_rfl) (by kernel_rfl) (by kernel_rfl) (fun _ _ _ h => h) (Or.inr ⟨by rfl, rfl⟩) hS ?_
          try simp only [Act.put, List.setIfInBounds_toArray, List.set_cons_zero, List.set_cons_succ]
          refine wpAnyH_take (i := 28) (v := undef) (op_at rfl) (by kernel_rfl) (by kernel_rfl) (by kernel_rfl) (fun _ _ _ h => h) (Or.inr ⟨by rfl, rfl⟩) hS ?_
          try simp only [Act.put, List.setIfInBounds_toArray, List.set_cons_zero, List.set_cons_succ]
          refine wpAnyH_take (i := 29) (v := undef) (op_at rfl) (by kernel_rfl) (by kernel_rfl) (by kernel_rfl) (fun _ _ _ h => h) (Or.inr ⟨by rfl, rfl⟩) hS ?_
          try simp only [Act.put, List.setIfInBounds_toArray, List.set_cons_zero, List.set_cons_succ]
          refine wpAnyH_take (i := 30) (v := undef) (op_at rfl) (by kernel_rfl) (by kernel_rfl) (by kernel_rfl) (fun _ _ _ h => h) (Or.inr ⟨by rfl, rfl⟩) hS ?_
          try simp only [Act.put, List.setIfInBounds_toArray, List.set_cons_zero, List.set_cons_succ]
          refine wpAnyH_take (i := 31) (v := undef) (op_at rfl) (by kernel_rfl) (by kernel_rfl) (by kernel_rfl) (fun _ _ _ h => h) (Or.inr ⟨by rfl, rfl⟩) hS ?_
          try simp only [Act.put, List.setIfInBounds_toArray, List.set_cons_zero, List.set_cons_succ]
          refine wpAnyH_take (i := 32) (v := undef) (op_at rfl) (by kernel_rfl) (by kernel_rfl) (by kernel_rfl) (fun _ _ _ h => h) (Or.inr ⟨by rfl, rfl⟩) hS ?_
          try simp only [Act.put, List.setIfInBounds_toArray, List.set_cons_zero, List.set_cons_succ]
          refine wpAnyH_take (i := 33) (v := undef) (op_at rfl) (by kernel_rfl) (by kernel_rfl) (by kernel_rfl) (fun _ _ _ h => h) (Or.inr ⟨by rfl, rfl⟩) hS ?_
          try simp only [Act.put, List.setIfInBounds_toArray, List.set_cons_zero, List.set_cons_succ]
          refine wpAnyH_take (i := 34) (v := undef) (op_at rfl) (by kernel_rfl) (by kernel_rfl) (by kernel_rfl) (fun _ _ _ h => h) (Or.inr ⟨by rfl, rfl⟩) hS ?_
          try simp only [Act.put, List.setIfInBounds_toArray, List.set_cons_zero, List.set_cons_succ]
          refine wpAnyH_take (i := 35) (v := undef) (op_at rfl) (by kernel_rfl) (by kernel_rfl) (by kernel_rfl) (fun _ _ _ h => h) (Or.inr ⟨by rfl, rfl⟩) hS ?_
          try simp only [Act.put, List.setIfInBounds_toArray, List.set_cons_zero, List.set_cons_succ]
          refine wpAnyH_take (i := 36) (v := undef) (op_at rfl) (by kernel_rfl) (by kernel_rfl) (by kernel_rfl) (fun _ _ _ h => h) (Or.inr ⟨by rfl, rfl⟩) hS ?_
          try simp only [Act.put, List.setIfInBounds_toArray, List.set_cons_zero, List.set_cons_succ]
          refine wpAnyH_take (i := 37) (v := ?_) (op_at rfl) (by kernel_rfl) (by kernel_rfl) (by kernel_rfl) (fun _ _ _ h => h) (Or.inl ⟨by rfl, ?_⟩) hS ?_; rotate_left; focus ((intro w' hSw; clear hSw; go_simp) <;> with_reducible rfl)
          try simp only [Act.put, List.setIfInBounds_toArray, List.set_cons_zero, List.set_cons_succ]
          refine wpAnyH_done (by kernel_rfl) ?_ _
          obtain ⟨b0, b1, b2, hb⟩ := hS
          replace B0 := Lib.hid b0
          clear b0
          replace B1 := Lib.hid b1
          clear b1
          replace B2 := Lib.hid b2
          clear b2
          replace HB := Lib.hid hb
          clear hb
          go_wp2_with fail
          go_roundw
          case rel => exact ⟨k + 1, by go_num, by omega, HB.out⟩
          case measure => simp [intOf]; omega
        · have c1 : ((k : Int) != x.who) = true := bne_iff_ne.2 h
          have c2 : (IntKind.u64.wrap x.d).tmod 3 = 0 := h1
          have c3 : ((k : Int) != x.ch) = false := by rw [h2]; simp
          have c4 : (p.par != x.who) = false := by rw [h3]; simp
          clear h h1 h2 h3
          go_wp2_with fail
          refine wp_region_gen (S := (fun W' => Els W' (b) (off + k * 8) #[.int .i64 p.par, .int .i64 p.st, .int .i64 p.cur.lv, .int .u64 (u p.cur.c), .int .i64 p.cur.ig, .int .i64 p.high.lv, .int .u64 (u p.high.c), .int .i64 p.high.ig] ∧ Els W' (sb) (soff + k * 8) #[.int .i64 y.par, .int .i64 y.st, .int .i64 y.cur.lv, .int .u64 (u y.cur.c), .int .i64 y.cur.ig, .int .i64 y.high.lv, .int .u64 (u y.high.c), .int .i64 y.high.ig] ∧ Blk W' (w.heap.size) 39 #[.int .i64 x.d, .int .i64 x.who, .int .i64 x.ch, .int .i64 x.a.lv, .int .u64 (u x.a.c), .int .i64 x.a.ig] ∧ Below w2.heap.size w2 W')) (by kernel_rfl) ⟨(by repeat (first | exact B0.out | refine Els.drew ?_ | refine Els.alloc ?_ _)), (by repeat (first | exact B1.out | refine Els.drew ?_ | refine Els.alloc ?_ _)), (by repeat (first | exact B2.out | exact Blk.new' (by simp; done) | exact Blk.new' rfl | refine Blk.drew ?_ | refine Blk.alloc ?_ _)), (by repeat (first | exact HB.out | refine below_alloc ?_ _ | refine Below.drew ?_ | refine below_set ?_ (by omega) _))⟩ (fun w1 hS => ?_)
          refine wpAnyH_take (i := 0) (v := ?_) (op_at rfl) (by kernel_rfl) (by kernel_rfl) (by kernel_rfl) (fun _ _ _ h => h) (Or.inl ⟨by rfl, ?_⟩) hS ?_; rotate_left; focus ((intro w' hSw; clear hSw; go_simp) <;> with_reducible rfl)
          try simp only [Act.put, List.setIfInBounds_toArray, List.set_cons_zero, List.set_cons_succ]
          refine wpAnyH_take (i := 1) (v := ?_) (op_at rfl) (by kernel_rfl) (by kernel_rfl) (by kernel_rfl) (fun _ _ _ h => h) (Or.inl ⟨by rfl, ?_⟩) hS ?_; rotate_left; focus ((intro w' hSw; clear hSw; go_simp) <;> with_reducible rfl)
          try simp only [Act.put, List.setIfInBounds_toArray, List.set_cons_zero, List.set_cons_succ]
          refine wpAnyH_take (i := 2) (v := ?_) (op_at rfl) (by kernel_rfl) (by kernel_rfl) (by kernel_rfl) (fun _ _ _ h => h) (Or.inl ⟨by rfl, ?_⟩) hS ?_; rotate_left; focus ((intro w' hSw; clear hSw; go_simp) <;> with_reducible rfl)
          try simp only [Act.put, List.setIfInBounds_toArray, List.set_cons_zero, List.set_cons_succ]
          refine wpAnyH_take (i := 3) (v := ?_) (op_at rfl) (by kernel_rfl) (by kernel_rfl) (by kernel_rfl) (fun _ _ _ h => h) (Or.inl ⟨by rfl, ?_⟩) hS ?_; rotate_left; focus ((intro w' hSw; obtain ⟨-, q, -⟩ := hSw; have c0 : w'.cell? ⟨sb, soff + k * 8, none⟩ = some (.int .i64 y.par) := q.at_ (i := 0) (v := .int .i64 y.par) rfl; have c1 : w'.cell? ⟨sb, soff + k * 8 + 1, none⟩ = some (.int .i64 y.st) := q.at_ (i := 1) (v := .int .i64 y.st) rfl; have c2 : w'.cell? ⟨sb, soff + k * 8 + 2, none⟩ = some (.int .i64 y.cur.lv) := q.at_ (i := 2) (v := .int .i64 y.cur.lv) rfl; have c3 : w'.cell? ⟨sb, soff + k * 8 + 3, none⟩ = some (.int .u64 (u y.cur.c)) := q.at_ (i := 3) (v := .int .u64 (u y.cur.c)) rfl; have c4 : w'.cell? ⟨sb, soff + k * 8 + 4, none⟩ = some (.int .i64 y.cur.ig) := q.at_ (i := 4) (v := .int .i64 y.cur.ig) rfl; have c5 : w'.cell? ⟨sb, soff + k * 8 + 5, none⟩ = some (.int .i64 y.high.lv) := q.at_ (i := 5) (v := .int .i64 y.high.lv) rfl; have c6 : w'.cell? ⟨sb, soff + k * 8 + 6, none⟩ = some (.int .u64 (u y.high.c)) := q.at_ (i := 6) (v := .int .u64 (u y.high.c)) rfl; have c7 : w'.cell? ⟨sb, soff + k * 8 + 7, none⟩ = some (.int .i64 y.high.ig) := q.at_ (i := 7) (v := .int .i64 y.high.ig) rfl; clear q; go_simp) <;> with_reducible rfl)
          try simp only [Act.put, List.setIfInBounds_toArray, List.set_cons_zero, List.set_cons_succ]
          refine wpAnyH_take (i := 4) (v := ?_) (op_at rfl) (by kernel_rfl) (by kernel_rfl) (by kernel_rfl) (fun _ _ _ h => h) (Or.inl ⟨by rfl, ?_⟩) hS ?_; rotate_left; focus ((intro w' hSw; clear hSw; go_simp) <;> with_reducible rfl)
          try simp only [Act.put, List.setIfInBounds_toArray, List.set_cons_zero, List.set_cons_succ]
          refine wpAnyH_take (i := 5) (v := ?_) (op_at rfl) (by kernel_rfl) (by kernel_rfl) (by kernel_rfl) (fun _ _ _ h => h) (Or.inl ⟨by rfl, ?_⟩) hS ?_; rotate_left; focus ((intro w' hSw; clear hSw; go_simp) <;> with_reducible rfl)
          try simp only [Act.put, List.setIfInBounds_toArray, List.set_cons_zero, List.set_cons_succ]
          refine wpAnyH_take (i := 6) (v := ?_) (op_at rfl) (by kernel_rfl) (by kernel_rfl) (by kernel_rfl) (fun _ _ _ h => h) (Or.inl ⟨by rfl, ?_⟩) hS ?_; rotate_left; focus ((intro w' hSw; clear hSw; go_simp) <;> with_reducible rfl)
          try simp only [Act.put, List.setIfInBounds_toArray, List.set_cons_zero, List.set_cons_succ]
          refine wpAnyH_take (i := 7) (v := ?_) (op_at rfl) (by kernel_rfl) (by kernel_rfl) (by kernel_rfl) (fun _ _ _ h => h) (Or.inl ⟨by rfl, ?_⟩) hS ?_; rotate_left; focus ((intro w' hSw; obtain ⟨q, -⟩ := hSw; have c0 : w'.cell? ⟨b, off + k * 8, none⟩ = some (.int .i64 p.par) := q.at_ (i := 0) (v := .int .i64 p.par) rfl; have c1 : w'.cell? ⟨b, off + k * 8 + 1, none⟩ = some (.int .i64 p.st) := q.at_ (i := 1) (v := .int .i64 p.st) rfl; have c2 : w'.cell? ⟨b, off + k * 8 + 2, none⟩ = some (.int .i64 p.cur.lv) := q.at_ (i := 2) (v := .int .i64 p.cur.lv) rfl; have c3 : w'.cell? ⟨b, off + k * 8 + 3, none⟩ = some (.int .u64 (u p.cur.c)) := q.at_ (i := 3) (v := .int .u64 (u p.cur.c)) rfl; have c4 : w'.cell? ⟨b, off + k * 8 + 4, none⟩ = some (.int .i64 p.cur.ig) := q.at_ (i := 4) (v := .int .i64 p.cur.ig) rfl; have c5 : w'.cell? ⟨b, off + k * 8 + 5, none⟩ = some (.int .i64 p.high.lv) := q.at_ (i := 5) (v := .int .i64 p.high.lv) rfl; have c6 : w'.cell? ⟨b, off + k * 8 + 6, none⟩ = some (.int .u64 (u p.high.c)) := q.at_ (i := 6) (v := .int .u64 (u p.high.c)) rfl; have c7 : w'.cell? ⟨b, off + k * 8 + 7, none⟩ = some (.int .i64 p.high.ig) := q.at_ (i := 7) (v := .int .i64 p.high.ig) rfl; clear q; go_simp) <;> with_reducible rfl)
          try simp only [Act.put, List.setIfInBounds_toArray, List.set_cons_zero, List.set_cons_succ]
          refine wpAnyH_take (i := 8) (v := ?_) (op_at rfl) (by kernel_rfl) (by kernel_rfl) (by kernel_rfl) (fun _ _ _ h => h) (Or.inl ⟨by rfl, ?_⟩) hS ?_; rotate_left; focus ((intro w' hSw; clear hSw; go_simp) <;> with_reducible rfl)
          try simp only [Act.put, List.setIfInBounds_toArray, List.set_cons_zero, List.set_cons_succ]
          refine wpAnyH_take (i := 9) (v := ?_) (op_at rfl) (by kernel_rfl) (by kernel_rfl) (by kernel_rfl) (fun _ _ _ h => h) (Or.inl ⟨by rfl, ?_⟩) hS ?_; rotate_left; focus ((intro w' hSw; clear hSw; go_simp) <;> with_reducible rfl)
          try simp only [Act.put, List.setIfInBounds_toArray, List.set_cons_zero, List.set_cons_succ]
          refine wpAnyH_take (i := 10) (v := ?_) (op_at rfl) (by kernel_rfl) (by kernel_rfl) (by kernel_rfl) (fun _ _ _ h => h) (Or.inl ⟨by rfl, ?_⟩) hS ?_; rotate_left; focus ((intro w' hSw; clear hSw; go_simp) <;> with_reducible rfl)
          try simp only [Act.put, List.setIfInBounds_toArray, List.set_cons_zero, List.set_cons_succ]
          refine wpAnyH_take (i := 11) (v := ?_) (op_at rfl) (by kernel_rfl) (by kernel_rfl) (by kernel_rfl) (fun _ _ _ h => h) (Or.inl ⟨by rfl, ?_⟩) hS ?_; rotate_left; focus ((intro w' hSw; clear hSw; go_simp) <;> with_reducible rfl)
          try simp only [Act.put, List.setIfInBounds_toArray, List.set_cons_zero, List.set_cons_succ]
          refine wpAnyH_take (i := 12) (v := ?_) (op_at rfl) (by kernel_rfl) (by kernel_rfl) (by kernel_rfl) (fun _ _ _ h => h) (Or.inl ⟨by rfl, ?_⟩) hS ?_; rotate_left; focus ((intro w' hSw; obtain ⟨-, -, q, -⟩ := hSw; have c1 := q.at_ (i := 1) (v := .int .i64 x.who) rfl; clear q; go_simp) <;> with_reducible rfl)
          try simp only [Act.put, List.setIfInBounds_toArray, List.set_cons_zero, List.set_cons_succ]
          refine wpAnyH_take (i := 13) (v := ?_) (op_at rfl) (by kernel_rfl) (by kernel_rfl) (by kernel_rfl) (fun _ _ _ h => h) (Or.inl ⟨by rfl, ?_⟩) hS ?_; rotate_left; focus ((intro w' hSw; clear hSw; go_simp) <;> with_reducible rfl)
          try simp only [Act.put, List.setIfInBounds_toArray, List.set_cons_zero, List.set_cons_succ]
          refine wpAnyH_take (i := 14) (v := ?_) (op_at rfl) (by kernel_rfl) (by kernel_rfl) (by kernel_rfl) (fun _ _ _ h => h) (Or.inl ⟨by rfl, ?_⟩) hS ?_; rotate_left; focus ((intro w' hSw; clear hSw; go_simp) <;> with_reducible rfl)
          try simp only [Act.put, List.setIfInBounds_toArray, List.set_cons_zero, List.set_cons_succ]
          refine wpAnyH_take (i := 15) (v := ?_) (op_at rfl) (by kernel_rfl) (by kernel_rfl) (by kernel_rfl) (fun _ _ _ h => h) (Or.inl ⟨by rfl, ?_⟩) hS ?_; rotate_left; focus ((intro w' hSw; clear hSw; go_simp) <;> with_reducible rfl)
          try simp only [Act.put, List.setIfInBounds_toArray, List.set_cons_zero, List.set_cons_succ]
          refine wpAnyH_take (i := 16) (v := ?_) (op_at rfl) (by kernel_rfl) (by kernel_rfl) (by kernel_rfl) (fun _ _ _ h => h) (Or.inl ⟨by rfl, ?_⟩) hS ?_; rotate_left; focus ((intro w' hSw; clear hSw; go_simp) <;> with_reducible rfl)
          try simp only [Act.put, List.setIfInBounds_toArray, List.set_cons_zero, List.set_cons_succ]
          refine wpAnyH_take (i := 17) (v := ?_) (op_at rfl) (by kernel_rfl) (by kernel_rfl) (by kernel_rfl) (fun _ _ _ h => h) (Or.inl ⟨by rfl, ?_⟩) hS ?_; rotate_left; focus ((intro w' hSw; obtain ⟨-, -, q, -⟩ := hSw; have c0 := q.at_ (i := 0) (v := .int .i64 x.d) rfl; clear q; go_simp) <;> with_reducible rfl)
          try simp only [Act.put, List.setIfInBounds_toArray, List.set_cons_zero, List.set_cons_succ]
          refine wpAnyH_take (i := 18) (v := ?_) (op_at rfl) (by kernel_rfl) (by kernel_rfl) (by kernel_rfl) (fun _ _ _ h => h) (Or.inl ⟨by rfl, ?_⟩) hS ?_; rotate_left; focus ((intro w' hSw; clear hSw; go_simp) <;> with_reducible rfl)
          try simp only [Act.put, List.setIfInBounds_toArray, List.set_cons_zero, List.set_cons_succ]
          refine wpAnyH_take (i := 19) (v := ?_) (op_at rfl) (by kernel_rfl) (by kernel_rfl) (by kernel_rfl) (fun _ _ _ h => h) (Or.inl ⟨by rfl, ?_⟩) hS ?_; rotate_left; focus ((intro w' hSw; clear hSw; go_simp) <;> with_reducible rfl)
          try simp only [Act.put, List.setIfInBounds_toArray, List.set_cons_zero, List.set_cons_succ]
          refine wpAnyH_take (i := 20) (v := ?_) (op_at rfl) (by kernel_rfl) (by kernel_rfl) (by kernel_rfl) (fun _ _ _ h => h) (Or.inl ⟨by rfl, ?_⟩) hS ?_; rotate_left; focus ((intro w' hSw; clear hSw; go_simp) <;> with_reducible rfl)
          try simp only [Act.put, List.setIfInBounds_toArray, List.set_cons_zero, List.set_cons_succ]
          refine wpAnyH_take (i := 21) (v := ?_) (op_at rfl) (by kernel_rfl) (by kernel_rfl) (by kernel_rfl) (fun _ _ _ h => h) (Or.inl ⟨by rfl, ?_⟩) hS ?_; rotate_left; focus ((intro w' hSw; clear hSw; go_simp) <;> with_reducible rfl)
          try simp only [Act.put, List.setIfInBounds_toArray, List.set_cons_zero, List.set_cons_succ]
          refine wpAnyH_take (i := 22) (v := ?_) (op_at rfl) (by kernel_rfl) (by kernel_rfl) (by kernel_rfl) (fun _ _ _ h => h) (Or.inl ⟨by rfl, ?_⟩) hS ?_; rotate_left; focus ((intro w' hSw; clear hSw; go_simp) <;> with_reducible rfl)
          try simp only [Act.put, List.setIfInBounds_toArray, List.set_cons_zero, List.set_cons_succ]
          refine wpAnyH_take (i := 23) (v := ?_) (op_at rfl) (by kernel_rfl) (by kernel_rfl) (by kernel_rfl) (fun _ _ _ h => h) (Or.inl ⟨by rfl, ?_⟩) hS ?_; rotate_left; focus ((intro w' hSw; clear hSw; go_simp) <;> with_reducible rfl)
          try simp only [Act.put, List.setIfInBounds_toArray, List.set_cons_zero, List.set_cons_succ]
          refine wpAnyH_take (i := 24) (v := ?_) (op_at rfl) (by kernel_rfl) (by kernel_rfl) (by kernel_rfl) (fun _ _ _ h => h) (Or.inl ⟨by rfl, ?_⟩) hS ?_; rotate_left; focus ((intro w' hSw; obtain ⟨-, -, q, -⟩ := hSw; have c2 := q.at_ (i := 2) (v := .int .i64 x.ch) rfl; clear q; go_simp) <;> with_reducible rfl)
          try simp only [Act.put, List.setIfInBounds_toArray, List.set_cons_zero, List.set_cons_succ]
          refine wpAnyH_take (i := 25) (v := ?_) (op_at rfl) (by kernel_rfl) (by kernel_rfl) (by kernel_rfl) (fun _ _ _ h => h) (Or.inl ⟨by rfl, ?_⟩) hS ?_; rotate_left; focus ((intro w' hSw; clear hSw; go_simp) <;> with_reducible rfl)
          try simp only [Act.put, List.setIfInBounds_toArray, List.set_cons_zero, List.set_cons_succ]
          refine wpAnyH_take (i := 26) (v := ?_) (op_at rfl) (by kernel_rfl) (by kernel_rfl) (by kernel_rfl) (fun _ _ _ h => h) (Or.inl ⟨by rfl, ?_⟩) hS ?_; rotate_left; focus ((intro w' hSw; clear hSw; go_simp) <;> with_reducible rfl)
          try simp only [Act.put, List.setIfInBounds_toArray, List.set_cons_zero, List.set_cons_succ]
          refine wpAnyH_take (i := 27) (v := ?_) (op_at rfl) (by kernel_rfl) (by kernel_rfl) (by kernel_rfl) (fun _ _ _ h => h) (Or.inl ⟨by rfl, ?_⟩) hS ?_; rotate_left; focus ((intro w' hSw; clear hSw; go_simp) <;> with_reducible rfl)
          try simp only [Act.put, List.setIfInBounds_toArray, List.set_cons_zero, List.set_cons_succ]
          refine wpAnyH_take (i := 28) (v := ?_) (op_at rfl) (by kernel_rfl) (by kernel_rfl) (by kernel_rfl) (fun _ _ _ h => h) (Or.inl ⟨by rfl, ?_⟩) hS ?_; rotate_left; focus ((intro w' hSw; clear hSw; go_simp) <;> with_reducible rfl)
          try simp only [Act.put, List.setIfInBounds_toArray, List.set_cons_zero, List.set_cons_succ]
          refine wpAnyH_take (i := 29) (v := ?_) (op_at rfl) (by kernel_rfl) (by kernel_rfl) (by kernel_rfl) (fun _ _ _ h => h) (Or.inl ⟨by rfl, ?_⟩) hS ?_; rotate_left; focus ((intro w' hSw; clear hSw; go_simp) <;> with_reducible rfl)
          try simp only [Act.put, List.setIfInBounds_toArray, List.set_cons_zero, List.set_cons_succ]
          refine wpAnyH_take (i := 30) (v := ?_) (op_at rfl) (by kernel_rfl) (by kernel_rfl) (by kernel_rfl) (fun _ _ _ h => h) (Or.inl ⟨by rfl, ?_⟩) hS ?_; rotate_left; focus ((intro w' hSw; clear hSw; go_simp) <;> with_reducible rfl)
          try simp only [Act.put, List.setIfInBounds_toArray, List.set_cons_zero, List.set_cons_succ]
          refine wpAnyH_take (i := 31) (v := ?_) (op_at rfl) (by kernel_rfl) (by kernel_rfl) (by kernel_rfl) (fun _ _ _ h => h) (Or.inl ⟨by rfl, ?_⟩) hS ?_; rotate_left; focus ((intro w' hSw; clear hSw; go_simp) <;> with_reducible rfl)
          try simp only [Act.put, List.setIfInBounds_toArray, List.set_cons_zero, List.set_cons_succ]
          refine wpAnyH_take (i := 32) (v := ?_) (op_at rfl) (by kernel_rfl) (by kernel_rfl) (by kernel_rfl) (fun _ _ _ h => h) (Or.inl ⟨by rfl, ?_⟩) hS ?_; rotate_left; focus ((intro w' hSw; obtain ⟨q, -⟩ := hSw; have c0 : w'.cell? ⟨b, off + k * 8, none⟩ = some (.int .i64 p.par) := q.at_ (i := 0) (v := .int .i64 p.par) rfl; clear q; go_simp) <;> with_reducible rfl)
          try simp only [Act.put, List.setIfInBounds_toArray, List.set_cons_zero, List.set_cons_succ]
          refine wpAnyH_take (i := 33) (v := ?_) (op_at rfl) (by kernel_rfl) (by kernel_rfl) (by kernel_rfl) (fun _ _ _ h => h) (Or.inl ⟨by rfl, ?_⟩) hS ?_; rotate_left; focus ((intro w' hSw; clear hSw; go_simp) <;> with_reducible rfl)
          try simp only [Act.put, List.setIfInBounds_toArray, List.set_cons_zero, List.set_cons_succ]
          refine wpAnyH_take (i := 34) (v := ?_) (op_at rfl) (by kernel_rfl) (by kernel_rfl) (by kernel_rfl) (fun _ _ _ h => h) (Or.inl ⟨by rfl, ?_⟩) hS ?_; rotate_left; focus ((intro w' hSw; obtain ⟨-, -, q, -⟩ := hSw; have c1 := q.at_ (i := 1) (v := .int .i64 x.who) rfl; clear q; go_simp) <;> with_reducible rfl)
          try simp only [Act.put, List.setIfInBounds_toArray, List.set_cons_zero, List.set_cons_succ]
          refine wpAnyH_take (i := 35) (v := ?_) (op_at rfl) (by kernel_rfl) (by kernel_rfl) (by kernel_rfl) (fun _ _ _ h => h) (Or.inl ⟨by rfl, ?_⟩) hS ?_; rotate_left; focus ((intro w' hSw; clear hSw; go_simp) <;> with_reducible rfl)
          try simp only [Act.put, List.setIfInBounds_toArray, List.set_cons_zero, List.set_cons_succ]
          refine wpAnyH_take (i := 36) (v := ?_) (op_at rfl) (by kernel_rfl) (by kernel_rfl) (by kernel_rfl) (fun _ _ _ h => h) (Or.inl ⟨by rfl, ?_⟩) hS ?_; rotate_left; focus ((intro w' hSw; clear hSw; go_simp) <;> with_reducible rfl)
          try simp only [Act.put, List.setIfInBounds_toArray, List.set_cons_zero, List.set_cons_succ]
          refine wpAnyH_take (i := 37) (v := ?_) (op_at rfl) (by kernel_rfl) (by kernel_rfl) (by kernel_rfl) (fun _ _ _ h => h) (Or.inl ⟨by rfl, ?_⟩) hS ?_; rotate_left; focus ((intro w' hSw; clear hSw; go_simp) <;> with_reducible rfl)
          try simp only [Act.put, List.setIfInBounds_toArray, List.set_cons_zero, List.set_cons_succ]
          refine wpAnyH_done (by kernel_rfl) ?_ _
          obtain ⟨b0, b1, b2, hb⟩ := hS
          replace B0 := Lib.hid b0
          clear b0
          replace B1 := Lib.hid b1
          clear b1
          replace B2 := Lib.hid b2
          clear b2
          replace HB := Lib.hid hb
          clear hb
          go_wp2_with fail
          go_roundw
          case rel => exact ⟨k + 1, by go_num, by omega, HB.out⟩
          case measure => simp [intOf]; omega
    · have hke : k = m.length := by omega
      subst hke
      go_wp2_with fail
      go_ret
      exact ⟨rfl, below_call HB0.out HB.out⟩
theorem apart_walk (sa : Addr) (l : List Sub) (v : Value) (x : Deed) (w : World) (hh : Env sa w) (hl : SubsW w v l) :
    Calls Tryd.prog 5 #[v, .agg #[.int .i64 x.d, .int .i64 x.who, .int .i64 x.ch, .int .i64 x.a.lv, .int .u64 (u x.a.c), .int .i64 x.a.ig]] w (Yes w) :=
  apart_core sa l (l.take 10) _ v x w hh hl (done_len _ x) (done_apart _ x) rfl rfl (by rw [List.length_take]; omega) (by rw [done_len]; simp)
end Go.Proofs.YteepgbkblgcegaaDoor
