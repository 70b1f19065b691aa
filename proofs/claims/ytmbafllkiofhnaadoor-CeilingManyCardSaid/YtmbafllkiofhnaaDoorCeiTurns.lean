/-
  THE WALK OF THE STATEMENT CeilingTurns (printed by wip/genpatht.py).
-/
import Derived.Test.YtmbafllkiofhnaaDoorPathB
import Derived.Test.YtmbafllkiofhnaaDoorCeiG
namespace Go.Proofs.YtmbafllkiofhnaaDoor
open Go.RowKit

attribute [local go_sem] u_and u_or u_andNot u_add u_sub u_bit u_eq_zero u_beq

def PathIs (sa : Addr) (cur : Lab) (ls : List Lab) (high x : Lab) (k n : Int) : Prop := ∀ v W, Env sa W → LabsAt W.heap.size W v ls → Calls Tryd.prog 25 #[.agg #[.int .i64 cur.lv, .int .u64 (u cur.c), .int .i64 cur.ig], v, .agg #[.int .i64 high.lv, .int .u64 (u high.c), .int .i64 high.ig]] W fun e w' => e = .returned (.tuple #[.agg #[.int .i64 x.lv, .int .u64 (u x.c), .int .i64 x.ig], .int .i64 k, .int .i64 n]) ∧ Below W.heap.size W w'
def LeastIs (ls : List Lab) (x : Lab) (n : Int) : Prop := ∀ v W, Handle W → LabsAt W.heap.size W v ls → Calls Tryd.prog 27 #[v] W fun e w' => e = .returned (.tuple #[.agg #[.int .i64 x.lv, .int .u64 (u x.c), .int .i64 x.ig], .int .i64 n]) ∧ Below W.heap.size W w'
theorem pathIs {sa : Addr} {cur : Lab} {ls : List Lab} {high x : Lab} {k n : Int} (hl : ls.length ≤ 1000) (h1 : pathsL cur ls high = x) (h2 : pathsK cur ls high = k) (h3 : pathsE cur ls high = n) : PathIs sa cur ls high x k n := fun v W hW hv => by
  subst h1 h2 h3; exact Path_any ls v cur high sa W hv hW hl
theorem leastIs {ls : List Lab} {x : Lab} {n : Int} (h1 : leastL ls = x) (h2 : leastE ls = n) : LeastIs ls x n := fun v W hW hv => by
  subst h1 h2; exact Least_any ls v W hv hW
theorem two_ok {cur a b high : Lab} (h : allR cur high [a, b] = true) (h1 : le3 (joinL cur a) high = true) (h2 : le3 (joinL (joinL cur a) b) high = true) :
    pathsL cur [a, b] high = joinL (joinL cur a) b ∧ pathsK cur [a, b] high = 2 ∧ pathsE cur [a, b] high = 0 := by
  have k : pathK high cur [a, b] = 2 := by simp [pathK, h1, h2]
  unfold pathsL pathsK pathsE
  rw [h, k]
  refine ⟨?_, rfl, rfl⟩
  show stepP high (stepP high cur a) b = _
  unfold stepP; rw [if_pos h1, if_pos h2]
theorem two_no {cur a b high : Lab} (h : allR cur high [a, b] = true) (h2 : ¬ le3 (joinL (joinL cur a) b) high = true) : pathsE cur [a, b] high = 120 := by
  have k : pathK high cur [a, b] ≠ 2 := by
    unfold pathK
    by_cases h1 : le3 (joinL cur a) high = true
    · simp [pathK, h1, h2]
    · simp [h1]
  unfold pathsE
  rw [h]
  show (if _ = 2 then (0 : Int) else 120) = 120
  rw [if_neg k]
set_option maxRecDepth 100000 in
set_option maxHeartbeats 4000000 in
theorem turns_ok (cur a b high x : Lab) (sa : Addr) (w : World) (hh : Env sa w) (h0 : PathIs sa cur [a, b] high x 2 0) (h1 : PathIs sa cur [b, a] high x 2 0) (h2 : LeastIs [cur, a, b] x 0) (h3 : ∀ W, (binOp .eql 24 (.agg #[.int .i64 x.lv, .int .u64 (u x.c), .int .i64 x.ig]) (.agg #[.int .i64 x.lv, .int .u64 (u x.c), .int .i64 x.ig])).run Tryd.prog W = .ok (.bool true) W) :
    Calls Tryd.prog 9 #[.agg #[.int .i64 cur.lv, .int .u64 (u cur.c), .int .i64 cur.ig], .agg #[.int .i64 a.lv, .int .u64 (u a.c), .int .i64 a.ig], .agg #[.int .i64 b.lv, .int .u64 (u b.c), .int .i64 b.ig], .agg #[.int .i64 high.lv, .int .u64 (u high.c), .int .i64 high.ig]] w (Yes w) := by
  have H0 := Lib.hid h0
  clear h0
  have H1 := Lib.hid h1
  clear h1
  have H2 := Lib.hid h2
  clear h2
  have HH := Lib.hid hh
  clear hh
  have HB := Lib.hid (Below.refl w.heap.size w)
  go_enter Tryd.func9, Tryd.ntmps9
  go_wp2_with fail
  refine (shown_any sa _ (HH.out.up (by repeat (first | exact HB.out | refine below_alloc ?_ _ | refine Below.drew ?_ | refine below_set ?_ (by omega) _)))).mono ?_
  rintro e w1 ⟨rfl, hB⟩
  replace HB := Lib.hid (below_call (w := w) (by repeat (first | exact HB.out | refine below_alloc ?_ _ | refine Below.drew ?_ | refine below_set ?_ (by omega) _)) hB)
  have z1 : w.heap.size ≤ w1.heap.size := HB.out.size
  have B0 : Hid (Blk w1 (w.heap.size) 24 #[.int .i64 cur.lv, .int .u64 (u cur.c), .int .i64 cur.ig]) := Lib.hid (Blk.after (by repeat (first | exact Blk.new' (by simp; done) | exact Blk.new' rfl | refine Blk.drew ?_ | refine Blk.alloc ?_ _)) hB)
  have B1 : Hid (Blk w1 (w.heap.size + 1) 24 #[.int .i64 a.lv, .int .u64 (u a.c), .int .i64 a.ig]) := Lib.hid (Blk.after (by repeat (first | exact Blk.new' (by simp; done) | exact Blk.new' rfl | refine Blk.drew ?_ | refine Blk.alloc ?_ _)) hB)
  have B2 : Hid (Blk w1 (w.heap.size + 1 + 1) 24 #[.int .i64 b.lv, .int .u64 (u b.c), .int .i64 b.ig]) := Lib.hid (Blk.after (by repeat (first | exact Blk.new' (by simp; done) | exact Blk.new' rfl | refine Blk.drew ?_ | refine Blk.alloc ?_ _)) hB)
  have B3 : Hid (Blk w1 (w.heap.size + 1 + 1 + 1) 24 #[.int .i64 high.lv, .int .u64 (u high.c), .int .i64 high.ig]) := Lib.hid (Blk.after (by repeat (first | exact Blk.new' (by simp; done) | exact Blk.new' rfl | refine Blk.drew ?_ | refine Blk.alloc ?_ _)) hB)
  clear hB
  have p0_0 := B0.out.at_ (i := 0) (v := .int .i64 cur.lv) rfl
  have p0_1 := B0.out.at_ (i := 1) (v := .int .u64 (u cur.c)) rfl
  have p0_2 := B0.out.at_ (i := 2) (v := .int .i64 cur.ig) rfl
  have k0_0 : w.heap.size < w1.heap.size := by have := B0.out.lt; omega
  have k0_1 : w.heap.size < w1.heap.size + 1 := by have := B0.out.lt; omega
  have p1_0 := B1.out.at_ (i := 0) (v := .int .i64 a.lv) rfl
  have p1_1 := B1.out.at_ (i := 1) (v := .int .u64 (u a.c)) rfl
  have p1_2 := B1.out.at_ (i := 2) (v := .int .i64 a.ig) rfl
  have k1_0 : w.heap.size + 1 < w1.heap.size := by have := B1.out.lt; omega
  have k1_1 : w.heap.size + 1 < w1.heap.size + 1 := by have := B1.out.lt; omega
  have p2_0 := B2.out.at_ (i := 0) (v := .int .i64 b.lv) rfl
  have p2_1 := B2.out.at_ (i := 1) (v := .int .u64 (u b.c)) rfl
  have p2_2 := B2.out.at_ (i := 2) (v := .int .i64 b.ig) rfl
  have k2_0 : w.heap.size + 1 + 1 < w1.heap.size := by have := B2.out.lt; omega
  have k2_1 : w.heap.size + 1 + 1 < w1.heap.size + 1 := by have := B2.out.lt; omega
  have p3_0 := B3.out.at_ (i := 0) (v := .int .i64 high.lv) rfl
  have p3_1 := B3.out.at_ (i := 1) (v := .int .u64 (u high.c)) rfl
  have p3_2 := B3.out.at_ (i := 2) (v := .int .i64 high.ig) rfl
  have k3_0 : w.heap.size + 1 + 1 + 1 < w1.heap.size := by have := B3.out.lt; omega
  have k3_1 : w.heap.size + 1 + 1 + 1 < w1.heap.size + 1 := by have := B3.out.lt; omega
  go_wp2_with fail
  refine (H0.out _ _ (HH.out.up (by repeat (first | exact HB.out | refine below_alloc ?_ _ | refine Below.drew ?_ | refine below_set ?_ (by omega) _))) (LabsAt.of2 (by repeat (first | exact Blk.new' (by simp; done) | exact Blk.new' rfl | refine Blk.drew ?_ | refine Blk.alloc ?_ _)))).mono ?_
  rintro e w2 ⟨rfl, hB⟩
  replace HB := Lib.hid (below_call (w := w) (by repeat (first | exact HB.out | refine below_alloc ?_ _ | refine Below.drew ?_ | refine below_set ?_ (by omega) _)) hB)
  have z2 : w.heap.size ≤ w2.heap.size := HB.out.size
  replace B0 : Hid (Blk w2 (w.heap.size) 24 #[.int .i64 cur.lv, .int .u64 (u cur.c), .int .i64 cur.ig]) := Lib.hid (Blk.after (by repeat (first | exact B0.out | exact Blk.new' (by simp; done) | exact Blk.new' rfl | refine Blk.drew ?_ | refine Blk.alloc ?_ _)) hB)
  replace B1 : Hid (Blk w2 (w.heap.size + 1) 24 #[.int .i64 a.lv, .int .u64 (u a.c), .int .i64 a.ig]) := Lib.hid (Blk.after (by repeat (first | exact B1.out | exact Blk.new' (by simp; done) | exact Blk.new' rfl | refine Blk.drew ?_ | refine Blk.alloc ?_ _)) hB)
  replace B2 : Hid (Blk w2 (w.heap.size + 1 + 1) 24 #[.int .i64 b.lv, .int .u64 (u b.c), .int .i64 b.ig]) := Lib.hid (Blk.after (by repeat (first | exact B2.out | exact Blk.new' (by simp; done) | exact Blk.new' rfl | refine Blk.drew ?_ | refine Blk.alloc ?_ _)) hB)
  replace B3 : Hid (Blk w2 (w.heap.size + 1 + 1 + 1) 24 #[.int .i64 high.lv, .int .u64 (u high.c), .int .i64 high.ig]) := Lib.hid (Blk.after (by repeat (first | exact B3.out | exact Blk.new' (by simp; done) | exact Blk.new' rfl | refine Blk.drew ?_ | refine Blk.alloc ?_ _)) hB)
  clear p0_0 p0_1 p0_2 k0_0 k0_1 p1_0 p1_1 p1_2 k1_0 k1_1 p2_0 p2_1 p2_2 k2_0 k2_1 p3_0 p3_1 p3_2 k3_0 k3_1
  clear hB
  have p0_0 := B0.out.at_ (i := 0) (v := .int .i64 cur.lv) rfl
  have p0_1 := B0.out.at_ (i := 1) (v := .int .u64 (u cur.c)) rfl
  have p0_2 := B0.out.at_ (i := 2) (v := .int .i64 cur.ig) rfl
  have k0_0 : w.heap.size < w2.heap.size := by have := B0.out.lt; omega
  have k0_1 : w.heap.size < w2.heap.size + 1 := by have := B0.out.lt; omega
  have k0_2 : w.heap.size < w2.heap.size + 1 + 1 := by have := B0.out.lt; omega
  have p1_0 := B1.out.at_ (i := 0) (v := .int .i64 a.lv) rfl
  have p1_1 := B1.out.at_ (i := 1) (v := .int .u64 (u a.c)) rfl
  have p1_2 := B1.out.at_ (i := 2) (v := .int .i64 a.ig) rfl
  have k1_0 : w.heap.size + 1 < w2.heap.size := by have := B1.out.lt; omega
  have k1_1 : w.heap.size + 1 < w2.heap.size + 1 := by have := B1.out.lt; omega
  have k1_2 : w.heap.size + 1 < w2.heap.size + 1 + 1 := by have := B1.out.lt; omega
  have p2_0 := B2.out.at_ (i := 0) (v := .int .i64 b.lv) rfl
  have p2_1 := B2.out.at_ (i := 1) (v := .int .u64 (u b.c)) rfl
  have p2_2 := B2.out.at_ (i := 2) (v := .int .i64 b.ig) rfl
  have k2_0 : w.heap.size + 1 + 1 < w2.heap.size := by have := B2.out.lt; omega
  have k2_1 : w.heap.size + 1 + 1 < w2.heap.size + 1 := by have := B2.out.lt; omega
  have k2_2 : w.heap.size + 1 + 1 < w2.heap.size + 1 + 1 := by have := B2.out.lt; omega
  have p3_0 := B3.out.at_ (i := 0) (v := .int .i64 high.lv) rfl
  have p3_1 := B3.out.at_ (i := 1) (v := .int .u64 (u high.c)) rfl
  have p3_2 := B3.out.at_ (i := 2) (v := .int .i64 high.ig) rfl
  have k3_0 : w.heap.size + 1 + 1 + 1 < w2.heap.size := by have := B3.out.lt; omega
  have k3_1 : w.heap.size + 1 + 1 + 1 < w2.heap.size + 1 := by have := B3.out.lt; omega
  have k3_2 : w.heap.size + 1 + 1 + 1 < w2.heap.size + 1 + 1 := by have := B3.out.lt; omega
  go_wp2_with fail
  refine (H1.out _ _ (HH.out.up (by repeat (first | exact HB.out | refine below_alloc ?_ _ | refine Below.drew ?_ | refine below_set ?_ (by omega) _))) (LabsAt.of2 (by repeat (first | exact Blk.new' (by simp; done) | exact Blk.new' rfl | refine Blk.drew ?_ | refine Blk.alloc ?_ _)))).mono ?_
  rintro e w3 ⟨rfl, hB⟩
  replace HB := Lib.hid (below_call (w := w) (by repeat (first | exact HB.out | refine below_alloc ?_ _ | refine Below.drew ?_ | refine below_set ?_ (by omega) _)) hB)
  have z3 : w.heap.size ≤ w3.heap.size := HB.out.size
  replace B0 : Hid (Blk w3 (w.heap.size) 24 #[.int .i64 cur.lv, .int .u64 (u cur.c), .int .i64 cur.ig]) := Lib.hid (Blk.after (by repeat (first | exact B0.out | exact Blk.new' (by simp; done) | exact Blk.new' rfl | refine Blk.drew ?_ | refine Blk.alloc ?_ _)) hB)
  replace B1 : Hid (Blk w3 (w.heap.size + 1) 24 #[.int .i64 a.lv, .int .u64 (u a.c), .int .i64 a.ig]) := Lib.hid (Blk.after (by repeat (first | exact B1.out | exact Blk.new' (by simp; done) | exact Blk.new' rfl | refine Blk.drew ?_ | refine Blk.alloc ?_ _)) hB)
  replace B2 : Hid (Blk w3 (w.heap.size + 1 + 1) 24 #[.int .i64 b.lv, .int .u64 (u b.c), .int .i64 b.ig]) := Lib.hid (Blk.after (by repeat (first | exact B2.out | exact Blk.new' (by simp; done) | exact Blk.new' rfl | refine Blk.drew ?_ | refine Blk.alloc ?_ _)) hB)
  have B5 : Hid (Blk w3 (w2.heap.size) 24 #[.int .i64 x.lv, .int .u64 (u x.c), .int .i64 x.ig]) := Lib.hid (Blk.after (by repeat (first | exact Blk.new' (by simp; done) | exact Blk.new' rfl | refine Blk.drew ?_ | refine Blk.alloc ?_ _)) hB)
  clear p0_0 p0_1 p0_2 k0_0 k0_1 k0_2 p1_0 p1_1 p1_2 k1_0 k1_1 k1_2 p2_0 p2_1 p2_2 k2_0 k2_1 k2_2 p3_0 p3_1 p3_2 k3_0 k3_1 k3_2
  clear hB
  have p0_0 := B0.out.at_ (i := 0) (v := .int .i64 cur.lv) rfl
  have p0_1 := B0.out.at_ (i := 1) (v := .int .u64 (u cur.c)) rfl
  have p0_2 := B0.out.at_ (i := 2) (v := .int .i64 cur.ig) rfl
  have k0_0 : w.heap.size < w3.heap.size := by have := B0.out.lt; omega
  have k0_1 : w.heap.size < w3.heap.size + 1 := by have := B0.out.lt; omega
  have k0_2 : w.heap.size < w3.heap.size + 1 + 1 := by have := B0.out.lt; omega
  have p1_0 := B1.out.at_ (i := 0) (v := .int .i64 a.lv) rfl
  have p1_1 := B1.out.at_ (i := 1) (v := .int .u64 (u a.c)) rfl
  have p1_2 := B1.out.at_ (i := 2) (v := .int .i64 a.ig) rfl
  have k1_0 : w.heap.size + 1 < w3.heap.size := by have := B1.out.lt; omega
  have k1_1 : w.heap.size + 1 < w3.heap.size + 1 := by have := B1.out.lt; omega
  have k1_2 : w.heap.size + 1 < w3.heap.size + 1 + 1 := by have := B1.out.lt; omega
  have p2_0 := B2.out.at_ (i := 0) (v := .int .i64 b.lv) rfl
  have p2_1 := B2.out.at_ (i := 1) (v := .int .u64 (u b.c)) rfl
  have p2_2 := B2.out.at_ (i := 2) (v := .int .i64 b.ig) rfl
  have k2_0 : w.heap.size + 1 + 1 < w3.heap.size := by have := B2.out.lt; omega
  have k2_1 : w.heap.size + 1 + 1 < w3.heap.size + 1 := by have := B2.out.lt; omega
  have k2_2 : w.heap.size + 1 + 1 < w3.heap.size + 1 + 1 := by have := B2.out.lt; omega
  go_wp2_with fail
  refine (H2.out _ _ (HH.out.up (by repeat (first | exact HB.out | refine below_alloc ?_ _ | refine Below.drew ?_ | refine below_set ?_ (by omega) _))).h (LabsAt.of3 (by repeat (first | exact Blk.new' (by simp; done) | exact Blk.new' rfl | refine Blk.drew ?_ | refine Blk.alloc ?_ _)))).mono ?_
  rintro e w4 ⟨rfl, hB⟩
  replace HB := Lib.hid (below_call (w := w) (by repeat (first | exact HB.out | refine below_alloc ?_ _ | refine Below.drew ?_ | refine below_set ?_ (by omega) _)) hB)
  have z4 : w.heap.size ≤ w4.heap.size := HB.out.size
  replace B5 : Hid (Blk w4 (w2.heap.size) 24 #[.int .i64 x.lv, .int .u64 (u x.c), .int .i64 x.ig]) := Lib.hid (Blk.after (by repeat (first | exact B5.out | exact Blk.new' (by simp; done) | exact Blk.new' rfl | refine Blk.drew ?_ | refine Blk.alloc ?_ _)) hB)
  have B7 : Hid (Blk w4 (w3.heap.size) 24 #[.int .i64 x.lv, .int .u64 (u x.c), .int .i64 x.ig]) := Lib.hid (Blk.after (by repeat (first | exact Blk.new' (by simp; done) | exact Blk.new' rfl | refine Blk.drew ?_ | refine Blk.alloc ?_ _)) hB)
  clear p0_0 p0_1 p0_2 k0_0 k0_1 k0_2 p1_0 p1_1 p1_2 k1_0 k1_1 k1_2 p2_0 p2_1 p2_2 k2_0 k2_1 k2_2
  clear hB
  have p5_0 := B5.out.at_ (i := 0) (v := .int .i64 x.lv) rfl
  have p5_1 := B5.out.at_ (i := 1) (v := .int .u64 (u x.c)) rfl
  have p5_2 := B5.out.at_ (i := 2) (v := .int .i64 x.ig) rfl
  have k5_0 : w2.heap.size < w4.heap.size := by have := B5.out.lt; omega
  have k5_1 : w2.heap.size < w4.heap.size + 1 := by have := B5.out.lt; omega
  have p7_0 := B7.out.at_ (i := 0) (v := .int .i64 x.lv) rfl
  have p7_1 := B7.out.at_ (i := 1) (v := .int .u64 (u x.c)) rfl
  have p7_2 := B7.out.at_ (i := 2) (v := .int .i64 x.ig) rfl
  have k7_0 : w3.heap.size < w4.heap.size := by have := B7.out.lt; omega
  have k7_1 : w3.heap.size < w4.heap.size + 1 := by have := B7.out.lt; omega
  go_wp2_with fail
  go_ret
  exact ⟨rfl, (by repeat (first | exact HB.out | refine below_alloc ?_ _ | refine Below.drew ?_ | refine below_set ?_ (by omega) _))⟩
set_option maxRecDepth 100000 in
set_option maxHeartbeats 4000000 in
theorem turns_high (cur a b high x y z : Lab) (n : Int) (m : Int) (k : Int) (sa : Addr) (w : World) (hh : Env sa w) (h0 : PathIs sa cur [a, b] high x n 120) (h1 : PathIs sa cur [b, a] high y m 120) (h2 : LeastIs [cur, a, b] z k) :
    Calls Tryd.prog 9 #[.agg #[.int .i64 cur.lv, .int .u64 (u cur.c), .int .i64 cur.ig], .agg #[.int .i64 a.lv, .int .u64 (u a.c), .int .i64 a.ig], .agg #[.int .i64 b.lv, .int .u64 (u b.c), .int .i64 b.ig], .agg #[.int .i64 high.lv, .int .u64 (u high.c), .int .i64 high.ig]] w (Yes w) := by
  have H0 := Lib.hid h0
  clear h0
  have H1 := Lib.hid h1
  clear h1
  have H2 := Lib.hid h2
  clear h2
  have HH := Lib.hid hh
  clear hh
  have HB := Lib.hid (Below.refl w.heap.size w)
  go_enter Tryd.func9, Tryd.ntmps9
  go_wp2_with fail
  refine (shown_any sa _ (HH.out.up (by repeat (first | exact HB.out | refine below_alloc ?_ _ | refine Below.drew ?_ | refine below_set ?_ (by omega) _)))).mono ?_
  rintro e w1 ⟨rfl, hB⟩
  replace HB := Lib.hid (below_call (w := w) (by repeat (first | exact HB.out | refine below_alloc ?_ _ | refine Below.drew ?_ | refine below_set ?_ (by omega) _)) hB)
  have z1 : w.heap.size ≤ w1.heap.size := HB.out.size
  have B0 : Hid (Blk w1 (w.heap.size) 24 #[.int .i64 cur.lv, .int .u64 (u cur.c), .int .i64 cur.ig]) := Lib.hid (Blk.after (by repeat (first | exact Blk.new' (by simp; done) | exact Blk.new' rfl | refine Blk.drew ?_ | refine Blk.alloc ?_ _)) hB)
  have B1 : Hid (Blk w1 (w.heap.size + 1) 24 #[.int .i64 a.lv, .int .u64 (u a.c), .int .i64 a.ig]) := Lib.hid (Blk.after (by repeat (first | exact Blk.new' (by simp; done) | exact Blk.new' rfl | refine Blk.drew ?_ | refine Blk.alloc ?_ _)) hB)
  have B2 : Hid (Blk w1 (w.heap.size + 1 + 1) 24 #[.int .i64 b.lv, .int .u64 (u b.c), .int .i64 b.ig]) := Lib.hid (Blk.after (by repeat (first | exact Blk.new' (by simp; done) | exact Blk.new' rfl | refine Blk.drew ?_ | refine Blk.alloc ?_ _)) hB)
  have B3 : Hid (Blk w1 (w.heap.size + 1 + 1 + 1) 24 #[.int .i64 high.lv, .int .u64 (u high.c), .int .i64 high.ig]) := Lib.hid (Blk.after (by repeat (first | exact Blk.new' (by simp; done) | exact Blk.new' rfl | refine Blk.drew ?_ | refine Blk.alloc ?_ _)) hB)
  clear hB
  have p0_0 := B0.out.at_ (i := 0) (v := .int .i64 cur.lv) rfl
  have p0_1 := B0.out.at_ (i := 1) (v := .int .u64 (u cur.c)) rfl
  have p0_2 := B0.out.at_ (i := 2) (v := .int .i64 cur.ig) rfl
  have k0_0 : w.heap.size < w1.heap.size := by have := B0.out.lt; omega
  have k0_1 : w.heap.size < w1.heap.size + 1 := by have := B0.out.lt; omega
  have p1_0 := B1.out.at_ (i := 0) (v := .int .i64 a.lv) rfl
  have p1_1 := B1.out.at_ (i := 1) (v := .int .u64 (u a.c)) rfl
  have p1_2 := B1.out.at_ (i := 2) (v := .int .i64 a.ig) rfl
  have k1_0 : w.heap.size + 1 < w1.heap.size := by have := B1.out.lt; omega
  have k1_1 : w.heap.size + 1 < w1.heap.size + 1 := by have := B1.out.lt; omega
  have p2_0 := B2.out.at_ (i := 0) (v := .int .i64 b.lv) rfl
  have p2_1 := B2.out.at_ (i := 1) (v := .int .u64 (u b.c)) rfl
  have p2_2 := B2.out.at_ (i := 2) (v := .int .i64 b.ig) rfl
  have k2_0 : w.heap.size + 1 + 1 < w1.heap.size := by have := B2.out.lt; omega
  have k2_1 : w.heap.size + 1 + 1 < w1.heap.size + 1 := by have := B2.out.lt; omega
  have p3_0 := B3.out.at_ (i := 0) (v := .int .i64 high.lv) rfl
  have p3_1 := B3.out.at_ (i := 1) (v := .int .u64 (u high.c)) rfl
  have p3_2 := B3.out.at_ (i := 2) (v := .int .i64 high.ig) rfl
  have k3_0 : w.heap.size + 1 + 1 + 1 < w1.heap.size := by have := B3.out.lt; omega
  have k3_1 : w.heap.size + 1 + 1 + 1 < w1.heap.size + 1 := by have := B3.out.lt; omega
  go_wp2_with fail
  refine (H0.out _ _ (HH.out.up (by repeat (first | exact HB.out | refine below_alloc ?_ _ | refine Below.drew ?_ | refine below_set ?_ (by omega) _))) (LabsAt.of2 (by repeat (first | exact Blk.new' (by simp; done) | exact Blk.new' rfl | refine Blk.drew ?_ | refine Blk.alloc ?_ _)))).mono ?_
  rintro e w2 ⟨rfl, hB⟩
  replace HB := Lib.hid (below_call (w := w) (by repeat (first | exact HB.out | refine below_alloc ?_ _ | refine Below.drew ?_ | refine below_set ?_ (by omega) _)) hB)
  have z2 : w.heap.size ≤ w2.heap.size := HB.out.size
  replace B0 : Hid (Blk w2 (w.heap.size) 24 #[.int .i64 cur.lv, .int .u64 (u cur.c), .int .i64 cur.ig]) := Lib.hid (Blk.after (by repeat (first | exact B0.out | exact Blk.new' (by simp; done) | exact Blk.new' rfl | refine Blk.drew ?_ | refine Blk.alloc ?_ _)) hB)
  replace B1 : Hid (Blk w2 (w.heap.size + 1) 24 #[.int .i64 a.lv, .int .u64 (u a.c), .int .i64 a.ig]) := Lib.hid (Blk.after (by repeat (first | exact B1.out | exact Blk.new' (by simp; done) | exact Blk.new' rfl | refine Blk.drew ?_ | refine Blk.alloc ?_ _)) hB)
  replace B2 : Hid (Blk w2 (w.heap.size + 1 + 1) 24 #[.int .i64 b.lv, .int .u64 (u b.c), .int .i64 b.ig]) := Lib.hid (Blk.after (by repeat (first | exact B2.out | exact Blk.new' (by simp; done) | exact Blk.new' rfl | refine Blk.drew ?_ | refine Blk.alloc ?_ _)) hB)
  replace B3 : Hid (Blk w2 (w.heap.size + 1 + 1 + 1) 24 #[.int .i64 high.lv, .int .u64 (u high.c), .int .i64 high.ig]) := Lib.hid (Blk.after (by repeat (first | exact B3.out | exact Blk.new' (by simp; done) | exact Blk.new' rfl | refine Blk.drew ?_ | refine Blk.alloc ?_ _)) hB)
  clear p0_0 p0_1 p0_2 k0_0 k0_1 p1_0 p1_1 p1_2 k1_0 k1_1 p2_0 p2_1 p2_2 k2_0 k2_1 p3_0 p3_1 p3_2 k3_0 k3_1
  clear hB
  have p0_0 := B0.out.at_ (i := 0) (v := .int .i64 cur.lv) rfl
  have p0_1 := B0.out.at_ (i := 1) (v := .int .u64 (u cur.c)) rfl
  have p0_2 := B0.out.at_ (i := 2) (v := .int .i64 cur.ig) rfl
  have k0_0 : w.heap.size < w2.heap.size := by have := B0.out.lt; omega
  have k0_1 : w.heap.size < w2.heap.size + 1 := by have := B0.out.lt; omega
  have k0_2 : w.heap.size < w2.heap.size + 1 + 1 := by have := B0.out.lt; omega
  have p1_0 := B1.out.at_ (i := 0) (v := .int .i64 a.lv) rfl
  have p1_1 := B1.out.at_ (i := 1) (v := .int .u64 (u a.c)) rfl
  have p1_2 := B1.out.at_ (i := 2) (v := .int .i64 a.ig) rfl
  have k1_0 : w.heap.size + 1 < w2.heap.size := by have := B1.out.lt; omega
  have k1_1 : w.heap.size + 1 < w2.heap.size + 1 := by have := B1.out.lt; omega
  have k1_2 : w.heap.size + 1 < w2.heap.size + 1 + 1 := by have := B1.out.lt; omega
  have p2_0 := B2.out.at_ (i := 0) (v := .int .i64 b.lv) rfl
  have p2_1 := B2.out.at_ (i := 1) (v := .int .u64 (u b.c)) rfl
  have p2_2 := B2.out.at_ (i := 2) (v := .int .i64 b.ig) rfl
  have k2_0 : w.heap.size + 1 + 1 < w2.heap.size := by have := B2.out.lt; omega
  have k2_1 : w.heap.size + 1 + 1 < w2.heap.size + 1 := by have := B2.out.lt; omega
  have k2_2 : w.heap.size + 1 + 1 < w2.heap.size + 1 + 1 := by have := B2.out.lt; omega
  have p3_0 := B3.out.at_ (i := 0) (v := .int .i64 high.lv) rfl
  have p3_1 := B3.out.at_ (i := 1) (v := .int .u64 (u high.c)) rfl
  have p3_2 := B3.out.at_ (i := 2) (v := .int .i64 high.ig) rfl
  have k3_0 : w.heap.size + 1 + 1 + 1 < w2.heap.size := by have := B3.out.lt; omega
  have k3_1 : w.heap.size + 1 + 1 + 1 < w2.heap.size + 1 := by have := B3.out.lt; omega
  have k3_2 : w.heap.size + 1 + 1 + 1 < w2.heap.size + 1 + 1 := by have := B3.out.lt; omega
  go_wp2_with fail
  refine (H1.out _ _ (HH.out.up (by repeat (first | exact HB.out | refine below_alloc ?_ _ | refine Below.drew ?_ | refine below_set ?_ (by omega) _))) (LabsAt.of2 (by repeat (first | exact Blk.new' (by simp; done) | exact Blk.new' rfl | refine Blk.drew ?_ | refine Blk.alloc ?_ _)))).mono ?_
  rintro e w3 ⟨rfl, hB⟩
  replace HB := Lib.hid (below_call (w := w) (by repeat (first | exact HB.out | refine below_alloc ?_ _ | refine Below.drew ?_ | refine below_set ?_ (by omega) _)) hB)
  have z3 : w.heap.size ≤ w3.heap.size := HB.out.size
  replace B0 : Hid (Blk w3 (w.heap.size) 24 #[.int .i64 cur.lv, .int .u64 (u cur.c), .int .i64 cur.ig]) := Lib.hid (Blk.after (by repeat (first | exact B0.out | exact Blk.new' (by simp; done) | exact Blk.new' rfl | refine Blk.drew ?_ | refine Blk.alloc ?_ _)) hB)
  replace B1 : Hid (Blk w3 (w.heap.size + 1) 24 #[.int .i64 a.lv, .int .u64 (u a.c), .int .i64 a.ig]) := Lib.hid (Blk.after (by repeat (first | exact B1.out | exact Blk.new' (by simp; done) | exact Blk.new' rfl | refine Blk.drew ?_ | refine Blk.alloc ?_ _)) hB)
  replace B2 : Hid (Blk w3 (w.heap.size + 1 + 1) 24 #[.int .i64 b.lv, .int .u64 (u b.c), .int .i64 b.ig]) := Lib.hid (Blk.after (by repeat (first | exact B2.out | exact Blk.new' (by simp; done) | exact Blk.new' rfl | refine Blk.drew ?_ | refine Blk.alloc ?_ _)) hB)
  clear p0_0 p0_1 p0_2 k0_0 k0_1 k0_2 p1_0 p1_1 p1_2 k1_0 k1_1 k1_2 p2_0 p2_1 p2_2 k2_0 k2_1 k2_2 p3_0 p3_1 p3_2 k3_0 k3_1 k3_2
  clear hB
  have p0_0 := B0.out.at_ (i := 0) (v := .int .i64 cur.lv) rfl
  have p0_1 := B0.out.at_ (i := 1) (v := .int .u64 (u cur.c)) rfl
  have p0_2 := B0.out.at_ (i := 2) (v := .int .i64 cur.ig) rfl
  have k0_0 : w.heap.size < w3.heap.size := by have := B0.out.lt; omega
  have k0_1 : w.heap.size < w3.heap.size + 1 := by have := B0.out.lt; omega
  have k0_2 : w.heap.size < w3.heap.size + 1 + 1 := by have := B0.out.lt; omega
  have p1_0 := B1.out.at_ (i := 0) (v := .int .i64 a.lv) rfl
  have p1_1 := B1.out.at_ (i := 1) (v := .int .u64 (u a.c)) rfl
  have p1_2 := B1.out.at_ (i := 2) (v := .int .i64 a.ig) rfl
  have k1_0 : w.heap.size + 1 < w3.heap.size := by have := B1.out.lt; omega
  have k1_1 : w.heap.size + 1 < w3.heap.size + 1 := by have := B1.out.lt; omega
  have k1_2 : w.heap.size + 1 < w3.heap.size + 1 + 1 := by have := B1.out.lt; omega
  have p2_0 := B2.out.at_ (i := 0) (v := .int .i64 b.lv) rfl
  have p2_1 := B2.out.at_ (i := 1) (v := .int .u64 (u b.c)) rfl
  have p2_2 := B2.out.at_ (i := 2) (v := .int .i64 b.ig) rfl
  have k2_0 : w.heap.size + 1 + 1 < w3.heap.size := by have := B2.out.lt; omega
  have k2_1 : w.heap.size + 1 + 1 < w3.heap.size + 1 := by have := B2.out.lt; omega
  have k2_2 : w.heap.size + 1 + 1 < w3.heap.size + 1 + 1 := by have := B2.out.lt; omega
  go_wp2_with fail
  refine (H2.out _ _ (HH.out.up (by repeat (first | exact HB.out | refine below_alloc ?_ _ | refine Below.drew ?_ | refine below_set ?_ (by omega) _))).h (LabsAt.of3 (by repeat (first | exact Blk.new' (by simp; done) | exact Blk.new' rfl | refine Blk.drew ?_ | refine Blk.alloc ?_ _)))).mono ?_
  rintro e w4 ⟨rfl, hB⟩
  replace HB := Lib.hid (below_call (w := w) (by repeat (first | exact HB.out | refine below_alloc ?_ _ | refine Below.drew ?_ | refine below_set ?_ (by omega) _)) hB)
  have z4 : w.heap.size ≤ w4.heap.size := HB.out.size
  clear p0_0 p0_1 p0_2 k0_0 k0_1 k0_2 p1_0 p1_1 p1_2 k1_0 k1_1 k1_2 p2_0 p2_1 p2_2 k2_0 k2_1 k2_2
  clear hB
  go_wp2_with fail
  go_ret
  exact ⟨rfl, (by repeat (first | exact HB.out | refine below_alloc ?_ _ | refine Below.drew ?_ | refine below_set ?_ (by omega) _))⟩
set_option maxRecDepth 100000 in
set_option maxHeartbeats 4000000 in
theorem turns_bad (cur a b high z : Lab) (k : Int) (sa : Addr) (w : World) (hh : Env sa w) (h0 : PathIs sa cur [a, b] high zeroL 0 20) (h1 : PathIs sa cur [b, a] high zeroL 0 20) (h2 : LeastIs [cur, a, b] z k) (h3 : ∀ W, (binOp .eql 24 (.agg #[.int .i64 zeroL.lv, .int .u64 (u zeroL.c), .int .i64 zeroL.ig]) (.agg #[.int .i64 0, .int .u64 0, .int .i64 0])).run Tryd.prog W = .ok (.bool true) W) :
    Calls Tryd.prog 9 #[.agg #[.int .i64 cur.lv, .int .u64 (u cur.c), .int .i64 cur.ig], .agg #[.int .i64 a.lv, .int .u64 (u a.c), .int .i64 a.ig], .agg #[.int .i64 b.lv, .int .u64 (u b.c), .int .i64 b.ig], .agg #[.int .i64 high.lv, .int .u64 (u high.c), .int .i64 high.ig]] w (Yes w) := by
  have H0 := Lib.hid h0
  clear h0
  have H1 := Lib.hid h1
  clear h1
  have H2 := Lib.hid h2
  clear h2
  have HH := Lib.hid hh
  clear hh
  have HB := Lib.hid (Below.refl w.heap.size w)
  go_enter Tryd.func9, Tryd.ntmps9
  go_wp2_with fail
  refine (shown_any sa _ (HH.out.up (by repeat (first | exact HB.out | refine below_alloc ?_ _ | refine Below.drew ?_ | refine below_set ?_ (by omega) _)))).mono ?_
  rintro e w1 ⟨rfl, hB⟩
  replace HB := Lib.hid (below_call (w := w) (by repeat (first | exact HB.out | refine below_alloc ?_ _ | refine Below.drew ?_ | refine below_set ?_ (by omega) _)) hB)
  have z1 : w.heap.size ≤ w1.heap.size := HB.out.size
  have B0 : Hid (Blk w1 (w.heap.size) 24 #[.int .i64 cur.lv, .int .u64 (u cur.c), .int .i64 cur.ig]) := Lib.hid (Blk.after (by repeat (first | exact Blk.new' (by simp; done) | exact Blk.new' rfl | refine Blk.drew ?_ | refine Blk.alloc ?_ _)) hB)
  have B1 : Hid (Blk w1 (w.heap.size + 1) 24 #[.int .i64 a.lv, .int .u64 (u a.c), .int .i64 a.ig]) := Lib.hid (Blk.after (by repeat (first | exact Blk.new' (by simp; done) | exact Blk.new' rfl | refine Blk.drew ?_ | refine Blk.alloc ?_ _)) hB)
  have B2 : Hid (Blk w1 (w.heap.size + 1 + 1) 24 #[.int .i64 b.lv, .int .u64 (u b.c), .int .i64 b.ig]) := Lib.hid (Blk.after (by repeat (first | exact Blk.new' (by simp; done) | exact Blk.new' rfl | refine Blk.drew ?_ | refine Blk.alloc ?_ _)) hB)
  have B3 : Hid (Blk w1 (w.heap.size + 1 + 1 + 1) 24 #[.int .i64 high.lv, .int .u64 (u high.c), .int .i64 high.ig]) := Lib.hid (Blk.after (by repeat (first | exact Blk.new' (by simp; done) | exact Blk.new' rfl | refine Blk.drew ?_ | refine Blk.alloc ?_ _)) hB)
  clear hB
  have p0_0 := B0.out.at_ (i := 0) (v := .int .i64 cur.lv) rfl
  have p0_1 := B0.out.at_ (i := 1) (v := .int .u64 (u cur.c)) rfl
  have p0_2 := B0.out.at_ (i := 2) (v := .int .i64 cur.ig) rfl
  have k0_0 : w.heap.size < w1.heap.size := by have := B0.out.lt; omega
  have k0_1 : w.heap.size < w1.heap.size + 1 := by have := B0.out.lt; omega
  have p1_0 := B1.out.at_ (i := 0) (v := .int .i64 a.lv) rfl
  have p1_1 := B1.out.at_ (i := 1) (v := .int .u64 (u a.c)) rfl
  have p1_2 := B1.out.at_ (i := 2) (v := .int .i64 a.ig) rfl
  have k1_0 : w.heap.size + 1 < w1.heap.size := by have := B1.out.lt; omega
  have k1_1 : w.heap.size + 1 < w1.heap.size + 1 := by have := B1.out.lt; omega
  have p2_0 := B2.out.at_ (i := 0) (v := .int .i64 b.lv) rfl
  have p2_1 := B2.out.at_ (i := 1) (v := .int .u64 (u b.c)) rfl
  have p2_2 := B2.out.at_ (i := 2) (v := .int .i64 b.ig) rfl
  have k2_0 : w.heap.size + 1 + 1 < w1.heap.size := by have := B2.out.lt; omega
  have k2_1 : w.heap.size + 1 + 1 < w1.heap.size + 1 := by have := B2.out.lt; omega
  have p3_0 := B3.out.at_ (i := 0) (v := .int .i64 high.lv) rfl
  have p3_1 := B3.out.at_ (i := 1) (v := .int .u64 (u high.c)) rfl
  have p3_2 := B3.out.at_ (i := 2) (v := .int .i64 high.ig) rfl
  have k3_0 : w.heap.size + 1 + 1 + 1 < w1.heap.size := by have := B3.out.lt; omega
  have k3_1 : w.heap.size + 1 + 1 + 1 < w1.heap.size + 1 := by have := B3.out.lt; omega
  go_wp2_with fail
  refine (H0.out _ _ (HH.out.up (by repeat (first | exact HB.out | refine below_alloc ?_ _ | refine Below.drew ?_ | refine below_set ?_ (by omega) _))) (LabsAt.of2 (by repeat (first | exact Blk.new' (by simp; done) | exact Blk.new' rfl | refine Blk.drew ?_ | refine Blk.alloc ?_ _)))).mono ?_
  rintro e w2 ⟨rfl, hB⟩
  replace HB := Lib.hid (below_call (w := w) (by repeat (first | exact HB.out | refine below_alloc ?_ _ | refine Below.drew ?_ | refine below_set ?_ (by omega) _)) hB)
  have z2 : w.heap.size ≤ w2.heap.size := HB.out.size
  replace B0 : Hid (Blk w2 (w.heap.size) 24 #[.int .i64 cur.lv, .int .u64 (u cur.c), .int .i64 cur.ig]) := Lib.hid (Blk.after (by repeat (first | exact B0.out | exact Blk.new' (by simp; done) | exact Blk.new' rfl | refine Blk.drew ?_ | refine Blk.alloc ?_ _)) hB)
  replace B1 : Hid (Blk w2 (w.heap.size + 1) 24 #[.int .i64 a.lv, .int .u64 (u a.c), .int .i64 a.ig]) := Lib.hid (Blk.after (by repeat (first | exact B1.out | exact Blk.new' (by simp; done) | exact Blk.new' rfl | refine Blk.drew ?_ | refine Blk.alloc ?_ _)) hB)
  replace B2 : Hid (Blk w2 (w.heap.size + 1 + 1) 24 #[.int .i64 b.lv, .int .u64 (u b.c), .int .i64 b.ig]) := Lib.hid (Blk.after (by repeat (first | exact B2.out | exact Blk.new' (by simp; done) | exact Blk.new' rfl | refine Blk.drew ?_ | refine Blk.alloc ?_ _)) hB)
  replace B3 : Hid (Blk w2 (w.heap.size + 1 + 1 + 1) 24 #[.int .i64 high.lv, .int .u64 (u high.c), .int .i64 high.ig]) := Lib.hid (Blk.after (by repeat (first | exact B3.out | exact Blk.new' (by simp; done) | exact Blk.new' rfl | refine Blk.drew ?_ | refine Blk.alloc ?_ _)) hB)
  clear p0_0 p0_1 p0_2 k0_0 k0_1 p1_0 p1_1 p1_2 k1_0 k1_1 p2_0 p2_1 p2_2 k2_0 k2_1 p3_0 p3_1 p3_2 k3_0 k3_1
  clear hB
  have p0_0 := B0.out.at_ (i := 0) (v := .int .i64 cur.lv) rfl
  have p0_1 := B0.out.at_ (i := 1) (v := .int .u64 (u cur.c)) rfl
  have p0_2 := B0.out.at_ (i := 2) (v := .int .i64 cur.ig) rfl
  have k0_0 : w.heap.size < w2.heap.size := by have := B0.out.lt; omega
  have k0_1 : w.heap.size < w2.heap.size + 1 := by have := B0.out.lt; omega
  have k0_2 : w.heap.size < w2.heap.size + 1 + 1 := by have := B0.out.lt; omega
  have p1_0 := B1.out.at_ (i := 0) (v := .int .i64 a.lv) rfl
  have p1_1 := B1.out.at_ (i := 1) (v := .int .u64 (u a.c)) rfl
  have p1_2 := B1.out.at_ (i := 2) (v := .int .i64 a.ig) rfl
  have k1_0 : w.heap.size + 1 < w2.heap.size := by have := B1.out.lt; omega
  have k1_1 : w.heap.size + 1 < w2.heap.size + 1 := by have := B1.out.lt; omega
  have k1_2 : w.heap.size + 1 < w2.heap.size + 1 + 1 := by have := B1.out.lt; omega
  have p2_0 := B2.out.at_ (i := 0) (v := .int .i64 b.lv) rfl
  have p2_1 := B2.out.at_ (i := 1) (v := .int .u64 (u b.c)) rfl
  have p2_2 := B2.out.at_ (i := 2) (v := .int .i64 b.ig) rfl
  have k2_0 : w.heap.size + 1 + 1 < w2.heap.size := by have := B2.out.lt; omega
  have k2_1 : w.heap.size + 1 + 1 < w2.heap.size + 1 := by have := B2.out.lt; omega
  have k2_2 : w.heap.size + 1 + 1 < w2.heap.size + 1 + 1 := by have := B2.out.lt; omega
  have p3_0 := B3.out.at_ (i := 0) (v := .int .i64 high.lv) rfl
  have p3_1 := B3.out.at_ (i := 1) (v := .int .u64 (u high.c)) rfl
  have p3_2 := B3.out.at_ (i := 2) (v := .int .i64 high.ig) rfl
  have k3_0 : w.heap.size + 1 + 1 + 1 < w2.heap.size := by have := B3.out.lt; omega
  have k3_1 : w.heap.size + 1 + 1 + 1 < w2.heap.size + 1 := by have := B3.out.lt; omega
  have k3_2 : w.heap.size + 1 + 1 + 1 < w2.heap.size + 1 + 1 := by have := B3.out.lt; omega
  go_wp2_with fail
  refine (H1.out _ _ (HH.out.up (by repeat (first | exact HB.out | refine below_alloc ?_ _ | refine Below.drew ?_ | refine below_set ?_ (by omega) _))) (LabsAt.of2 (by repeat (first | exact Blk.new' (by simp; done) | exact Blk.new' rfl | refine Blk.drew ?_ | refine Blk.alloc ?_ _)))).mono ?_
  rintro e w3 ⟨rfl, hB⟩
  replace HB := Lib.hid (below_call (w := w) (by repeat (first | exact HB.out | refine below_alloc ?_ _ | refine Below.drew ?_ | refine below_set ?_ (by omega) _)) hB)
  have z3 : w.heap.size ≤ w3.heap.size := HB.out.size
  replace B0 : Hid (Blk w3 (w.heap.size) 24 #[.int .i64 cur.lv, .int .u64 (u cur.c), .int .i64 cur.ig]) := Lib.hid (Blk.after (by repeat (first | exact B0.out | exact Blk.new' (by simp; done) | exact Blk.new' rfl | refine Blk.drew ?_ | refine Blk.alloc ?_ _)) hB)
  replace B1 : Hid (Blk w3 (w.heap.size + 1) 24 #[.int .i64 a.lv, .int .u64 (u a.c), .int .i64 a.ig]) := Lib.hid (Blk.after (by repeat (first | exact B1.out | exact Blk.new' (by simp; done) | exact Blk.new' rfl | refine Blk.drew ?_ | refine Blk.alloc ?_ _)) hB)
  replace B2 : Hid (Blk w3 (w.heap.size + 1 + 1) 24 #[.int .i64 b.lv, .int .u64 (u b.c), .int .i64 b.ig]) := Lib.hid (Blk.after (by repeat (first | exact B2.out | exact Blk.new' (by simp; done) | exact Blk.new' rfl | refine Blk.drew ?_ | refine Blk.alloc ?_ _)) hB)
  have B5 : Hid (Blk w3 (w2.heap.size) 24 #[.int .i64 zeroL.lv, .int .u64 (u zeroL.c), .int .i64 zeroL.ig]) := Lib.hid (Blk.after (by repeat (first | exact Blk.new' (by simp; done) | exact Blk.new' rfl | refine Blk.drew ?_ | refine Blk.alloc ?_ _)) hB)
  clear p0_0 p0_1 p0_2 k0_0 k0_1 k0_2 p1_0 p1_1 p1_2 k1_0 k1_1 k1_2 p2_0 p2_1 p2_2 k2_0 k2_1 k2_2 p3_0 p3_1 p3_2 k3_0 k3_1 k3_2
  clear hB
  have p0_0 := B0.out.at_ (i := 0) (v := .int .i64 cur.lv) rfl
  have p0_1 := B0.out.at_ (i := 1) (v := .int .u64 (u cur.c)) rfl
  have p0_2 := B0.out.at_ (i := 2) (v := .int .i64 cur.ig) rfl
  have k0_0 : w.heap.size < w3.heap.size := by have := B0.out.lt; omega
  have k0_1 : w.heap.size < w3.heap.size + 1 := by have := B0.out.lt; omega
  have k0_2 : w.heap.size < w3.heap.size + 1 + 1 := by have := B0.out.lt; omega
  have p1_0 := B1.out.at_ (i := 0) (v := .int .i64 a.lv) rfl
  have p1_1 := B1.out.at_ (i := 1) (v := .int .u64 (u a.c)) rfl
  have p1_2 := B1.out.at_ (i := 2) (v := .int .i64 a.ig) rfl
  have k1_0 : w.heap.size + 1 < w3.heap.size := by have := B1.out.lt; omega
  have k1_1 : w.heap.size + 1 < w3.heap.size + 1 := by have := B1.out.lt; omega
  have k1_2 : w.heap.size + 1 < w3.heap.size + 1 + 1 := by have := B1.out.lt; omega
  have p2_0 := B2.out.at_ (i := 0) (v := .int .i64 b.lv) rfl
  have p2_1 := B2.out.at_ (i := 1) (v := .int .u64 (u b.c)) rfl
  have p2_2 := B2.out.at_ (i := 2) (v := .int .i64 b.ig) rfl
  have k2_0 : w.heap.size + 1 + 1 < w3.heap.size := by have := B2.out.lt; omega
  have k2_1 : w.heap.size + 1 + 1 < w3.heap.size + 1 := by have := B2.out.lt; omega
  have k2_2 : w.heap.size + 1 + 1 < w3.heap.size + 1 + 1 := by have := B2.out.lt; omega
  go_wp2_with fail
  refine (H2.out _ _ (HH.out.up (by repeat (first | exact HB.out | refine below_alloc ?_ _ | refine Below.drew ?_ | refine below_set ?_ (by omega) _))).h (LabsAt.of3 (by repeat (first | exact Blk.new' (by simp; done) | exact Blk.new' rfl | refine Blk.drew ?_ | refine Blk.alloc ?_ _)))).mono ?_
  rintro e w4 ⟨rfl, hB⟩
  replace HB := Lib.hid (below_call (w := w) (by repeat (first | exact HB.out | refine below_alloc ?_ _ | refine Below.drew ?_ | refine below_set ?_ (by omega) _)) hB)
  have z4 : w.heap.size ≤ w4.heap.size := HB.out.size
  replace B5 : Hid (Blk w4 (w2.heap.size) 24 #[.int .i64 zeroL.lv, .int .u64 (u zeroL.c), .int .i64 zeroL.ig]) := Lib.hid (Blk.after (by repeat (first | exact B5.out | exact Blk.new' (by simp; done) | exact Blk.new' rfl | refine Blk.drew ?_ | refine Blk.alloc ?_ _)) hB)
  clear p0_0 p0_1 p0_2 k0_0 k0_1 k0_2 p1_0 p1_1 p1_2 k1_0 k1_1 k1_2 p2_0 p2_1 p2_2 k2_0 k2_1 k2_2
  clear hB
  have p5_0 := B5.out.at_ (i := 0) (v := .int .i64 zeroL.lv) rfl
  have p5_1 := B5.out.at_ (i := 1) (v := .int .u64 (u zeroL.c)) rfl
  have p5_2 := B5.out.at_ (i := 2) (v := .int .i64 zeroL.ig) rfl
  have k5_0 : w2.heap.size < w4.heap.size := by have := B5.out.lt; omega
  have k5_1 : w2.heap.size < w4.heap.size + 1 := by have := B5.out.lt; omega
  go_wp2_with fail
  go_ret
  exact ⟨rfl, (by repeat (first | exact HB.out | refine below_alloc ?_ _ | refine Below.drew ?_ | refine below_set ?_ (by omega) _))⟩
theorem turns_walk (cur a b high : Lab) (sa : Addr) (w : World) (hh : Env sa w) : Calls Tryd.prog 9 #[.agg #[.int .i64 cur.lv, .int .u64 (u cur.c), .int .i64 cur.ig], .agg #[.int .i64 a.lv, .int .u64 (u a.c), .int .i64 a.ig], .agg #[.int .i64 b.lv, .int .u64 (u b.c), .int .i64 b.ig], .agg #[.int .i64 high.lv, .int .u64 (u high.c), .int .i64 high.ig]] w (Yes w) := by
  have hs : allR cur high [b, a] = allR cur high [a, b] := by
    unfold allR; simp [Bool.and_comm]
  by_cases h : allR cur high [a, b] = true
  · have h' := hs.trans h
    have ok : okL cur = true ∧ okL high = true ∧ okL a = true ∧ okL b = true := by unfold allR at h; simpa using h
    obtain ⟨oc, _, oa, ob⟩ := ok
    have es : joinL (joinL cur b) a = joinL (joinL cur a) b := by rw [joinL_assoc, joinL_comm b a, ← joinL_assoc]
    by_cases h2 : le3 (joinL (joinL cur a) b) high = true
    · have h1 : le3 (joinL cur a) high = true := le3_trans (le3_join_l _ _) h2
      have h2' : le3 (joinL (joinL cur b) a) high = true := by rw [es]; exact h2
      have h1' : le3 (joinL cur b) high = true := le3_trans (le3_join_l _ _) h2'
      obtain ⟨e1, e2, e3⟩ := two_ok h h1 h2
      obtain ⟨f1, f2, f3⟩ := two_ok h' h1' h2'
      have el : leastL [cur, a, b] = joinL (joinL cur a) b := by
        unfold leastL; rw [if_pos (by simp [oc, oa, ob])]
        show stepL (stepL (stepL botL cur) a) b = _
        have s1 : stepL botL cur = cur := by unfold stepL; rw [if_pos oc]; exact le3_join_eq.1 (bot_le oc)
        rw [s1]; unfold stepL; rw [if_pos oa, if_pos ob]
      have en : leastE [cur, a, b] = 0 := by unfold leastE; rw [if_pos (by simp [oc, oa, ob])]
      exact turns_ok cur a b high _ sa w hh (pathIs (by simp) e1 e2 e3) (pathIs (by simp) (f1.trans es) f2 f3) (leastIs el en) (eqlIs (eqL_self _))
    · have e := two_no h h2
      have f := two_no h' (by rw [es]; exact h2)
      exact turns_high cur a b high _ _ _ _ _ _ sa w hh (pathIs (by simp) rfl rfl e) (pathIs (by simp) rfl rfl f) (leastIs rfl rfl)
  · have n1 : allR cur high [a, b] = false := nbool h
    have n2 : allR cur high [b, a] = false := hs.trans n1
    exact turns_bad cur a b high _ _ sa w hh (pathIs (by simp) (by unfold pathsL; rw [n1]; rfl) (by unfold pathsK; rw [n1]; rfl) (by unfold pathsE; rw [n1]; rfl)) (pathIs (by simp) (by unfold pathsL; rw [n2]; rfl) (by unfold pathsK; rw [n2]; rfl) (by unfold pathsE; rw [n2]; rfl)) (leastIs rfl rfl) zeroIs
end Go.Proofs.YtmbafllkiofhnaaDoor
