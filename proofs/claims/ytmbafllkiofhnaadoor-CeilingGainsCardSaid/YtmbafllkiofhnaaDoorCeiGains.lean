/-
  THE WALK OF THE STATEMENT CeilingGains (printed by wip/genceil.py).
-/
import Derived.Test.YtmbafllkiofhnaaDoorCeiG
namespace Go.Proofs.YtmbafllkiofhnaaDoor
open Go.RowKit

attribute [local go_sem] u_and u_or u_andNot u_add u_sub u_bit u_eq_zero u_beq

set_option maxRecDepth 100000 in
set_option maxHeartbeats 4000000 in
theorem gains_bad (cur a b : Lab) (sa : Addr) (w : World) (hh : Env sa w) (h0 : GainIs sa cur a zeroL 20) (h1 : JoinIs cur a zeroL 20) (h2 : ∀ W, (binOp .eql 24 (.agg #[.int .i64 zeroL.lv, .int .u64 (u zeroL.c), .int .i64 zeroL.ig]) (.agg #[.int .i64 0, .int .u64 0, .int .i64 0])).run Tryd.prog W = .ok (.bool true) W) :
    Calls Tryd.prog 7 #[.agg #[.int .i64 cur.lv, .int .u64 (u cur.c), .int .i64 cur.ig], .agg #[.int .i64 a.lv, .int .u64 (u a.c), .int .i64 a.ig], .agg #[.int .i64 b.lv, .int .u64 (u b.c), .int .i64 b.ig]] w (Yes w) := by
  have H0 := Lib.hid h0
  clear h0
  have H1 := Lib.hid h1
  clear h1
  have HH := Lib.hid hh
  clear hh
  have HB := Lib.hid (Below.refl w.heap.size w)
  go_enter Tryd.func7, Tryd.ntmps7
  go_wp2_with fail
  refine (shown_any sa _ (HH.out.up (by repeat (first | exact HB.out | refine below_alloc ?_ _ | refine Below.drew ?_ | refine below_set ?_ (by omega) _)))).mono ?_
  rintro e w1 ⟨rfl, hB⟩
  replace HB := Lib.hid (below_call (w := w) (by repeat (first | exact HB.out | refine below_alloc ?_ _ | refine Below.drew ?_ | refine below_set ?_ (by omega) _)) hB)
  have z1 : w.heap.size ≤ w1.heap.size := HB.out.size
  have B0 : Hid (Blk w1 (w.heap.size) 24 #[.int .i64 cur.lv, .int .u64 (u cur.c), .int .i64 cur.ig]) := Lib.hid (Blk.after (by repeat (first | exact Blk.new' (by simp; done) | exact Blk.new' rfl | refine Blk.drew ?_ | refine Blk.alloc ?_ _)) hB)
  have B1 : Hid (Blk w1 (w.heap.size + 1) 24 #[.int .i64 a.lv, .int .u64 (u a.c), .int .i64 a.ig]) := Lib.hid (Blk.after (by repeat (first | exact Blk.new' (by simp; done) | exact Blk.new' rfl | refine Blk.drew ?_ | refine Blk.alloc ?_ _)) hB)
  clear hB
  have p0_0 := B0.out.at_ (i := 0) (v := .int .i64 cur.lv) rfl
  have p0_1 := B0.out.at_ (i := 1) (v := .int .u64 (u cur.c)) rfl
  have p0_2 := B0.out.at_ (i := 2) (v := .int .i64 cur.ig) rfl
  have k0_0 : w.heap.size < w1.heap.size := by have := B0.out.lt; omega
  have p1_0 := B1.out.at_ (i := 0) (v := .int .i64 a.lv) rfl
  have p1_1 := B1.out.at_ (i := 1) (v := .int .u64 (u a.c)) rfl
  have p1_2 := B1.out.at_ (i := 2) (v := .int .i64 a.ig) rfl
  have k1_0 : w.heap.size + 1 < w1.heap.size := by have := B1.out.lt; omega
  go_wp2_with fail
  refine (H0.out _ (HH.out.up (by repeat (first | exact HB.out | refine below_alloc ?_ _ | refine Below.drew ?_ | refine below_set ?_ (by omega) _)))).mono ?_
  rintro e w2 ⟨rfl, hB⟩
  replace HB := Lib.hid (below_call (w := w) (by repeat (first | exact HB.out | refine below_alloc ?_ _ | refine Below.drew ?_ | refine below_set ?_ (by omega) _)) hB)
  have z2 : w.heap.size ≤ w2.heap.size := HB.out.size
  replace B0 : Hid (Blk w2 (w.heap.size) 24 #[.int .i64 cur.lv, .int .u64 (u cur.c), .int .i64 cur.ig]) := Lib.hid (Blk.after (by repeat (first | exact B0.out | exact Blk.new' (by simp; done) | exact Blk.new' rfl | refine Blk.drew ?_ | refine Blk.alloc ?_ _)) hB)
  replace B1 : Hid (Blk w2 (w.heap.size + 1) 24 #[.int .i64 a.lv, .int .u64 (u a.c), .int .i64 a.ig]) := Lib.hid (Blk.after (by repeat (first | exact B1.out | exact Blk.new' (by simp; done) | exact Blk.new' rfl | refine Blk.drew ?_ | refine Blk.alloc ?_ _)) hB)
  clear p0_0 p0_1 p0_2 k0_0 p1_0 p1_1 p1_2 k1_0
  clear hB
  have p0_0 := B0.out.at_ (i := 0) (v := .int .i64 cur.lv) rfl
  have p0_1 := B0.out.at_ (i := 1) (v := .int .u64 (u cur.c)) rfl
  have p0_2 := B0.out.at_ (i := 2) (v := .int .i64 cur.ig) rfl
  have k0_0 : w.heap.size < w2.heap.size := by have := B0.out.lt; omega
  have k0_1 : w.heap.size < w2.heap.size + 1 := by have := B0.out.lt; omega
  have p1_0 := B1.out.at_ (i := 0) (v := .int .i64 a.lv) rfl
  have p1_1 := B1.out.at_ (i := 1) (v := .int .u64 (u a.c)) rfl
  have p1_2 := B1.out.at_ (i := 2) (v := .int .i64 a.ig) rfl
  have k1_0 : w.heap.size + 1 < w2.heap.size := by have := B1.out.lt; omega
  have k1_1 : w.heap.size + 1 < w2.heap.size + 1 := by have := B1.out.lt; omega
  go_wp2_with fail
  refine (H1.out _ (HH.out.up (by repeat (first | exact HB.out | refine below_alloc ?_ _ | refine Below.drew ?_ | refine below_set ?_ (by omega) _))).h).mono ?_
  rintro e w3 ⟨rfl, hB⟩
  replace HB := Lib.hid (below_call (w := w) (by repeat (first | exact HB.out | refine below_alloc ?_ _ | refine Below.drew ?_ | refine below_set ?_ (by omega) _)) hB)
  have z3 : w.heap.size ≤ w3.heap.size := HB.out.size
  have B3 : Hid (Blk w3 (w2.heap.size) 24 #[.int .i64 zeroL.lv, .int .u64 (u zeroL.c), .int .i64 zeroL.ig]) := Lib.hid (Blk.after (by repeat (first | exact Blk.new' (by simp; done) | exact Blk.new' rfl | refine Blk.drew ?_ | refine Blk.alloc ?_ _)) hB)
  clear p0_0 p0_1 p0_2 k0_0 k0_1 p1_0 p1_1 p1_2 k1_0 k1_1
  clear hB
  have p3_0 := B3.out.at_ (i := 0) (v := .int .i64 zeroL.lv) rfl
  have p3_1 := B3.out.at_ (i := 1) (v := .int .u64 (u zeroL.c)) rfl
  have p3_2 := B3.out.at_ (i := 2) (v := .int .i64 zeroL.ig) rfl
  have k3_0 : w2.heap.size < w3.heap.size := by have := B3.out.lt; omega
  have k3_1 : w2.heap.size < w3.heap.size + 1 := by have := B3.out.lt; omega
  go_wp2_with fail
  go_ret
  exact ⟨rfl, (by repeat (first | exact HB.out | refine below_alloc ?_ _ | refine Below.drew ?_ | refine below_set ?_ (by omega) _))⟩
set_option maxRecDepth 100000 in
set_option maxHeartbeats 4000000 in
theorem gains_1 (cur a b g x z : Lab) (r : Bool) (sa : Addr) (w : World) (hh : Env sa w) (h0 : GainIs sa cur a g 0) (h1 : JoinIs cur a x 0) (h2 : JoinIs cur g x 0) (h3 : JoinIs cur b z 20) (h4 : ∀ W, (binOp .eql 24 (.agg #[.int .i64 x.lv, .int .u64 (u x.c), .int .i64 x.ig]) (.agg #[.int .i64 x.lv, .int .u64 (u x.c), .int .i64 x.ig])).run Tryd.prog W = .ok (.bool true) W) (h5 : UnderIs a cur r) (h6 : ∀ W, (binOp .eql 24 (.agg #[.int .i64 g.lv, .int .u64 (u g.c), .int .i64 g.ig]) (.agg #[.int .i64 botL.lv, .int .u64 (u botL.c), .int .i64 botL.ig])).run Tryd.prog W = .ok (.bool r) W) :
    Calls Tryd.prog 7 #[.agg #[.int .i64 cur.lv, .int .u64 (u cur.c), .int .i64 cur.ig], .agg #[.int .i64 a.lv, .int .u64 (u a.c), .int .i64 a.ig], .agg #[.int .i64 b.lv, .int .u64 (u b.c), .int .i64 b.ig]] w (Yes w) := by
  have H0 := Lib.hid h0
  clear h0
  have H1 := Lib.hid h1
  clear h1
  have H2 := Lib.hid h2
  clear h2
  have H3 := Lib.hid h3
  clear h3
  have H5 := Lib.hid h5
  clear h5
  have HH := Lib.hid hh
  clear hh
  have HB := Lib.hid (Below.refl w.heap.size w)
  go_enter Tryd.func7, Tryd.ntmps7
  go_wp2_with fail
  refine (shown_any sa _ (HH.out.up (by repeat (first | exact HB.out | refine below_alloc ?_ _ | refine Below.drew ?_ | refine below_set ?_ (by omega) _)))).mono ?_
  rintro e w1 ⟨rfl, hB⟩
  replace HB := Lib.hid (below_call (w := w) (by repeat (first | exact HB.out | refine below_alloc ?_ _ | refine Below.drew ?_ | refine below_set ?_ (by omega) _)) hB)
  have z1 : w.heap.size ≤ w1.heap.size := HB.out.size
  have B0 : Hid (Blk w1 (w.heap.size) 24 #[.int .i64 cur.lv, .int .u64 (u cur.c), .int .i64 cur.ig]) := Lib.hid (Blk.after (by repeat (first | exact Blk.new' (by simp; done) | exact Blk.new' rfl | refine Blk.drew ?_ | refine Blk.alloc ?_ _)) hB)
  have B1 : Hid (Blk w1 (w.heap.size + 1) 24 #[.int .i64 a.lv, .int .u64 (u a.c), .int .i64 a.ig]) := Lib.hid (Blk.after (by repeat (first | exact Blk.new' (by simp; done) | exact Blk.new' rfl | refine Blk.drew ?_ | refine Blk.alloc ?_ _)) hB)
  have B2 : Hid (Blk w1 (w.heap.size + 1 + 1) 24 #[.int .i64 b.lv, .int .u64 (u b.c), .int .i64 b.ig]) := Lib.hid (Blk.after (by repeat (first | exact Blk.new' (by simp; done) | exact Blk.new' rfl | refine Blk.drew ?_ | refine Blk.alloc ?_ _)) hB)
  clear hB
  have p0_0 := B0.out.at_ (i := 0) (v := .int .i64 cur.lv) rfl
  have p0_1 := B0.out.at_ (i := 1) (v := .int .u64 (u cur.c)) rfl
  have p0_2 := B0.out.at_ (i := 2) (v := .int .i64 cur.ig) rfl
  have k0_0 : w.heap.size < w1.heap.size := by have := B0.out.lt; omega
  have p1_0 := B1.out.at_ (i := 0) (v := .int .i64 a.lv) rfl
  have p1_1 := B1.out.at_ (i := 1) (v := .int .u64 (u a.c)) rfl
  have p1_2 := B1.out.at_ (i := 2) (v := .int .i64 a.ig) rfl
  have k1_0 : w.heap.size + 1 < w1.heap.size := by have := B1.out.lt; omega
  go_wp2_with fail
  refine (H0.out _ (HH.out.up (by repeat (first | exact HB.out | refine below_alloc ?_ _ | refine Below.drew ?_ | refine below_set ?_ (by omega) _)))).mono ?_
  rintro e w2 ⟨rfl, hB⟩
  replace HB := Lib.hid (below_call (w := w) (by repeat (first | exact HB.out | refine below_alloc ?_ _ | refine Below.drew ?_ | refine below_set ?_ (by omega) _)) hB)
  have z2 : w.heap.size ≤ w2.heap.size := HB.out.size
  replace B0 : Hid (Blk w2 (w.heap.size) 24 #[.int .i64 cur.lv, .int .u64 (u cur.c), .int .i64 cur.ig]) := Lib.hid (Blk.after (by repeat (first | exact B0.out | exact Blk.new' (by simp; done) | exact Blk.new' rfl | refine Blk.drew ?_ | refine Blk.alloc ?_ _)) hB)
  replace B1 : Hid (Blk w2 (w.heap.size + 1) 24 #[.int .i64 a.lv, .int .u64 (u a.c), .int .i64 a.ig]) := Lib.hid (Blk.after (by repeat (first | exact B1.out | exact Blk.new' (by simp; done) | exact Blk.new' rfl | refine Blk.drew ?_ | refine Blk.alloc ?_ _)) hB)
  replace B2 : Hid (Blk w2 (w.heap.size + 1 + 1) 24 #[.int .i64 b.lv, .int .u64 (u b.c), .int .i64 b.ig]) := Lib.hid (Blk.after (by repeat (first | exact B2.out | exact Blk.new' (by simp; done) | exact Blk.new' rfl | refine Blk.drew ?_ | refine Blk.alloc ?_ _)) hB)
  clear p0_0 p0_1 p0_2 k0_0 p1_0 p1_1 p1_2 k1_0
  clear hB
  have p0_0 := B0.out.at_ (i := 0) (v := .int .i64 cur.lv) rfl
  have p0_1 := B0.out.at_ (i := 1) (v := .int .u64 (u cur.c)) rfl
  have p0_2 := B0.out.at_ (i := 2) (v := .int .i64 cur.ig) rfl
  have k0_0 : w.heap.size < w2.heap.size := by have := B0.out.lt; omega
  have k0_1 : w.heap.size < w2.heap.size + 1 := by have := B0.out.lt; omega
  have p1_0 := B1.out.at_ (i := 0) (v := .int .i64 a.lv) rfl
  have p1_1 := B1.out.at_ (i := 1) (v := .int .u64 (u a.c)) rfl
  have p1_2 := B1.out.at_ (i := 2) (v := .int .i64 a.ig) rfl
  have k1_0 : w.heap.size + 1 < w2.heap.size := by have := B1.out.lt; omega
  have k1_1 : w.heap.size + 1 < w2.heap.size + 1 := by have := B1.out.lt; omega
  go_wp2_with fail
  refine (H1.out _ (HH.out.up (by repeat (first | exact HB.out | refine below_alloc ?_ _ | refine Below.drew ?_ | refine below_set ?_ (by omega) _))).h).mono ?_
  rintro e w3 ⟨rfl, hB⟩
  replace HB := Lib.hid (below_call (w := w) (by repeat (first | exact HB.out | refine below_alloc ?_ _ | refine Below.drew ?_ | refine below_set ?_ (by omega) _)) hB)
  have z3 : w.heap.size ≤ w3.heap.size := HB.out.size
  replace B0 : Hid (Blk w3 (w.heap.size) 24 #[.int .i64 cur.lv, .int .u64 (u cur.c), .int .i64 cur.ig]) := Lib.hid (Blk.after (by repeat (first | exact B0.out | exact Blk.new' (by simp; done) | exact Blk.new' rfl | refine Blk.drew ?_ | refine Blk.alloc ?_ _)) hB)
  replace B1 : Hid (Blk w3 (w.heap.size + 1) 24 #[.int .i64 a.lv, .int .u64 (u a.c), .int .i64 a.ig]) := Lib.hid (Blk.after (by repeat (first | exact B1.out | exact Blk.new' (by simp; done) | exact Blk.new' rfl | refine Blk.drew ?_ | refine Blk.alloc ?_ _)) hB)
  replace B2 : Hid (Blk w3 (w.heap.size + 1 + 1) 24 #[.int .i64 b.lv, .int .u64 (u b.c), .int .i64 b.ig]) := Lib.hid (Blk.after (by repeat (first | exact B2.out | exact Blk.new' (by simp; done) | exact Blk.new' rfl | refine Blk.drew ?_ | refine Blk.alloc ?_ _)) hB)
  have B3 : Hid (Blk w3 (w2.heap.size) 24 #[.int .i64 g.lv, .int .u64 (u g.c), .int .i64 g.ig]) := Lib.hid (Blk.after (by repeat (first | exact Blk.new' (by simp; done) | exact Blk.new' rfl | refine Blk.drew ?_ | refine Blk.alloc ?_ _)) hB)
  clear p0_0 p0_1 p0_2 k0_0 k0_1 p1_0 p1_1 p1_2 k1_0 k1_1
  clear hB
  have p0_0 := B0.out.at_ (i := 0) (v := .int .i64 cur.lv) rfl
  have p0_1 := B0.out.at_ (i := 1) (v := .int .u64 (u cur.c)) rfl
  have p0_2 := B0.out.at_ (i := 2) (v := .int .i64 cur.ig) rfl
  have k0_0 : w.heap.size < w3.heap.size := by have := B0.out.lt; omega
  have k0_1 : w.heap.size < w3.heap.size + 1 := by have := B0.out.lt; omega
  have p3_0 := B3.out.at_ (i := 0) (v := .int .i64 g.lv) rfl
  have p3_1 := B3.out.at_ (i := 1) (v := .int .u64 (u g.c)) rfl
  have p3_2 := B3.out.at_ (i := 2) (v := .int .i64 g.ig) rfl
  have k3_0 : w2.heap.size < w3.heap.size := by have := B3.out.lt; omega
  have k3_1 : w2.heap.size < w3.heap.size + 1 := by have := B3.out.lt; omega
  go_wp2_with fail
  refine (H2.out _ (HH.out.up (by repeat (first | exact HB.out | refine below_alloc ?_ _ | refine Below.drew ?_ | refine below_set ?_ (by omega) _))).h).mono ?_
  rintro e w4 ⟨rfl, hB⟩
  replace HB := Lib.hid (below_call (w := w) (by repeat (first | exact HB.out | refine below_alloc ?_ _ | refine Below.drew ?_ | refine below_set ?_ (by omega) _)) hB)
  have z4 : w.heap.size ≤ w4.heap.size := HB.out.size
  replace B0 : Hid (Blk w4 (w.heap.size) 24 #[.int .i64 cur.lv, .int .u64 (u cur.c), .int .i64 cur.ig]) := Lib.hid (Blk.after (by repeat (first | exact B0.out | exact Blk.new' (by simp; done) | exact Blk.new' rfl | refine Blk.drew ?_ | refine Blk.alloc ?_ _)) hB)
  replace B1 : Hid (Blk w4 (w.heap.size + 1) 24 #[.int .i64 a.lv, .int .u64 (u a.c), .int .i64 a.ig]) := Lib.hid (Blk.after (by repeat (first | exact B1.out | exact Blk.new' (by simp; done) | exact Blk.new' rfl | refine Blk.drew ?_ | refine Blk.alloc ?_ _)) hB)
  replace B2 : Hid (Blk w4 (w.heap.size + 1 + 1) 24 #[.int .i64 b.lv, .int .u64 (u b.c), .int .i64 b.ig]) := Lib.hid (Blk.after (by repeat (first | exact B2.out | exact Blk.new' (by simp; done) | exact Blk.new' rfl | refine Blk.drew ?_ | refine Blk.alloc ?_ _)) hB)
  replace B3 : Hid (Blk w4 (w2.heap.size) 24 #[.int .i64 g.lv, .int .u64 (u g.c), .int .i64 g.ig]) := Lib.hid (Blk.after (by repeat (first | exact B3.out | exact Blk.new' (by simp; done) | exact Blk.new' rfl | refine Blk.drew ?_ | refine Blk.alloc ?_ _)) hB)
  have B4 : Hid (Blk w4 (w3.heap.size) 24 #[.int .i64 x.lv, .int .u64 (u x.c), .int .i64 x.ig]) := Lib.hid (Blk.after (by repeat (first | exact Blk.new' (by simp; done) | exact Blk.new' rfl | refine Blk.drew ?_ | refine Blk.alloc ?_ _)) hB)
  clear p0_0 p0_1 p0_2 k0_0 k0_1 p3_0 p3_1 p3_2 k3_0 k3_1
  clear hB
  have p0_0 := B0.out.at_ (i := 0) (v := .int .i64 cur.lv) rfl
  have p0_1 := B0.out.at_ (i := 1) (v := .int .u64 (u cur.c)) rfl
  have p0_2 := B0.out.at_ (i := 2) (v := .int .i64 cur.ig) rfl
  have k0_0 : w.heap.size < w4.heap.size := by have := B0.out.lt; omega
  have k0_1 : w.heap.size < w4.heap.size + 1 := by have := B0.out.lt; omega
  have p2_0 := B2.out.at_ (i := 0) (v := .int .i64 b.lv) rfl
  have p2_1 := B2.out.at_ (i := 1) (v := .int .u64 (u b.c)) rfl
  have p2_2 := B2.out.at_ (i := 2) (v := .int .i64 b.ig) rfl
  have k2_0 : w.heap.size + 1 + 1 < w4.heap.size := by have := B2.out.lt; omega
  have k2_1 : w.heap.size + 1 + 1 < w4.heap.size + 1 := by have := B2.out.lt; omega
  go_wp2_with fail
  refine (H3.out _ (HH.out.up (by repeat (first | exact HB.out | refine below_alloc ?_ _ | refine Below.drew ?_ | refine below_set ?_ (by omega) _))).h).mono ?_
  rintro e w5 ⟨rfl, hB⟩
  replace HB := Lib.hid (below_call (w := w) (by repeat (first | exact HB.out | refine below_alloc ?_ _ | refine Below.drew ?_ | refine below_set ?_ (by omega) _)) hB)
  have z5 : w.heap.size ≤ w5.heap.size := HB.out.size
  replace B0 : Hid (Blk w5 (w.heap.size) 24 #[.int .i64 cur.lv, .int .u64 (u cur.c), .int .i64 cur.ig]) := Lib.hid (Blk.after (by repeat (first | exact B0.out | exact Blk.new' (by simp; done) | exact Blk.new' rfl | refine Blk.drew ?_ | refine Blk.alloc ?_ _)) hB)
  replace B1 : Hid (Blk w5 (w.heap.size + 1) 24 #[.int .i64 a.lv, .int .u64 (u a.c), .int .i64 a.ig]) := Lib.hid (Blk.after (by repeat (first | exact B1.out | exact Blk.new' (by simp; done) | exact Blk.new' rfl | refine Blk.drew ?_ | refine Blk.alloc ?_ _)) hB)
  replace B3 : Hid (Blk w5 (w2.heap.size) 24 #[.int .i64 g.lv, .int .u64 (u g.c), .int .i64 g.ig]) := Lib.hid (Blk.after (by repeat (first | exact B3.out | exact Blk.new' (by simp; done) | exact Blk.new' rfl | refine Blk.drew ?_ | refine Blk.alloc ?_ _)) hB)
  replace B4 : Hid (Blk w5 (w3.heap.size) 24 #[.int .i64 x.lv, .int .u64 (u x.c), .int .i64 x.ig]) := Lib.hid (Blk.after (by repeat (first | exact B4.out | exact Blk.new' (by simp; done) | exact Blk.new' rfl | refine Blk.drew ?_ | refine Blk.alloc ?_ _)) hB)
  have B5 : Hid (Blk w5 (w4.heap.size) 24 #[.int .i64 x.lv, .int .u64 (u x.c), .int .i64 x.ig]) := Lib.hid (Blk.after (by repeat (first | exact Blk.new' (by simp; done) | exact Blk.new' rfl | refine Blk.drew ?_ | refine Blk.alloc ?_ _)) hB)
  clear p0_0 p0_1 p0_2 k0_0 k0_1 p2_0 p2_1 p2_2 k2_0 k2_1
  clear hB
  go_wp2_with fail
  refine wp_region_gen (S := (fun W' => Blk W' (w.heap.size) 24 #[.int .i64 cur.lv, .int .u64 (u cur.c), .int .i64 cur.ig] ∧ Blk W' (w.heap.size + 1) 24 #[.int .i64 a.lv, .int .u64 (u a.c), .int .i64 a.ig] ∧ Blk W' (w2.heap.size) 24 #[.int .i64 g.lv, .int .u64 (u g.c), .int .i64 g.ig] ∧ Blk W' (w3.heap.size) 24 #[.int .i64 x.lv, .int .u64 (u x.c), .int .i64 x.ig] ∧ Blk W' (w4.heap.size) 24 #[.int .i64 x.lv, .int .u64 (u x.c), .int .i64 x.ig] ∧ Blk W' (w5.heap.size) 24 #[.int .i64 z.lv, .int .u64 (u z.c), .int .i64 z.ig] ∧ Below w.heap.size w W')) (by kernel_rfl) ⟨(by repeat (first | exact B0.out | exact Blk.new' (by simp; done) | exact Blk.new' rfl | refine Blk.drew ?_ | refine Blk.alloc ?_ _)), (by repeat (first | exact B1.out | exact Blk.new' (by simp; done) | exact Blk.new' rfl | refine Blk.drew ?_ | refine Blk.alloc ?_ _)), (by repeat (first | exact B3.out | exact Blk.new' (by simp; done) | exact Blk.new' rfl | refine Blk.drew ?_ | refine Blk.alloc ?_ _)), (by repeat (first | exact B4.out | exact Blk.new' (by simp; done) | exact Blk.new' rfl | refine Blk.drew ?_ | refine Blk.alloc ?_ _)), (by repeat (first | exact B5.out | exact Blk.new' (by simp; done) | exact Blk.new' rfl | refine Blk.drew ?_ | refine Blk.alloc ?_ _)), (by repeat (first | exact Blk.new' (by simp; done) | exact Blk.new' rfl | refine Blk.drew ?_ | refine Blk.alloc ?_ _)), (by repeat (first | exact HB.out | refine below_alloc ?_ _ | refine Below.drew ?_ | refine below_set ?_ (by omega) _))⟩ (fun w6 hS => ?_)
  refine wpAnyH_take (i := 0) (v := ?_) (op_at rfl) (by kernel_rfl) (by kernel_rfl) (by kernel_rfl) (fun _ _ _ h => h) (Or.inl ⟨by rfl, ?_⟩) hS ?_; rotate_left; focus ((intro w' hSw; clear hSw; go_simp) <;> with_reducible rfl)
  try simp only [Act.put, List.setIfInBounds_toArray, List.set_cons_zero, List.set_cons_succ]
  refine wpAnyH_take (i := 1) (v := ?_) (op_at rfl) (by kernel_rfl) (by kernel_rfl) (by kernel_rfl) (fun _ _ _ h => h) (Or.inl ⟨by rfl, ?_⟩) hS ?_; rotate_left; focus ((intro w' hSw; clear hSw; go_simp) <;> with_reducible rfl)
  try simp only [Act.put, List.setIfInBounds_toArray, List.set_cons_zero, List.set_cons_succ]
  refine wpAnyH_take (i := 2) (v := ?_) (op_at rfl) (by kernel_rfl) (by kernel_rfl) (by kernel_rfl) (fun _ _ _ h => h) (Or.inl ⟨by rfl, ?_⟩) hS ?_; rotate_left; focus ((intro w' hSw; clear hSw; go_simp) <;> with_reducible rfl)
  try simp only [Act.put, List.setIfInBounds_toArray, List.set_cons_zero, List.set_cons_succ]
  refine wpAnyH_take (i := 3) (v := ?_) (op_at rfl) (by kernel_rfl) (by kernel_rfl) (by kernel_rfl) (fun _ _ _ h => h) (Or.inl ⟨by rfl, ?_⟩) hS ?_; rotate_left; focus ((intro w' hSw; clear hSw; go_simp) <;> with_reducible rfl)
  try simp only [Act.put, List.setIfInBounds_toArray, List.set_cons_zero, List.set_cons_succ]
  refine wpAnyH_take (i := 4) (v := ?_) (op_at rfl) (by kernel_rfl) (by kernel_rfl) (by kernel_rfl) (fun _ _ _ h => h) (Or.inl ⟨by rfl, ?_⟩) hS ?_; rotate_left; focus ((intro w' hSw; clear hSw; go_simp) <;> with_reducible rfl)
  try simp only [Act.put, List.setIfInBounds_toArray, List.set_cons_zero, List.set_cons_succ]
  refine wpAnyH_take (i := 5) (v := ?_) (op_at rfl) (by kernel_rfl) (by kernel_rfl) (by kernel_rfl) (fun _ _ _ h => h) (Or.inl ⟨by rfl, ?_⟩) hS ?_; rotate_left; focus ((intro w' hSw; clear hSw; go_simp) <;> with_reducible rfl)
  try simp only [Act.put, List.setIfInBounds_toArray, List.set_cons_zero, List.set_cons_succ]
  refine wpAnyH_take (i := 6) (v := ?_) (op_at rfl) (by kernel_rfl) (by kernel_rfl) (by kernel_rfl) (fun _ _ _ h => h) (Or.inl ⟨by rfl, ?_⟩) hS ?_; rotate_left; focus ((intro w' hSw; clear hSw; go_simp) <;> with_reducible rfl)
  try simp only [Act.put, List.setIfInBounds_toArray, List.set_cons_zero, List.set_cons_succ]
  refine wpAnyH_take (i := 7) (v := ?_) (op_at rfl) (by kernel_rfl) (by kernel_rfl) (by kernel_rfl) (fun _ _ _ h => h) (Or.inl ⟨by rfl, ?_⟩) hS ?_; rotate_left; focus ((intro w' hSw; clear hSw; go_simp) <;> with_reducible rfl)
  try simp only [Act.put, List.setIfInBounds_toArray, List.set_cons_zero, List.set_cons_succ]
  refine wpAnyH_take (i := 8) (v := ?_) (op_at rfl) (by kernel_rfl) (by kernel_rfl) (by kernel_rfl) (fun _ _ _ h => h) (Or.inl ⟨by rfl, ?_⟩) hS ?_; rotate_left; focus ((intro w' hSw; clear hSw; go_simp) <;> with_reducible rfl)
  try simp only [Act.put, List.setIfInBounds_toArray, List.set_cons_zero, List.set_cons_succ]
  refine wpAnyH_take (i := 9) (v := ?_) (op_at rfl) (by kernel_rfl) (by kernel_rfl) (by kernel_rfl) (fun _ _ _ h => h) (Or.inl ⟨by rfl, ?_⟩) hS ?_; rotate_left; focus ((intro w' hSw; clear hSw; go_simp) <;> with_reducible rfl)
  try simp only [Act.put, List.setIfInBounds_toArray, List.set_cons_zero, List.set_cons_succ]
  refine wpAnyH_take (i := 10) (v := ?_) (op_at rfl) (by kernel_rfl) (by kernel_rfl) (by kernel_rfl) (fun _ _ _ h => h) (Or.inl ⟨by rfl, ?_⟩) hS ?_; rotate_left; focus ((intro w' hSw; obtain ⟨-, -, -, -, q, -⟩ := hSw; have c0 := q.at_ (i := 0) (v := .int .i64 x.lv) rfl; have c1 := q.at_ (i := 1) (v := .int .u64 (u x.c)) rfl; have c2 := q.at_ (i := 2) (v := .int .i64 x.ig) rfl; clear q; go_simp) <;> with_reducible rfl)
  try simp only [Act.put, List.setIfInBounds_toArray, List.set_cons_zero, List.set_cons_succ]
  refine wpAnyH_take (i := 11) (v := ?_) (op_at rfl) (by kernel_rfl) (by kernel_rfl) (by kernel_rfl) (fun _ _ _ h => h) (Or.inl ⟨by rfl, ?_⟩) hS ?_; rotate_left; focus ((intro w' hSw; obtain ⟨-, -, -, q, -⟩ := hSw; have c0 := q.at_ (i := 0) (v := .int .i64 x.lv) rfl; have c1 := q.at_ (i := 1) (v := .int .u64 (u x.c)) rfl; have c2 := q.at_ (i := 2) (v := .int .i64 x.ig) rfl; clear q; go_simp) <;> with_reducible rfl)
  try simp only [Act.put, List.setIfInBounds_toArray, List.set_cons_zero, List.set_cons_succ]
  refine wpAnyH_take (i := 12) (v := ?_) (op_at rfl) (by kernel_rfl) (by kernel_rfl) (by kernel_rfl) (fun _ _ _ h => h) (Or.inl ⟨by rfl, ?_⟩) hS ?_; rotate_left; focus ((intro w' hSw; clear hSw; go_simp) <;> with_reducible rfl)
  try simp only [Act.put, List.setIfInBounds_toArray, List.set_cons_zero, List.set_cons_succ]
  refine wpAnyH_take (i := 13) (v := ?_) (op_at rfl) (by kernel_rfl) (by kernel_rfl) (by kernel_rfl) (fun _ _ _ h => h) (Or.inl ⟨by rfl, ?_⟩) hS ?_; rotate_left; focus ((intro w' hSw; clear hSw; go_simp) <;> with_reducible rfl)
  try simp only [Act.put, List.setIfInBounds_toArray, List.set_cons_zero, List.set_cons_succ]
  refine wpAnyH_take (i := 14) (v := ?_) (op_at rfl) (by kernel_rfl) (by kernel_rfl) (by kernel_rfl) (fun _ _ _ h => h) (Or.inl ⟨by rfl, ?_⟩) hS ?_; rotate_left; focus ((intro w' hSw; clear hSw; go_simp) <;> with_reducible rfl)
  try simp only [Act.put, List.setIfInBounds_toArray, List.set_cons_zero, List.set_cons_succ]
  refine wpAnyH_take (i := 15) (v := ?_) (op_at rfl) (by kernel_rfl) (by kernel_rfl) (by kernel_rfl) (fun _ _ _ h => h) (Or.inl ⟨by rfl, ?_⟩) hS ?_; rotate_left; focus ((intro w' hSw; clear hSw; go_simp) <;> with_reducible rfl)
  try simp only [Act.put, List.setIfInBounds_toArray, List.set_cons_zero, List.set_cons_succ]
  refine wpAnyH_take (i := 16) (v := ?_) (op_at rfl) (by kernel_rfl) (by kernel_rfl) (by kernel_rfl) (fun _ _ _ h => h) (Or.inl ⟨by rfl, ?_⟩) hS ?_; rotate_left; focus ((intro w' hSw; clear hSw; go_simp) <;> with_reducible rfl)
  try simp only [Act.put, List.setIfInBounds_toArray, List.set_cons_zero, List.set_cons_succ]
  refine wpAnyH_take (i := 17) (v := ?_) (op_at rfl) (by kernel_rfl) (by kernel_rfl) (by kernel_rfl) (fun _ _ _ h => h) (Or.inl ⟨by rfl, ?_⟩) hS ?_; rotate_left; focus ((intro w' hSw; clear hSw; go_simp) <;> with_reducible rfl)
  try simp only [Act.put, List.setIfInBounds_toArray, List.set_cons_zero, List.set_cons_succ]
  refine wpAnyH_take (i := 18) (v := undef) (op_at rfl) (by kernel_rfl) (by kernel_rfl) (by kernel_rfl) (fun _ _ _ h => h) (Or.inr ⟨by rfl, rfl⟩) hS ?_
  try simp only [Act.put, List.setIfInBounds_toArray, List.set_cons_zero, List.set_cons_succ]
  refine wpAnyH_take (i := 19) (v := undef) (op_at rfl) (by kernel_rfl) (by kernel_rfl) (by kernel_rfl) (fun _ _ _ h => h) (Or.inr ⟨by rfl, rfl⟩) hS ?_
  try simp only [Act.put, List.setIfInBounds_toArray, List.set_cons_zero, List.set_cons_succ]
  refine wpAnyH_take (i := 20) (v := undef) (op_at rfl) (by kernel_rfl) (by kernel_rfl) (by kernel_rfl) (fun _ _ _ h => h) (Or.inr ⟨by rfl, rfl⟩) hS ?_
  try simp only [Act.put, List.setIfInBounds_toArray, List.set_cons_zero, List.set_cons_succ]
  refine wpAnyH_take (i := 21) (v := ?_) (op_at rfl) (by kernel_rfl) (by kernel_rfl) (by kernel_rfl) (fun _ _ _ h => h) (Or.inl ⟨by rfl, ?_⟩) hS ?_; rotate_left; focus ((intro w' hSw; clear hSw; go_simp) <;> with_reducible rfl)
  try simp only [Act.put, List.setIfInBounds_toArray, List.set_cons_zero, List.set_cons_succ]
  refine wpAnyH_take (i := 22) (v := ?_) (op_at rfl) (by kernel_rfl) (by kernel_rfl) (by kernel_rfl) (fun _ _ _ h => h) (Or.inl ⟨by rfl, ?_⟩) hS ?_; rotate_left; focus ((intro w' hSw; clear hSw; go_simp) <;> with_reducible rfl)
  try simp only [Act.put, List.setIfInBounds_toArray, List.set_cons_zero, List.set_cons_succ]
  refine wpAnyH_take (i := 23) (v := undef) (op_at rfl) (by kernel_rfl) (by kernel_rfl) (by kernel_rfl) (fun _ _ _ h => h) (Or.inr ⟨by rfl, rfl⟩) hS ?_
  try simp only [Act.put, List.setIfInBounds_toArray, List.set_cons_zero, List.set_cons_succ]
  refine wpAnyH_take (i := 24) (v := undef) (op_at rfl) (by kernel_rfl) (by kernel_rfl) (by kernel_rfl) (fun _ _ _ h => h) (Or.inr ⟨by rfl, rfl⟩) hS ?_
  try simp only [Act.put, List.setIfInBounds_toArray, List.set_cons_zero, List.set_cons_succ]
  refine wpAnyH_take (i := 25) (v := undef) (op_at rfl) (by kernel_rfl) (by kernel_rfl) (by kernel_rfl) (fun _ _ _ h => h) (Or.inr ⟨by rfl, rfl⟩) hS ?_
  try simp only [Act.put, List.setIfInBounds_toArray, List.set_cons_zero, List.set_cons_succ]
  refine wpAnyH_take (i := 26) (v := ?_) (op_at rfl) (by kernel_rfl) (by kernel_rfl) (by kernel_rfl) (fun _ _ _ h => h) (Or.inl ⟨by rfl, ?_⟩) hS ?_; rotate_left; focus ((intro w' hSw; clear hSw; go_simp) <;> with_reducible rfl)
  try simp only [Act.put, List.setIfInBounds_toArray, List.set_cons_zero, List.set_cons_succ]
  refine wpAnyH_take (i := 27) (v := ?_) (op_at rfl) (by kernel_rfl) (by kernel_rfl) (by kernel_rfl) (fun _ _ _ h => h) (Or.inl ⟨by rfl, ?_⟩) hS ?_; rotate_left; focus ((intro w' hSw; clear hSw; go_simp) <;> with_reducible rfl)
  try simp only [Act.put, List.setIfInBounds_toArray, List.set_cons_zero, List.set_cons_succ]
  refine wpAnyH_take (i := 28) (v := ?_) (op_at rfl) (by kernel_rfl) (by kernel_rfl) (by kernel_rfl) (fun _ _ _ h => h) (Or.inl ⟨by rfl, ?_⟩) hS ?_; rotate_left; focus ((intro w' hSw; clear hSw; go_simp) <;> with_reducible rfl)
  try simp only [Act.put, List.setIfInBounds_toArray, List.set_cons_zero, List.set_cons_succ]
  refine wpAnyH_take (i := 29) (v := ?_) (op_at rfl) (by kernel_rfl) (by kernel_rfl) (by kernel_rfl) (fun _ _ _ h => h) (Or.inl ⟨by rfl, ?_⟩) hS ?_; rotate_left; focus ((intro w' hSw; obtain ⟨-, q, -⟩ := hSw; have c0 := q.at_ (i := 0) (v := .int .i64 a.lv) rfl; have c1 := q.at_ (i := 1) (v := .int .u64 (u a.c)) rfl; have c2 := q.at_ (i := 2) (v := .int .i64 a.ig) rfl; clear q; go_simp) <;> with_reducible rfl)
  try simp only [Act.put, List.setIfInBounds_toArray, List.set_cons_zero, List.set_cons_succ]
  refine wpAnyH_take (i := 30) (v := ?_) (op_at rfl) (by kernel_rfl) (by kernel_rfl) (by kernel_rfl) (fun _ _ _ h => h) (Or.inl ⟨by rfl, ?_⟩) hS ?_; rotate_left; focus ((intro w' hSw; obtain ⟨q, -⟩ := hSw; have c0 := q.at_ (i := 0) (v := .int .i64 cur.lv) rfl; have c1 := q.at_ (i := 1) (v := .int .u64 (u cur.c)) rfl; have c2 := q.at_ (i := 2) (v := .int .i64 cur.ig) rfl; clear q; go_simp) <;> with_reducible rfl)
  try simp only [Act.put, List.setIfInBounds_toArray, List.set_cons_zero, List.set_cons_succ]
  refine wpAnyH_take (i := 32) (v := ?_) (op_at rfl) (by kernel_rfl) (by kernel_rfl) (by kernel_rfl) (fun _ _ _ h => h) (Or.inl ⟨by rfl, ?_⟩) hS ?_; rotate_left; focus ((intro w' hSw; obtain ⟨-, -, q, -⟩ := hSw; have c0 := q.at_ (i := 0) (v := .int .i64 g.lv) rfl; have c1 := q.at_ (i := 1) (v := .int .u64 (u g.c)) rfl; have c2 := q.at_ (i := 2) (v := .int .i64 g.ig) rfl; clear q; go_simp) <;> with_reducible rfl)
  try simp only [Act.put, List.setIfInBounds_toArray, List.set_cons_zero, List.set_cons_succ]
  refine wpAnyH_ready (rs := [31]) (by kernel_rfl) (by simp) ?_
  refine (AllReadyH.cons (op_at rfl) (fun K hK => ?_) AllReadyH.nil)
  go_simp
  obtain ⟨b0, b1, b2, b3, b4, b5, hb⟩ := hS
  refine (H5.out _).mono ?_
  rintro e w7 ⟨rfl, hB⟩
  refine hK.out _ _ ⟨b0.after hB, b1.after hB, b2.after hB, b3.after hB, b4.after hB, b5.after hB, below_call hb hB⟩ (fun hS => ?_)
  clear hK K hB b0 b1 b2 b3 b4 b5 hb
  try simp only [Act.put, List.setIfInBounds_toArray, List.set_cons_zero, List.set_cons_succ]
  refine wpAnyH_ready (rs := [33]) (by kernel_rfl) (by simp) ?_
  refine (AllReadyH.cons (op_at rfl) (fun K hK => ?_) AllReadyH.nil)
  go_simp
  obtain ⟨b0, b1, b2, b3, b4, b5, hb⟩ := hS
  refine (Bottom_any _).mono ?_
  rintro e w8 ⟨rfl, hB⟩
  refine hK.out _ _ ⟨b0.after hB, b1.after hB, b2.after hB, b3.after hB, b4.after hB, b5.after hB, below_call hb hB⟩ (fun hS => ?_)
  clear hK K hB b0 b1 b2 b3 b4 b5 hb
  try simp only [Act.put, List.setIfInBounds_toArray, List.set_cons_zero, List.set_cons_succ]
  refine wpAnyH_take (i := 34) (v := ?_) (op_at rfl) (by kernel_rfl) (by kernel_rfl) (by kernel_rfl) (fun _ _ _ h => h) (Or.inl ⟨by rfl, ?_⟩) hS ?_; rotate_left; focus ((intro w' hSw; clear hSw; go_simp) <;> with_reducible rfl)
  try simp only [Act.put, List.setIfInBounds_toArray, List.set_cons_zero, List.set_cons_succ]
  refine wpAnyH_take (i := 35) (v := ?_) (op_at rfl) (by kernel_rfl) (by kernel_rfl) (by kernel_rfl) (fun _ _ _ h => h) (Or.inl ⟨by rfl, ?_⟩) hS ?_; rotate_left; focus ((intro w' hSw; clear hSw; go_simp) <;> with_reducible rfl)
  try simp only [Act.put, List.setIfInBounds_toArray, List.set_cons_zero, List.set_cons_succ]
  refine wpAnyH_take (i := 36) (v := ?_) (op_at rfl) (by kernel_rfl) (by kernel_rfl) (by kernel_rfl) (fun _ _ _ h => h) (Or.inl ⟨by rfl, ?_⟩) hS ?_; rotate_left; focus ((intro w' hSw; clear hSw; go_simp) <;> with_reducible rfl)
  try simp only [Act.put, List.setIfInBounds_toArray, List.set_cons_zero, List.set_cons_succ]
  refine wpAnyH_take (i := 37) (v := ?_) (op_at rfl) (by kernel_rfl) (by kernel_rfl) (by kernel_rfl) (fun _ _ _ h => h) (Or.inl ⟨by rfl, ?_⟩) hS ?_; rotate_left; focus ((intro w' hSw; clear hSw; go_simp) <;> with_reducible rfl)
  try simp only [Act.put, List.setIfInBounds_toArray, List.set_cons_zero, List.set_cons_succ]
  refine wpAnyH_done (by kernel_rfl) ?_ _
  obtain ⟨b0, b1, b2, b3, b4, b5, hb⟩ := hS
  replace B0 := Lib.hid b0
  clear b0
  replace B1 := Lib.hid b1
  clear b1
  replace B3 := Lib.hid b2
  clear b2
  replace B4 := Lib.hid b3
  clear b3
  replace B5 := Lib.hid b4
  clear b4
  replace B6 := Lib.hid b5
  clear b5
  replace HB := Lib.hid hb
  clear hb
  go_wp2_with fail
  go_ret
  exact ⟨rfl, (by repeat (first | exact HB.out | refine below_alloc ?_ _ | refine Below.drew ?_ | refine below_set ?_ (by omega) _))⟩
set_option maxRecDepth 100000 in
set_option maxHeartbeats 4000000 in
theorem gains_2 (cur a b g x z : Lab) (r : Bool) (sa : Addr) (w : World) (hh : Env sa w) (h0 : GainIs sa cur a g 0) (h1 : JoinIs cur a x 0) (h2 : JoinIs cur g x 0) (h3 : JoinIs cur b z 0) (h4 : ∀ W, (binOp .eql 24 (.agg #[.int .i64 x.lv, .int .u64 (u x.c), .int .i64 x.ig]) (.agg #[.int .i64 x.lv, .int .u64 (u x.c), .int .i64 x.ig])).run Tryd.prog W = .ok (.bool true) W) (h5 : ∀ W, (binOp .neq 24 (.agg #[.int .i64 z.lv, .int .u64 (u z.c), .int .i64 z.ig]) (.agg #[.int .i64 x.lv, .int .u64 (u x.c), .int .i64 x.ig])).run Tryd.prog W = .ok (.bool true) W) (h6 : UnderIs a cur r) (h7 : ∀ W, (binOp .eql 24 (.agg #[.int .i64 g.lv, .int .u64 (u g.c), .int .i64 g.ig]) (.agg #[.int .i64 botL.lv, .int .u64 (u botL.c), .int .i64 botL.ig])).run Tryd.prog W = .ok (.bool r) W) :
    Calls Tryd.prog 7 #[.agg #[.int .i64 cur.lv, .int .u64 (u cur.c), .int .i64 cur.ig], .agg #[.int .i64 a.lv, .int .u64 (u a.c), .int .i64 a.ig], .agg #[.int .i64 b.lv, .int .u64 (u b.c), .int .i64 b.ig]] w (Yes w) := by
  have H0 := Lib.hid h0
  clear h0
  have H1 := Lib.hid h1
  clear h1
  have H2 := Lib.hid h2
  clear h2
  have H3 := Lib.hid h3
  clear h3
  have H6 := Lib.hid h6
  clear h6
  have HH := Lib.hid hh
  clear hh
  have HB := Lib.hid (Below.refl w.heap.size w)
  go_enter Tryd.func7, Tryd.ntmps7
  go_wp2_with fail
  refine (shown_any sa _ (HH.out.up (by repeat (first | exact HB.out | refine below_alloc ?_ _ | refine Below.drew ?_ | refine below_set ?_ (by omega) _)))).mono ?_
  rintro e w1 ⟨rfl, hB⟩
  replace HB := Lib.hid (below_call (w := w) (by repeat (first | exact HB.out | refine below_alloc ?_ _ | refine Below.drew ?_ | refine below_set ?_ (by omega) _)) hB)
  have z1 : w.heap.size ≤ w1.heap.size := HB.out.size
  have B0 : Hid (Blk w1 (w.heap.size) 24 #[.int .i64 cur.lv, .int .u64 (u cur.c), .int .i64 cur.ig]) := Lib.hid (Blk.after (by repeat (first | exact Blk.new' (by simp; done) | exact Blk.new' rfl | refine Blk.drew ?_ | refine Blk.alloc ?_ _)) hB)
  have B1 : Hid (Blk w1 (w.heap.size + 1) 24 #[.int .i64 a.lv, .int .u64 (u a.c), .int .i64 a.ig]) := Lib.hid (Blk.after (by repeat (first | exact Blk.new' (by simp; done) | exact Blk.new' rfl | refine Blk.drew ?_ | refine Blk.alloc ?_ _)) hB)
  have B2 : Hid (Blk w1 (w.heap.size + 1 + 1) 24 #[.int .i64 b.lv, .int .u64 (u b.c), .int .i64 b.ig]) := Lib.hid (Blk.after (by repeat (first | exact Blk.new' (by simp; done) | exact Blk.new' rfl | refine Blk.drew ?_ | refine Blk.alloc ?_ _)) hB)
  clear hB
  have p0_0 := B0.out.at_ (i := 0) (v := .int .i64 cur.lv) rfl
  have p0_1 := B0.out.at_ (i := 1) (v := .int .u64 (u cur.c)) rfl
  have p0_2 := B0.out.at_ (i := 2) (v := .int .i64 cur.ig) rfl
  have k0_0 : w.heap.size < w1.heap.size := by have := B0.out.lt; omega
  have p1_0 := B1.out.at_ (i := 0) (v := .int .i64 a.lv) rfl
  have p1_1 := B1.out.at_ (i := 1) (v := .int .u64 (u a.c)) rfl
  have p1_2 := B1.out.at_ (i := 2) (v := .int .i64 a.ig) rfl
  have k1_0 : w.heap.size + 1 < w1.heap.size := by have := B1.out.lt; omega
  go_wp2_with fail
  refine (H0.out _ (HH.out.up (by repeat (first | exact HB.out | refine below_alloc ?_ _ | refine Below.drew ?_ | refine below_set ?_ (by omega) _)))).mono ?_
  rintro e w2 ⟨rfl, hB⟩
  replace HB := Lib.hid (below_call (w := w) (by repeat (first | exact HB.out | refine below_alloc ?_ _ | refine Below.drew ?_ | refine below_set ?_ (by omega) _)) hB)
  have z2 : w.heap.size ≤ w2.heap.size := HB.out.size
  replace B0 : Hid (Blk w2 (w.heap.size) 24 #[.int .i64 cur.lv, .int .u64 (u cur.c), .int .i64 cur.ig]) := Lib.hid (Blk.after (by repeat (first | exact B0.out | exact Blk.new' (by simp; done) | exact Blk.new' rfl | refine Blk.drew ?_ | refine Blk.alloc ?_ _)) hB)
  replace B1 : Hid (Blk w2 (w.heap.size + 1) 24 #[.int .i64 a.lv, .int .u64 (u a.c), .int .i64 a.ig]) := Lib.hid (Blk.after (by repeat (first | exact B1.out | exact Blk.new' (by simp; done) | exact Blk.new' rfl | refine Blk.drew ?_ | refine Blk.alloc ?_ _)) hB)
  replace B2 : Hid (Blk w2 (w.heap.size + 1 + 1) 24 #[.int .i64 b.lv, .int .u64 (u b.c), .int .i64 b.ig]) := Lib.hid (Blk.after (by repeat (first | exact B2.out | exact Blk.new' (by simp; done) | exact Blk.new' rfl | refine Blk.drew ?_ | refine Blk.alloc ?_ _)) hB)
  clear p0_0 p0_1 p0_2 k0_0 p1_0 p1_1 p1_2 k1_0
  clear hB
  have p0_0 := B0.out.at_ (i := 0) (v := .int .i64 cur.lv) rfl
  have p0_1 := B0.out.at_ (i := 1) (v := .int .u64 (u cur.c)) rfl
  have p0_2 := B0.out.at_ (i := 2) (v := .int .i64 cur.ig) rfl
  have k0_0 : w.heap.size < w2.heap.size := by have := B0.out.lt; omega
  have k0_1 : w.heap.size < w2.heap.size + 1 := by have := B0.out.lt; omega
  have p1_0 := B1.out.at_ (i := 0) (v := .int .i64 a.lv) rfl
  have p1_1 := B1.out.at_ (i := 1) (v := .int .u64 (u a.c)) rfl
  have p1_2 := B1.out.at_ (i := 2) (v := .int .i64 a.ig) rfl
  have k1_0 : w.heap.size + 1 < w2.heap.size := by have := B1.out.lt; omega
  have k1_1 : w.heap.size + 1 < w2.heap.size + 1 := by have := B1.out.lt; omega
  go_wp2_with fail
  refine (H1.out _ (HH.out.up (by repeat (first | exact HB.out | refine below_alloc ?_ _ | refine Below.drew ?_ | refine below_set ?_ (by omega) _))).h).mono ?_
  rintro e w3 ⟨rfl, hB⟩
  replace HB := Lib.hid (below_call (w := w) (by repeat (first | exact HB.out | refine below_alloc ?_ _ | refine Below.drew ?_ | refine below_set ?_ (by omega) _)) hB)
  have z3 : w.heap.size ≤ w3.heap.size := HB.out.size
  replace B0 : Hid (Blk w3 (w.heap.size) 24 #[.int .i64 cur.lv, .int .u64 (u cur.c), .int .i64 cur.ig]) := Lib.hid (Blk.after (by repeat (first | exact B0.out | exact Blk.new' (by simp; done) | exact Blk.new' rfl | refine Blk.drew ?_ | refine Blk.alloc ?_ _)) hB)
  replace B1 : Hid (Blk w3 (w.heap.size + 1) 24 #[.int .i64 a.lv, .int .u64 (u a.c), .int .i64 a.ig]) := Lib.hid (Blk.after (by repeat (first | exact B1.out | exact Blk.new' (by simp; done) | exact Blk.new' rfl | refine Blk.drew ?_ | refine Blk.alloc ?_ _)) hB)
  replace B2 : Hid (Blk w3 (w.heap.size + 1 + 1) 24 #[.int .i64 b.lv, .int .u64 (u b.c), .int .i64 b.ig]) := Lib.hid (Blk.after (by repeat (first | exact B2.out | exact Blk.new' (by simp; done) | exact Blk.new' rfl | refine Blk.drew ?_ | refine Blk.alloc ?_ _)) hB)
  have B3 : Hid (Blk w3 (w2.heap.size) 24 #[.int .i64 g.lv, .int .u64 (u g.c), .int .i64 g.ig]) := Lib.hid (Blk.after (by repeat (first | exact Blk.new' (by simp; done) | exact Blk.new' rfl | refine Blk.drew ?_ | refine Blk.alloc ?_ _)) hB)
  clear p0_0 p0_1 p0_2 k0_0 k0_1 p1_0 p1_1 p1_2 k1_0 k1_1
  clear hB
  have p0_0 := B0.out.at_ (i := 0) (v := .int .i64 cur.lv) rfl
  have p0_1 := B0.out.at_ (i := 1) (v := .int .u64 (u cur.c)) rfl
  have p0_2 := B0.out.at_ (i := 2) (v := .int .i64 cur.ig) rfl
  have k0_0 : w.heap.size < w3.heap.size := by have := B0.out.lt; omega
  have k0_1 : w.heap.size < w3.heap.size + 1 := by have := B0.out.lt; omega
  have p3_0 := B3.out.at_ (i := 0) (v := .int .i64 g.lv) rfl
  have p3_1 := B3.out.at_ (i := 1) (v := .int .u64 (u g.c)) rfl
  have p3_2 := B3.out.at_ (i := 2) (v := .int .i64 g.ig) rfl
  have k3_0 : w2.heap.size < w3.heap.size := by have := B3.out.lt; omega
  have k3_1 : w2.heap.size < w3.heap.size + 1 := by have := B3.out.lt; omega
  go_wp2_with fail
  refine (H2.out _ (HH.out.up (by repeat (first | exact HB.out | refine below_alloc ?_ _ | refine Below.drew ?_ | refine below_set ?_ (by omega) _))).h).mono ?_
  rintro e w4 ⟨rfl, hB⟩
  replace HB := Lib.hid (below_call (w := w) (by repeat (first | exact HB.out | refine below_alloc ?_ _ | refine Below.drew ?_ | refine below_set ?_ (by omega) _)) hB)
  have z4 : w.heap.size ≤ w4.heap.size := HB.out.size
  replace B0 : Hid (Blk w4 (w.heap.size) 24 #[.int .i64 cur.lv, .int .u64 (u cur.c), .int .i64 cur.ig]) := Lib.hid (Blk.after (by repeat (first | exact B0.out | exact Blk.new' (by simp; done) | exact Blk.new' rfl | refine Blk.drew ?_ | refine Blk.alloc ?_ _)) hB)
  replace B1 : Hid (Blk w4 (w.heap.size + 1) 24 #[.int .i64 a.lv, .int .u64 (u a.c), .int .i64 a.ig]) := Lib.hid (Blk.after (by repeat (first | exact B1.out | exact Blk.new' (by simp; done) | exact Blk.new' rfl | refine Blk.drew ?_ | refine Blk.alloc ?_ _)) hB)
  replace B2 : Hid (Blk w4 (w.heap.size + 1 + 1) 24 #[.int .i64 b.lv, .int .u64 (u b.c), .int .i64 b.ig]) := Lib.hid (Blk.after (by repeat (first | exact B2.out | exact Blk.new' (by simp; done) | exact Blk.new' rfl | refine Blk.drew ?_ | refine Blk.alloc ?_ _)) hB)
  replace B3 : Hid (Blk w4 (w2.heap.size) 24 #[.int .i64 g.lv, .int .u64 (u g.c), .int .i64 g.ig]) := Lib.hid (Blk.after (by repeat (first | exact B3.out | exact Blk.new' (by simp; done) | exact Blk.new' rfl | refine Blk.drew ?_ | refine Blk.alloc ?_ _)) hB)
  have B4 : Hid (Blk w4 (w3.heap.size) 24 #[.int .i64 x.lv, .int .u64 (u x.c), .int .i64 x.ig]) := Lib.hid (Blk.after (by repeat (first | exact Blk.new' (by simp; done) | exact Blk.new' rfl | refine Blk.drew ?_ | refine Blk.alloc ?_ _)) hB)
  clear p0_0 p0_1 p0_2 k0_0 k0_1 p3_0 p3_1 p3_2 k3_0 k3_1
  clear hB
  have p0_0 := B0.out.at_ (i := 0) (v := .int .i64 cur.lv) rfl
  have p0_1 := B0.out.at_ (i := 1) (v := .int .u64 (u cur.c)) rfl
  have p0_2 := B0.out.at_ (i := 2) (v := .int .i64 cur.ig) rfl
  have k0_0 : w.heap.size < w4.heap.size := by have := B0.out.lt; omega
  have k0_1 : w.heap.size < w4.heap.size + 1 := by have := B0.out.lt; omega
  have p2_0 := B2.out.at_ (i := 0) (v := .int .i64 b.lv) rfl
  have p2_1 := B2.out.at_ (i := 1) (v := .int .u64 (u b.c)) rfl
  have p2_2 := B2.out.at_ (i := 2) (v := .int .i64 b.ig) rfl
  have k2_0 : w.heap.size + 1 + 1 < w4.heap.size := by have := B2.out.lt; omega
  have k2_1 : w.heap.size + 1 + 1 < w4.heap.size + 1 := by have := B2.out.lt; omega
  go_wp2_with fail
  refine (H3.out _ (HH.out.up (by repeat (first | exact HB.out | refine below_alloc ?_ _ | refine Below.drew ?_ | refine below_set ?_ (by omega) _))).h).mono ?_
  rintro e w5 ⟨rfl, hB⟩
  replace HB := Lib.hid (below_call (w := w) (by repeat (first | exact HB.out | refine below_alloc ?_ _ | refine Below.drew ?_ | refine below_set ?_ (by omega) _)) hB)
  have z5 : w.heap.size ≤ w5.heap.size := HB.out.size
  replace B0 : Hid (Blk w5 (w.heap.size) 24 #[.int .i64 cur.lv, .int .u64 (u cur.c), .int .i64 cur.ig]) := Lib.hid (Blk.after (by repeat (first | exact B0.out | exact Blk.new' (by simp; done) | exact Blk.new' rfl | refine Blk.drew ?_ | refine Blk.alloc ?_ _)) hB)
  replace B1 : Hid (Blk w5 (w.heap.size + 1) 24 #[.int .i64 a.lv, .int .u64 (u a.c), .int .i64 a.ig]) := Lib.hid (Blk.after (by repeat (first | exact B1.out | exact Blk.new' (by simp; done) | exact Blk.new' rfl | refine Blk.drew ?_ | refine Blk.alloc ?_ _)) hB)
  replace B3 : Hid (Blk w5 (w2.heap.size) 24 #[.int .i64 g.lv, .int .u64 (u g.c), .int .i64 g.ig]) := Lib.hid (Blk.after (by repeat (first | exact B3.out | exact Blk.new' (by simp; done) | exact Blk.new' rfl | refine Blk.drew ?_ | refine Blk.alloc ?_ _)) hB)
  replace B4 : Hid (Blk w5 (w3.heap.size) 24 #[.int .i64 x.lv, .int .u64 (u x.c), .int .i64 x.ig]) := Lib.hid (Blk.after (by repeat (first | exact B4.out | exact Blk.new' (by simp; done) | exact Blk.new' rfl | refine Blk.drew ?_ | refine Blk.alloc ?_ _)) hB)
  have B5 : Hid (Blk w5 (w4.heap.size) 24 #[.int .i64 x.lv, .int .u64 (u x.c), .int .i64 x.ig]) := Lib.hid (Blk.after (by repeat (first | exact Blk.new' (by simp; done) | exact Blk.new' rfl | refine Blk.drew ?_ | refine Blk.alloc ?_ _)) hB)
  clear p0_0 p0_1 p0_2 k0_0 k0_1 p2_0 p2_1 p2_2 k2_0 k2_1
  clear hB
  go_wp2_with fail
  refine wp_region_gen (S := (fun W' => Blk W' (w.heap.size) 24 #[.int .i64 cur.lv, .int .u64 (u cur.c), .int .i64 cur.ig] ∧ Blk W' (w.heap.size + 1) 24 #[.int .i64 a.lv, .int .u64 (u a.c), .int .i64 a.ig] ∧ Blk W' (w2.heap.size) 24 #[.int .i64 g.lv, .int .u64 (u g.c), .int .i64 g.ig] ∧ Blk W' (w3.heap.size) 24 #[.int .i64 x.lv, .int .u64 (u x.c), .int .i64 x.ig] ∧ Blk W' (w4.heap.size) 24 #[.int .i64 x.lv, .int .u64 (u x.c), .int .i64 x.ig] ∧ Blk W' (w5.heap.size) 24 #[.int .i64 z.lv, .int .u64 (u z.c), .int .i64 z.ig] ∧ Below w.heap.size w W')) (by kernel_rfl) ⟨(by repeat (first | exact B0.out | exact Blk.new' (by simp; done) | exact Blk.new' rfl | refine Blk.drew ?_ | refine Blk.alloc ?_ _)), (by repeat (first | exact B1.out | exact Blk.new' (by simp; done) | exact Blk.new' rfl | refine Blk.drew ?_ | refine Blk.alloc ?_ _)), (by repeat (first | exact B3.out | exact Blk.new' (by simp; done) | exact Blk.new' rfl | refine Blk.drew ?_ | refine Blk.alloc ?_ _)), (by repeat (first | exact B4.out | exact Blk.new' (by simp; done) | exact Blk.new' rfl | refine Blk.drew ?_ | refine Blk.alloc ?_ _)), (by repeat (first | exact B5.out | exact Blk.new' (by simp; done) | exact Blk.new' rfl | refine Blk.drew ?_ | refine Blk.alloc ?_ _)), (by repeat (first | exact Blk.new' (by simp; done) | exact Blk.new' rfl | refine Blk.drew ?_ | refine Blk.alloc ?_ _)), (by repeat (first | exact HB.out | refine below_alloc ?_ _ | refine Below.drew ?_ | refine below_set ?_ (by omega) _))⟩ (fun w6 hS => ?_)
  refine wpAnyH_take (i := 0) (v := ?_) (op_at rfl) (by kernel_rfl) (by kernel_rfl) (by kernel_rfl) (fun _ _ _ h => h) (Or.inl ⟨by rfl, ?_⟩) hS ?_; rotate_left; focus ((intro w' hSw; clear hSw; go_simp) <;> with_reducible rfl)
  try simp only [Act.put, List.setIfInBounds_toArray, List.set_cons_zero, List.set_cons_succ]
  refine wpAnyH_take (i := 1) (v := ?_) (op_at rfl) (by kernel_rfl) (by kernel_rfl) (by kernel_rfl) (fun _ _ _ h => h) (Or.inl ⟨by rfl, ?_⟩) hS ?_; rotate_left; focus ((intro w' hSw; clear hSw; go_simp) <;> with_reducible rfl)
  try simp only [Act.put, List.setIfInBounds_toArray, List.set_cons_zero, List.set_cons_succ]
  refine wpAnyH_take (i := 2) (v := ?_) (op_at rfl) (by kernel_rfl) (by kernel_rfl) (by kernel_rfl) (fun _ _ _ h => h) (Or.inl ⟨by rfl, ?_⟩) hS ?_; rotate_left; focus ((intro w' hSw; clear hSw; go_simp) <;> with_reducible rfl)
  try simp only [Act.put, List.setIfInBounds_toArray, List.set_cons_zero, List.set_cons_succ]
  refine wpAnyH_take (i := 3) (v := ?_) (op_at rfl) (by kernel_rfl) (by kernel_rfl) (by kernel_rfl) (fun _ _ _ h => h) (Or.inl ⟨by rfl, ?_⟩) hS ?_; rotate_left; focus ((intro w' hSw; clear hSw; go_simp) <;> with_reducible rfl)
  try simp only [Act.put, List.setIfInBounds_toArray, List.set_cons_zero, List.set_cons_succ]
  refine wpAnyH_take (i := 4) (v := ?_) (op_at rfl) (by kernel_rfl) (by kernel_rfl) (by kernel_rfl) (fun _ _ _ h => h) (Or.inl ⟨by rfl, ?_⟩) hS ?_; rotate_left; focus ((intro w' hSw; clear hSw; go_simp) <;> with_reducible rfl)
  try simp only [Act.put, List.setIfInBounds_toArray, List.set_cons_zero, List.set_cons_succ]
  refine wpAnyH_take (i := 5) (v := ?_) (op_at rfl) (by kernel_rfl) (by kernel_rfl) (by kernel_rfl) (fun _ _ _ h => h) (Or.inl ⟨by rfl, ?_⟩) hS ?_; rotate_left; focus ((intro w' hSw; clear hSw; go_simp) <;> with_reducible rfl)
  try simp only [Act.put, List.setIfInBounds_toArray, List.set_cons_zero, List.set_cons_succ]
  refine wpAnyH_take (i := 6) (v := ?_) (op_at rfl) (by kernel_rfl) (by kernel_rfl) (by kernel_rfl) (fun _ _ _ h => h) (Or.inl ⟨by rfl, ?_⟩) hS ?_; rotate_left; focus ((intro w' hSw; clear hSw; go_simp) <;> with_reducible rfl)
  try simp only [Act.put, List.setIfInBounds_toArray, List.set_cons_zero, List.set_cons_succ]
  refine wpAnyH_take (i := 7) (v := ?_) (op_at rfl) (by kernel_rfl) (by kernel_rfl) (by kernel_rfl) (fun _ _ _ h => h) (Or.inl ⟨by rfl, ?_⟩) hS ?_; rotate_left; focus ((intro w' hSw; clear hSw; go_simp) <;> with_reducible rfl)
  try simp only [Act.put, List.setIfInBounds_toArray, List.set_cons_zero, List.set_cons_succ]
  refine wpAnyH_take (i := 8) (v := ?_) (op_at rfl) (by kernel_rfl) (by kernel_rfl) (by kernel_rfl) (fun _ _ _ h => h) (Or.inl ⟨by rfl, ?_⟩) hS ?_; rotate_left; focus ((intro w' hSw; clear hSw; go_simp) <;> with_reducible rfl)
  try simp only [Act.put, List.setIfInBounds_toArray, List.set_cons_zero, List.set_cons_succ]
  refine wpAnyH_take (i := 9) (v := ?_) (op_at rfl) (by kernel_rfl) (by kernel_rfl) (by kernel_rfl) (fun _ _ _ h => h) (Or.inl ⟨by rfl, ?_⟩) hS ?_; rotate_left; focus ((intro w' hSw; clear hSw; go_simp) <;> with_reducible rfl)
  try simp only [Act.put, List.setIfInBounds_toArray, List.set_cons_zero, List.set_cons_succ]
  refine wpAnyH_take (i := 10) (v := ?_) (op_at rfl) (by kernel_rfl) (by kernel_rfl) (by kernel_rfl) (fun _ _ _ h => h) (Or.inl ⟨by rfl, ?_⟩) hS ?_; rotate_left; focus ((intro w' hSw; obtain ⟨-, -, -, -, q, -⟩ := hSw; have c0 := q.at_ (i := 0) (v := .int .i64 x.lv) rfl; have c1 := q.at_ (i := 1) (v := .int .u64 (u x.c)) rfl; have c2 := q.at_ (i := 2) (v := .int .i64 x.ig) rfl; clear q; go_simp) <;> with_reducible rfl)
  try simp only [Act.put, List.setIfInBounds_toArray, List.set_cons_zero, List.set_cons_succ]
  refine wpAnyH_take (i := 11) (v := ?_) (op_at rfl) (by kernel_rfl) (by kernel_rfl) (by kernel_rfl) (fun _ _ _ h => h) (Or.inl ⟨by rfl, ?_⟩) hS ?_; rotate_left; focus ((intro w' hSw; obtain ⟨-, -, -, q, -⟩ := hSw; have c0 := q.at_ (i := 0) (v := .int .i64 x.lv) rfl; have c1 := q.at_ (i := 1) (v := .int .u64 (u x.c)) rfl; have c2 := q.at_ (i := 2) (v := .int .i64 x.ig) rfl; clear q; go_simp) <;> with_reducible rfl)
  try simp only [Act.put, List.setIfInBounds_toArray, List.set_cons_zero, List.set_cons_succ]
  refine wpAnyH_take (i := 12) (v := ?_) (op_at rfl) (by kernel_rfl) (by kernel_rfl) (by kernel_rfl) (fun _ _ _ h => h) (Or.inl ⟨by rfl, ?_⟩) hS ?_; rotate_left; focus ((intro w' hSw; clear hSw; go_simp) <;> with_reducible rfl)
  try simp only [Act.put, List.setIfInBounds_toArray, List.set_cons_zero, List.set_cons_succ]
  refine wpAnyH_take (i := 13) (v := ?_) (op_at rfl) (by kernel_rfl) (by kernel_rfl) (by kernel_rfl) (fun _ _ _ h => h) (Or.inl ⟨by rfl, ?_⟩) hS ?_; rotate_left; focus ((intro w' hSw; clear hSw; go_simp) <;> with_reducible rfl)
  try simp only [Act.put, List.setIfInBounds_toArray, List.set_cons_zero, List.set_cons_succ]
  refine wpAnyH_take (i := 14) (v := ?_) (op_at rfl) (by kernel_rfl) (by kernel_rfl) (by kernel_rfl) (fun _ _ _ h => h) (Or.inl ⟨by rfl, ?_⟩) hS ?_; rotate_left; focus ((intro w' hSw; clear hSw; go_simp) <;> with_reducible rfl)
  try simp only [Act.put, List.setIfInBounds_toArray, List.set_cons_zero, List.set_cons_succ]
  refine wpAnyH_take (i := 15) (v := ?_) (op_at rfl) (by kernel_rfl) (by kernel_rfl) (by kernel_rfl) (fun _ _ _ h => h) (Or.inl ⟨by rfl, ?_⟩) hS ?_; rotate_left; focus ((intro w' hSw; clear hSw; go_simp) <;> with_reducible rfl)
  try simp only [Act.put, List.setIfInBounds_toArray, List.set_cons_zero, List.set_cons_succ]
  refine wpAnyH_take (i := 16) (v := ?_) (op_at rfl) (by kernel_rfl) (by kernel_rfl) (by kernel_rfl) (fun _ _ _ h => h) (Or.inl ⟨by rfl, ?_⟩) hS ?_; rotate_left; focus ((intro w' hSw; clear hSw; go_simp) <;> with_reducible rfl)
  try simp only [Act.put, List.setIfInBounds_toArray, List.set_cons_zero, List.set_cons_succ]
  refine wpAnyH_take (i := 17) (v := ?_) (op_at rfl) (by kernel_rfl) (by kernel_rfl) (by kernel_rfl) (fun _ _ _ h => h) (Or.inl ⟨by rfl, ?_⟩) hS ?_; rotate_left; focus ((intro w' hSw; clear hSw; go_simp) <;> with_reducible rfl)
  try simp only [Act.put, List.setIfInBounds_toArray, List.set_cons_zero, List.set_cons_succ]
  refine wpAnyH_take (i := 18) (v := ?_) (op_at rfl) (by kernel_rfl) (by kernel_rfl) (by kernel_rfl) (fun _ _ _ h => h) (Or.inl ⟨by rfl, ?_⟩) hS ?_; rotate_left; focus ((intro w' hSw; obtain ⟨-, -, -, -, -, q, -⟩ := hSw; have c0 := q.at_ (i := 0) (v := .int .i64 z.lv) rfl; have c1 := q.at_ (i := 1) (v := .int .u64 (u z.c)) rfl; have c2 := q.at_ (i := 2) (v := .int .i64 z.ig) rfl; clear q; go_simp) <;> with_reducible rfl)
  try simp only [Act.put, List.setIfInBounds_toArray, List.set_cons_zero, List.set_cons_succ]
  refine wpAnyH_take (i := 19) (v := ?_) (op_at rfl) (by kernel_rfl) (by kernel_rfl) (by kernel_rfl) (fun _ _ _ h => h) (Or.inl ⟨by rfl, ?_⟩) hS ?_; rotate_left; focus ((intro w' hSw; obtain ⟨-, -, -, q, -⟩ := hSw; have c0 := q.at_ (i := 0) (v := .int .i64 x.lv) rfl; have c1 := q.at_ (i := 1) (v := .int .u64 (u x.c)) rfl; have c2 := q.at_ (i := 2) (v := .int .i64 x.ig) rfl; clear q; go_simp) <;> with_reducible rfl)
  try simp only [Act.put, List.setIfInBounds_toArray, List.set_cons_zero, List.set_cons_succ]
  refine wpAnyH_take (i := 20) (v := ?_) (op_at rfl) (by kernel_rfl) (by kernel_rfl) (by kernel_rfl) (fun _ _ _ h => h) (Or.inl ⟨by rfl, ?_⟩) hS ?_; rotate_left; focus ((intro w' hSw; clear hSw; go_simp) <;> with_reducible rfl)
  try simp only [Act.put, List.setIfInBounds_toArray, List.set_cons_zero, List.set_cons_succ]
  refine wpAnyH_take (i := 21) (v := ?_) (op_at rfl) (by kernel_rfl) (by kernel_rfl) (by kernel_rfl) (fun _ _ _ h => h) (Or.inl ⟨by rfl, ?_⟩) hS ?_; rotate_left; focus ((intro w' hSw; clear hSw; go_simp) <;> with_reducible rfl)
  try simp only [Act.put, List.setIfInBounds_toArray, List.set_cons_zero, List.set_cons_succ]
  refine wpAnyH_take (i := 22) (v := ?_) (op_at rfl) (by kernel_rfl) (by kernel_rfl) (by kernel_rfl) (fun _ _ _ h => h) (Or.inl ⟨by rfl, ?_⟩) hS ?_; rotate_left; focus ((intro w' hSw; clear hSw; go_simp) <;> with_reducible rfl)
  try simp only [Act.put, List.setIfInBounds_toArray, List.set_cons_zero, List.set_cons_succ]
  refine wpAnyH_take (i := 23) (v := undef) (op_at rfl) (by kernel_rfl) (by kernel_rfl) (by kernel_rfl) (fun _ _ _ h => h) (Or.inr ⟨by rfl, rfl⟩) hS ?_
  try simp only [Act.put, List.setIfInBounds_toArray, List.set_cons_zero, List.set_cons_succ]
  refine wpAnyH_take (i := 24) (v := undef) (op_at rfl) (by kernel_rfl) (by kernel_rfl) (by kernel_rfl) (fun _ _ _ h => h) (Or.inr ⟨by rfl, rfl⟩) hS ?_
  try simp only [Act.put, List.setIfInBounds_toArray, List.set_cons_zero, List.set_cons_succ]
  refine wpAnyH_take (i := 25) (v := undef) (op_at rfl) (by kernel_rfl) (by kernel_rfl) (by kernel_rfl) (fun _ _ _ h => h) (Or.inr ⟨by rfl, rfl⟩) hS ?_
  try simp only [Act.put, List.setIfInBounds_toArray, List.set_cons_zero, List.set_cons_succ]
  refine wpAnyH_take (i := 26) (v := ?_) (op_at rfl) (by kernel_rfl) (by kernel_rfl) (by kernel_rfl) (fun _ _ _ h => h) (Or.inl ⟨by rfl, ?_⟩) hS ?_; rotate_left; focus ((intro w' hSw; clear hSw; go_simp) <;> with_reducible rfl)
  try simp only [Act.put, List.setIfInBounds_toArray, List.set_cons_zero, List.set_cons_succ]
  refine wpAnyH_take (i := 27) (v := ?_) (op_at rfl) (by kernel_rfl) (by kernel_rfl) (by kernel_rfl) (fun _ _ _ h => h) (Or.inl ⟨by rfl, ?_⟩) hS ?_; rotate_left; focus ((intro w' hSw; clear hSw; go_simp) <;> with_reducible rfl)
  try simp only [Act.put, List.setIfInBounds_toArray, List.set_cons_zero, List.set_cons_succ]
  refine wpAnyH_take (i := 28) (v := ?_) (op_at rfl) (by kernel_rfl) (by kernel_rfl) (by kernel_rfl) (fun _ _ _ h => h) (Or.inl ⟨by rfl, ?_⟩) hS ?_; rotate_left; focus ((intro w' hSw; clear hSw; go_simp) <;> with_reducible rfl)
  try simp only [Act.put, List.setIfInBounds_toArray, List.set_cons_zero, List.set_cons_succ]
  refine wpAnyH_take (i := 29) (v := ?_) (op_at rfl) (by kernel_rfl) (by kernel_rfl) (by kernel_rfl) (fun _ _ _ h => h) (Or.inl ⟨by rfl, ?_⟩) hS ?_; rotate_left; focus ((intro w' hSw; obtain ⟨-, q, -⟩ := hSw; have c0 := q.at_ (i := 0) (v := .int .i64 a.lv) rfl; have c1 := q.at_ (i := 1) (v := .int .u64 (u a.c)) rfl; have c2 := q.at_ (i := 2) (v := .int .i64 a.ig) rfl; clear q; go_simp) <;> with_reducible rfl)
  try simp only [Act.put, List.setIfInBounds_toArray, List.set_cons_zero, List.set_cons_succ]
  refine wpAnyH_take (i := 30) (v := ?_) (op_at rfl) (by kernel_rfl) (by kernel_rfl) (by kernel_rfl) (fun _ _ _ h => h) (Or.inl ⟨by rfl, ?_⟩) hS ?_; rotate_left; focus ((intro w' hSw; obtain ⟨q, -⟩ := hSw; have c0 := q.at_ (i := 0) (v := .int .i64 cur.lv) rfl; have c1 := q.at_ (i := 1) (v := .int .u64 (u cur.c)) rfl; have c2 := q.at_ (i := 2) (v := .int .i64 cur.ig) rfl; clear q; go_simp) <;> with_reducible rfl)
  try simp only [Act.put, List.setIfInBounds_toArray, List.set_cons_zero, List.set_cons_succ]
  refine wpAnyH_take (i := 32) (v := ?_) (op_at rfl) (by kernel_rfl) (by kernel_rfl) (by kernel_rfl) (fun _ _ _ h => h) (Or.inl ⟨by rfl, ?_⟩) hS ?_; rotate_left; focus ((intro w' hSw; obtain ⟨-, -, q, -⟩ := hSw; have c0 := q.at_ (i := 0) (v := .int .i64 g.lv) rfl; have c1 := q.at_ (i := 1) (v := .int .u64 (u g.c)) rfl; have c2 := q.at_ (i := 2) (v := .int .i64 g.ig) rfl; clear q; go_simp) <;> with_reducible rfl)
  try simp only [Act.put, List.setIfInBounds_toArray, List.set_cons_zero, List.set_cons_succ]
  refine wpAnyH_ready (rs := [31]) (by kernel_rfl) (by simp) ?_
  refine (AllReadyH.cons (op_at rfl) (fun K hK => ?_) AllReadyH.nil)
  go_simp
  obtain ⟨b0, b1, b2, b3, b4, b5, hb⟩ := hS
  refine (H6.out _).mono ?_
  rintro e w7 ⟨rfl, hB⟩
  refine hK.out _ _ ⟨b0.after hB, b1.after hB, b2.after hB, b3.after hB, b4.after hB, b5.after hB, below_call hb hB⟩ (fun hS => ?_)
  clear hK K hB b0 b1 b2 b3 b4 b5 hb
  try simp only [Act.put, List.setIfInBounds_toArray, List.set_cons_zero, List.set_cons_succ]
  refine wpAnyH_ready (rs := [33]) (by kernel_rfl) (by simp) ?_
  refine (AllReadyH.cons (op_at rfl) (fun K hK => ?_) AllReadyH.nil)
  go_simp
  obtain ⟨b0, b1, b2, b3, b4, b5, hb⟩ := hS
  refine (Bottom_any _).mono ?_
  rintro e w8 ⟨rfl, hB⟩
  refine hK.out _ _ ⟨b0.after hB, b1.after hB, b2.after hB, b3.after hB, b4.after hB, b5.after hB, below_call hb hB⟩ (fun hS => ?_)
  clear hK K hB b0 b1 b2 b3 b4 b5 hb
  try simp only [Act.put, List.setIfInBounds_toArray, List.set_cons_zero, List.set_cons_succ]
  refine wpAnyH_take (i := 34) (v := ?_) (op_at rfl) (by kernel_rfl) (by kernel_rfl) (by kernel_rfl) (fun _ _ _ h => h) (Or.inl ⟨by rfl, ?_⟩) hS ?_; rotate_left; focus ((intro w' hSw; clear hSw; go_simp) <;> with_reducible rfl)
  try simp only [Act.put, List.setIfInBounds_toArray, List.set_cons_zero, List.set_cons_succ]
  refine wpAnyH_take (i := 35) (v := ?_) (op_at rfl) (by kernel_rfl) (by kernel_rfl) (by kernel_rfl) (fun _ _ _ h => h) (Or.inl ⟨by rfl, ?_⟩) hS ?_; rotate_left; focus ((intro w' hSw; clear hSw; go_simp) <;> with_reducible rfl)
  try simp only [Act.put, List.setIfInBounds_toArray, List.set_cons_zero, List.set_cons_succ]
  refine wpAnyH_take (i := 36) (v := ?_) (op_at rfl) (by kernel_rfl) (by kernel_rfl) (by kernel_rfl) (fun _ _ _ h => h) (Or.inl ⟨by rfl, ?_⟩) hS ?_; rotate_left; focus ((intro w' hSw; clear hSw; go_simp) <;> with_reducible rfl)
  try simp only [Act.put, List.setIfInBounds_toArray, List.set_cons_zero, List.set_cons_succ]
  refine wpAnyH_take (i := 37) (v := ?_) (op_at rfl) (by kernel_rfl) (by kernel_rfl) (by kernel_rfl) (fun _ _ _ h => h) (Or.inl ⟨by rfl, ?_⟩) hS ?_; rotate_left; focus ((intro w' hSw; clear hSw; go_simp) <;> with_reducible rfl)
  try simp only [Act.put, List.setIfInBounds_toArray, List.set_cons_zero, List.set_cons_succ]
  refine wpAnyH_done (by kernel_rfl) ?_ _
  obtain ⟨b0, b1, b2, b3, b4, b5, hb⟩ := hS
  replace B0 := Lib.hid b0
  clear b0
  replace B1 := Lib.hid b1
  clear b1
  replace B3 := Lib.hid b2
  clear b2
  replace B4 := Lib.hid b3
  clear b3
  replace B5 := Lib.hid b4
  clear b4
  replace B6 := Lib.hid b5
  clear b5
  replace HB := Lib.hid hb
  clear hb
  go_wp2_with fail
  go_ret
  exact ⟨rfl, (by repeat (first | exact HB.out | refine below_alloc ?_ _ | refine Below.drew ?_ | refine below_set ?_ (by omega) _))⟩
set_option maxRecDepth 100000 in
set_option maxHeartbeats 4000000 in
theorem gains_3 (cur a b g x : Lab) (r : Bool) (sa : Addr) (w : World) (hh : Env sa w) (h0 : GainIs sa cur a g 0) (h1 : JoinIs cur a x 0) (h2 : JoinIs cur g x 0) (h3 : JoinIs cur b x 0) (h4 : ∀ W, (binOp .eql 24 (.agg #[.int .i64 x.lv, .int .u64 (u x.c), .int .i64 x.ig]) (.agg #[.int .i64 x.lv, .int .u64 (u x.c), .int .i64 x.ig])).run Tryd.prog W = .ok (.bool true) W) (h5 : ∀ W, (binOp .neq 24 (.agg #[.int .i64 x.lv, .int .u64 (u x.c), .int .i64 x.ig]) (.agg #[.int .i64 x.lv, .int .u64 (u x.c), .int .i64 x.ig])).run Tryd.prog W = .ok (.bool false) W) (h6 : UnderIs g b true) (h7 : UnderIs a cur r) (h8 : ∀ W, (binOp .eql 24 (.agg #[.int .i64 g.lv, .int .u64 (u g.c), .int .i64 g.ig]) (.agg #[.int .i64 botL.lv, .int .u64 (u botL.c), .int .i64 botL.ig])).run Tryd.prog W = .ok (.bool r) W) :
    Calls Tryd.prog 7 #[.agg #[.int .i64 cur.lv, .int .u64 (u cur.c), .int .i64 cur.ig], .agg #[.int .i64 a.lv, .int .u64 (u a.c), .int .i64 a.ig], .agg #[.int .i64 b.lv, .int .u64 (u b.c), .int .i64 b.ig]] w (Yes w) := by
  have H0 := Lib.hid h0
  clear h0
  have H1 := Lib.hid h1
  clear h1
  have H2 := Lib.hid h2
  clear h2
  have H3 := Lib.hid h3
  clear h3
  have H6 := Lib.hid h6
  clear h6
  have H7 := Lib.hid h7
  clear h7
  have HH := Lib.hid hh
  clear hh
  have HB := Lib.hid (Below.refl w.heap.size w)
  go_enter Tryd.func7, Tryd.ntmps7
  go_wp2_with fail
  refine (shown_any sa _ (HH.out.up (by repeat (first | exact HB.out | refine below_alloc ?_ _ | refine Below.drew ?_ | refine below_set ?_ (by omega) _)))).mono ?_
  rintro e w1 ⟨rfl, hB⟩
  replace HB := Lib.hid (below_call (w := w) (by repeat (first | exact HB.out | refine below_alloc ?_ _ | refine Below.drew ?_ | refine below_set ?_ (by omega) _)) hB)
  have z1 : w.heap.size ≤ w1.heap.size := HB.out.size
  have B0 : Hid (Blk w1 (w.heap.size) 24 #[.int .i64 cur.lv, .int .u64 (u cur.c), .int .i64 cur.ig]) := Lib.hid (Blk.after (by repeat (first | exact Blk.new' (by simp; done) | exact Blk.new' rfl | refine Blk.drew ?_ | refine Blk.alloc ?_ _)) hB)
  have B1 : Hid (Blk w1 (w.heap.size + 1) 24 #[.int .i64 a.lv, .int .u64 (u a.c), .int .i64 a.ig]) := Lib.hid (Blk.after (by repeat (first | exact Blk.new' (by simp; done) | exact Blk.new' rfl | refine Blk.drew ?_ | refine Blk.alloc ?_ _)) hB)
  have B2 : Hid (Blk w1 (w.heap.size + 1 + 1) 24 #[.int .i64 b.lv, .int .u64 (u b.c), .int .i64 b.ig]) := Lib.hid (Blk.after (by repeat (first | exact Blk.new' (by simp; done) | exact Blk.new' rfl | refine Blk.drew ?_ | refine Blk.alloc ?_ _)) hB)
  clear hB
  have p0_0 := B0.out.at_ (i := 0) (v := .int .i64 cur.lv) rfl
  have p0_1 := B0.out.at_ (i := 1) (v := .int .u64 (u cur.c)) rfl
  have p0_2 := B0.out.at_ (i := 2) (v := .int .i64 cur.ig) rfl
  have k0_0 : w.heap.size < w1.heap.size := by have := B0.out.lt; omega
  have p1_0 := B1.out.at_ (i := 0) (v := .int .i64 a.lv) rfl
  have p1_1 := B1.out.at_ (i := 1) (v := .int .u64 (u a.c)) rfl
  have p1_2 := B1.out.at_ (i := 2) (v := .int .i64 a.ig) rfl
  have k1_0 : w.heap.size + 1 < w1.heap.size := by have := B1.out.lt; omega
  go_wp2_with fail
  refine (H0.out _ (HH.out.up (by repeat (first | exact HB.out | refine below_alloc ?_ _ | refine Below.drew ?_ | refine below_set ?_ (by omega) _)))).mono ?_
  rintro e w2 ⟨rfl, hB⟩
  replace HB := Lib.hid (below_call (w := w) (by repeat (first | exact HB.out | refine below_alloc ?_ _ | refine Below.drew ?_ | refine below_set ?_ (by omega) _)) hB)
  have z2 : w.heap.size ≤ w2.heap.size := HB.out.size
  replace B0 : Hid (Blk w2 (w.heap.size) 24 #[.int .i64 cur.lv, .int .u64 (u cur.c), .int .i64 cur.ig]) := Lib.hid (Blk.after (by repeat (first | exact B0.out | exact Blk.new' (by simp; done) | exact Blk.new' rfl | refine Blk.drew ?_ | refine Blk.alloc ?_ _)) hB)
  replace B1 : Hid (Blk w2 (w.heap.size + 1) 24 #[.int .i64 a.lv, .int .u64 (u a.c), .int .i64 a.ig]) := Lib.hid (Blk.after (by repeat (first | exact B1.out | exact Blk.new' (by simp; done) | exact Blk.new' rfl | refine Blk.drew ?_ | refine Blk.alloc ?_ _)) hB)
  replace B2 : Hid (Blk w2 (w.heap.size + 1 + 1) 24 #[.int .i64 b.lv, .int .u64 (u b.c), .int .i64 b.ig]) := Lib.hid (Blk.after (by repeat (first | exact B2.out | exact Blk.new' (by simp; done) | exact Blk.new' rfl | refine Blk.drew ?_ | refine Blk.alloc ?_ _)) hB)
  clear p0_0 p0_1 p0_2 k0_0 p1_0 p1_1 p1_2 k1_0
  clear hB
  have p0_0 := B0.out.at_ (i := 0) (v := .int .i64 cur.lv) rfl
  have p0_1 := B0.out.at_ (i := 1) (v := .int .u64 (u cur.c)) rfl
  have p0_2 := B0.out.at_ (i := 2) (v := .int .i64 cur.ig) rfl
  have k0_0 : w.heap.size < w2.heap.size := by have := B0.out.lt; omega
  have k0_1 : w.heap.size < w2.heap.size + 1 := by have := B0.out.lt; omega
  have p1_0 := B1.out.at_ (i := 0) (v := .int .i64 a.lv) rfl
  have p1_1 := B1.out.at_ (i := 1) (v := .int .u64 (u a.c)) rfl
  have p1_2 := B1.out.at_ (i := 2) (v := .int .i64 a.ig) rfl
  have k1_0 : w.heap.size + 1 < w2.heap.size := by have := B1.out.lt; omega
  have k1_1 : w.heap.size + 1 < w2.heap.size + 1 := by have := B1.out.lt; omega
  go_wp2_with fail
  refine (H1.out _ (HH.out.up (by repeat (first | exact HB.out | refine below_alloc ?_ _ | refine Below.drew ?_ | refine below_set ?_ (by omega) _))).h).mono ?_
  rintro e w3 ⟨rfl, hB⟩
  replace HB := Lib.hid (below_call (w := w) (by repeat (first | exact HB.out | refine below_alloc ?_ _ | refine Below.drew ?_ | refine below_set ?_ (by omega) _)) hB)
  have z3 : w.heap.size ≤ w3.heap.size := HB.out.size
  replace B0 : Hid (Blk w3 (w.heap.size) 24 #[.int .i64 cur.lv, .int .u64 (u cur.c), .int .i64 cur.ig]) := Lib.hid (Blk.after (by repeat (first | exact B0.out | exact Blk.new' (by simp; done) | exact Blk.new' rfl | refine Blk.drew ?_ | refine Blk.alloc ?_ _)) hB)
  replace B1 : Hid (Blk w3 (w.heap.size + 1) 24 #[.int .i64 a.lv, .int .u64 (u a.c), .int .i64 a.ig]) := Lib.hid (Blk.after (by repeat (first | exact B1.out | exact Blk.new' (by simp; done) | exact Blk.new' rfl | refine Blk.drew ?_ | refine Blk.alloc ?_ _)) hB)
  replace B2 : Hid (Blk w3 (w.heap.size + 1 + 1) 24 #[.int .i64 b.lv, .int .u64 (u b.c), .int .i64 b.ig]) := Lib.hid (Blk.after (by repeat (first | exact B2.out | exact Blk.new' (by simp; done) | exact Blk.new' rfl | refine Blk.drew ?_ | refine Blk.alloc ?_ _)) hB)
  have B3 : Hid (Blk w3 (w2.heap.size) 24 #[.int .i64 g.lv, .int .u64 (u g.c), .int .i64 g.ig]) := Lib.hid (Blk.after (by repeat (first | exact Blk.new' (by simp; done) | exact Blk.new' rfl | refine Blk.drew ?_ | refine Blk.alloc ?_ _)) hB)
  clear p0_0 p0_1 p0_2 k0_0 k0_1 p1_0 p1_1 p1_2 k1_0 k1_1
  clear hB
  have p0_0 := B0.out.at_ (i := 0) (v := .int .i64 cur.lv) rfl
  have p0_1 := B0.out.at_ (i := 1) (v := .int .u64 (u cur.c)) rfl
  have p0_2 := B0.out.at_ (i := 2) (v := .int .i64 cur.ig) rfl
  have k0_0 : w.heap.size < w3.heap.size := by have := B0.out.lt; omega
  have k0_1 : w.heap.size < w3.heap.size + 1 := by have := B0.out.lt; omega
  have p3_0 := B3.out.at_ (i := 0) (v := .int .i64 g.lv) rfl
  have p3_1 := B3.out.at_ (i := 1) (v := .int .u64 (u g.c)) rfl
  have p3_2 := B3.out.at_ (i := 2) (v := .int .i64 g.ig) rfl
  have k3_0 : w2.heap.size < w3.heap.size := by have := B3.out.lt; omega
  have k3_1 : w2.heap.size < w3.heap.size + 1 := by have := B3.out.lt; omega
  go_wp2_with fail
  refine (H2.out _ (HH.out.up (by repeat (first | exact HB.out | refine below_alloc ?_ _ | refine Below.drew ?_ | refine below_set ?_ (by omega) _))).h).mono ?_
  rintro e w4 ⟨rfl, hB⟩
  replace HB := Lib.hid (below_call (w := w) (by repeat (first | exact HB.out | refine below_alloc ?_ _ | refine Below.drew ?_ | refine below_set ?_ (by omega) _)) hB)
  have z4 : w.heap.size ≤ w4.heap.size := HB.out.size
  replace B0 : Hid (Blk w4 (w.heap.size) 24 #[.int .i64 cur.lv, .int .u64 (u cur.c), .int .i64 cur.ig]) := Lib.hid (Blk.after (by repeat (first | exact B0.out | exact Blk.new' (by simp; done) | exact Blk.new' rfl | refine Blk.drew ?_ | refine Blk.alloc ?_ _)) hB)
  replace B1 : Hid (Blk w4 (w.heap.size + 1) 24 #[.int .i64 a.lv, .int .u64 (u a.c), .int .i64 a.ig]) := Lib.hid (Blk.after (by repeat (first | exact B1.out | exact Blk.new' (by simp; done) | exact Blk.new' rfl | refine Blk.drew ?_ | refine Blk.alloc ?_ _)) hB)
  replace B2 : Hid (Blk w4 (w.heap.size + 1 + 1) 24 #[.int .i64 b.lv, .int .u64 (u b.c), .int .i64 b.ig]) := Lib.hid (Blk.after (by repeat (first | exact B2.out | exact Blk.new' (by simp; done) | exact Blk.new' rfl | refine Blk.drew ?_ | refine Blk.alloc ?_ _)) hB)
  replace B3 : Hid (Blk w4 (w2.heap.size) 24 #[.int .i64 g.lv, .int .u64 (u g.c), .int .i64 g.ig]) := Lib.hid (Blk.after (by repeat (first | exact B3.out | exact Blk.new' (by simp; done) | exact Blk.new' rfl | refine Blk.drew ?_ | refine Blk.alloc ?_ _)) hB)
  have B4 : Hid (Blk w4 (w3.heap.size) 24 #[.int .i64 x.lv, .int .u64 (u x.c), .int .i64 x.ig]) := Lib.hid (Blk.after (by repeat (first | exact Blk.new' (by simp; done) | exact Blk.new' rfl | refine Blk.drew ?_ | refine Blk.alloc ?_ _)) hB)
  clear p0_0 p0_1 p0_2 k0_0 k0_1 p3_0 p3_1 p3_2 k3_0 k3_1
  clear hB
  have p0_0 := B0.out.at_ (i := 0) (v := .int .i64 cur.lv) rfl
  have p0_1 := B0.out.at_ (i := 1) (v := .int .u64 (u cur.c)) rfl
  have p0_2 := B0.out.at_ (i := 2) (v := .int .i64 cur.ig) rfl
  have k0_0 : w.heap.size < w4.heap.size := by have := B0.out.lt; omega
  have k0_1 : w.heap.size < w4.heap.size + 1 := by have := B0.out.lt; omega
  have p2_0 := B2.out.at_ (i := 0) (v := .int .i64 b.lv) rfl
  have p2_1 := B2.out.at_ (i := 1) (v := .int .u64 (u b.c)) rfl
  have p2_2 := B2.out.at_ (i := 2) (v := .int .i64 b.ig) rfl
  have k2_0 : w.heap.size + 1 + 1 < w4.heap.size := by have := B2.out.lt; omega
  have k2_1 : w.heap.size + 1 + 1 < w4.heap.size + 1 := by have := B2.out.lt; omega
  go_wp2_with fail
  refine (H3.out _ (HH.out.up (by repeat (first | exact HB.out | refine below_alloc ?_ _ | refine Below.drew ?_ | refine below_set ?_ (by omega) _))).h).mono ?_
  rintro e w5 ⟨rfl, hB⟩
  replace HB := Lib.hid (below_call (w := w) (by repeat (first | exact HB.out | refine below_alloc ?_ _ | refine Below.drew ?_ | refine below_set ?_ (by omega) _)) hB)
  have z5 : w.heap.size ≤ w5.heap.size := HB.out.size
  replace B0 : Hid (Blk w5 (w.heap.size) 24 #[.int .i64 cur.lv, .int .u64 (u cur.c), .int .i64 cur.ig]) := Lib.hid (Blk.after (by repeat (first | exact B0.out | exact Blk.new' (by simp; done) | exact Blk.new' rfl | refine Blk.drew ?_ | refine Blk.alloc ?_ _)) hB)
  replace B1 : Hid (Blk w5 (w.heap.size + 1) 24 #[.int .i64 a.lv, .int .u64 (u a.c), .int .i64 a.ig]) := Lib.hid (Blk.after (by repeat (first | exact B1.out | exact Blk.new' (by simp; done) | exact Blk.new' rfl | refine Blk.drew ?_ | refine Blk.alloc ?_ _)) hB)
  replace B2 : Hid (Blk w5 (w.heap.size + 1 + 1) 24 #[.int .i64 b.lv, .int .u64 (u b.c), .int .i64 b.ig]) := Lib.hid (Blk.after (by repeat (first | exact B2.out | exact Blk.new' (by simp; done) | exact Blk.new' rfl | refine Blk.drew ?_ | refine Blk.alloc ?_ _)) hB)
  replace B3 : Hid (Blk w5 (w2.heap.size) 24 #[.int .i64 g.lv, .int .u64 (u g.c), .int .i64 g.ig]) := Lib.hid (Blk.after (by repeat (first | exact B3.out | exact Blk.new' (by simp; done) | exact Blk.new' rfl | refine Blk.drew ?_ | refine Blk.alloc ?_ _)) hB)
  replace B4 : Hid (Blk w5 (w3.heap.size) 24 #[.int .i64 x.lv, .int .u64 (u x.c), .int .i64 x.ig]) := Lib.hid (Blk.after (by repeat (first | exact B4.out | exact Blk.new' (by simp; done) | exact Blk.new' rfl | refine Blk.drew ?_ | refine Blk.alloc ?_ _)) hB)
  have B5 : Hid (Blk w5 (w4.heap.size) 24 #[.int .i64 x.lv, .int .u64 (u x.c), .int .i64 x.ig]) := Lib.hid (Blk.after (by repeat (first | exact Blk.new' (by simp; done) | exact Blk.new' rfl | refine Blk.drew ?_ | refine Blk.alloc ?_ _)) hB)
  clear p0_0 p0_1 p0_2 k0_0 k0_1 p2_0 p2_1 p2_2 k2_0 k2_1
  clear hB
  go_wp2_with fail
  refine wp_region_gen (S := (fun W' => Blk W' (w.heap.size) 24 #[.int .i64 cur.lv, .int .u64 (u cur.c), .int .i64 cur.ig] ∧ Blk W' (w.heap.size + 1) 24 #[.int .i64 a.lv, .int .u64 (u a.c), .int .i64 a.ig] ∧ Blk W' (w.heap.size + 1 + 1) 24 #[.int .i64 b.lv, .int .u64 (u b.c), .int .i64 b.ig] ∧ Blk W' (w2.heap.size) 24 #[.int .i64 g.lv, .int .u64 (u g.c), .int .i64 g.ig] ∧ Blk W' (w3.heap.size) 24 #[.int .i64 x.lv, .int .u64 (u x.c), .int .i64 x.ig] ∧ Blk W' (w4.heap.size) 24 #[.int .i64 x.lv, .int .u64 (u x.c), .int .i64 x.ig] ∧ Blk W' (w5.heap.size) 24 #[.int .i64 x.lv, .int .u64 (u x.c), .int .i64 x.ig] ∧ Below w.heap.size w W')) (by kernel_rfl) ⟨(by repeat (first | exact B0.out | exact Blk.new' (by simp; done) | exact Blk.new' rfl | refine Blk.drew ?_ | refine Blk.alloc ?_ _)), (by repeat (first | exact B1.out | exact Blk.new' (by simp; done) | exact Blk.new' rfl | refine Blk.drew ?_ | refine Blk.alloc ?_ _)), (by repeat (first | exact B2.out | exact Blk.new' (by simp; done) | exact Blk.new' rfl | refine Blk.drew ?_ | refine Blk.alloc ?_ _)), (by repeat (first | exact B3.out | exact Blk.new' (by simp; done) | exact Blk.new' rfl | refine Blk.drew ?_ | refine Blk.alloc ?_ _)), (by repeat (first | exact B4.out | exact Blk.new' (by simp; done) | exact Blk.new' rfl | refine Blk.drew ?_ | refine Blk.alloc ?_ _)), (by repeat (first | exact B5.out | exact Blk.new' (by simp; done) | exact Blk.new' rfl | refine Blk.drew ?_ | refine Blk.alloc ?_ _)), (by repeat (first | exact Blk.new' (by simp; done) | exact Blk.new' rfl | refine Blk.drew ?_ | refine Blk.alloc ?_ _)), (by repeat (first | exact HB.out | refine below_alloc ?_ _ | refine Below.drew ?_ | refine below_set ?_ (by omega) _))⟩ (fun w6 hS => ?_)
  refine wpAnyH_take (i := 0) (v := ?_) (op_at rfl) (by kernel_rfl) (by kernel_rfl) (by kernel_rfl) (fun _ _ _ h => h) (Or.inl ⟨by rfl, ?_⟩) hS ?_; rotate_left; focus ((intro w' hSw; clear hSw; go_simp) <;> with_reducible rfl)
  try simp only [Act.put, List.setIfInBounds_toArray, List.set_cons_zero, List.set_cons_succ]
  refine wpAnyH_take (i := 1) (v := ?_) (op_at rfl) (by kernel_rfl) (by kernel_rfl) (by kernel_rfl) (fun _ _ _ h => h) (Or.inl ⟨by rfl, ?_⟩) hS ?_; rotate_left; focus ((intro w' hSw; clear hSw; go_simp) <;> with_reducible rfl)
  try simp only [Act.put, List.setIfInBounds_toArray, List.set_cons_zero, List.set_cons_succ]
  refine wpAnyH_take (i := 2) (v := ?_) (op_at rfl) (by kernel_rfl) (by kernel_rfl) (by kernel_rfl) (fun _ _ _ h => h) (Or.inl ⟨by rfl, ?_⟩) hS ?_; rotate_left; focus ((intro w' hSw; clear hSw; go_simp) <;> with_reducible rfl)
  try simp only [Act.put, List.setIfInBounds_toArray, List.set_cons_zero, List.set_cons_succ]
  refine wpAnyH_take (i := 3) (v := ?_) (op_at rfl) (by kernel_rfl) (by kernel_rfl) (by kernel_rfl) (fun _ _ _ h => h) (Or.inl ⟨by rfl, ?_⟩) hS ?_; rotate_left; focus ((intro w' hSw; clear hSw; go_simp) <;> with_reducible rfl)
  try simp only [Act.put, List.setIfInBounds_toArray, List.set_cons_zero, List.set_cons_succ]
  refine wpAnyH_take (i := 4) (v := ?_) (op_at rfl) (by kernel_rfl) (by kernel_rfl) (by kernel_rfl) (fun _ _ _ h => h) (Or.inl ⟨by rfl, ?_⟩) hS ?_; rotate_left; focus ((intro w' hSw; clear hSw; go_simp) <;> with_reducible rfl)
  try simp only [Act.put, List.setIfInBounds_toArray, List.set_cons_zero, List.set_cons_succ]
  refine wpAnyH_take (i := 5) (v := ?_) (op_at rfl) (by kernel_rfl) (by kernel_rfl) (by kernel_rfl) (fun _ _ _ h => h) (Or.inl ⟨by rfl, ?_⟩) hS ?_; rotate_left; focus ((intro w' hSw; clear hSw; go_simp) <;> with_reducible rfl)
  try simp only [Act.put, List.setIfInBounds_toArray, List.set_cons_zero, List.set_cons_succ]
  refine wpAnyH_take (i := 6) (v := ?_) (op_at rfl) (by kernel_rfl) (by kernel_rfl) (by kernel_rfl) (fun _ _ _ h => h) (Or.inl ⟨by rfl, ?_⟩) hS ?_; rotate_left; focus ((intro w' hSw; clear hSw; go_simp) <;> with_reducible rfl)
  try simp only [Act.put, List.setIfInBounds_toArray, List.set_cons_zero, List.set_cons_succ]
  refine wpAnyH_take (i := 7) (v := ?_) (op_at rfl) (by kernel_rfl) (by kernel_rfl) (by kernel_rfl) (fun _ _ _ h => h) (Or.inl ⟨by rfl, ?_⟩) hS ?_; rotate_left; focus ((intro w' hSw; clear hSw; go_simp) <;> with_reducible rfl)
  try simp only [Act.put, List.setIfInBounds_toArray, List.set_cons_zero, List.set_cons_succ]
  refine wpAnyH_take (i := 8) (v := ?_) (op_at rfl) (by kernel_rfl) (by kernel_rfl) (by kernel_rfl) (fun _ _ _ h => h) (Or.inl ⟨by rfl, ?_⟩) hS ?_; rotate_left; focus ((intro w' hSw; clear hSw; go_simp) <;> with_reducible rfl)
  try simp only [Act.put, List.setIfInBounds_toArray, List.set_cons_zero, List.set_cons_succ]
  refine wpAnyH_take (i := 9) (v := ?_) (op_at rfl) (by kernel_rfl) (by kernel_rfl) (by kernel_rfl) (fun _ _ _ h => h) (Or.inl ⟨by rfl, ?_⟩) hS ?_; rotate_left; focus ((intro w' hSw; clear hSw; go_simp) <;> with_reducible rfl)
  try simp only [Act.put, List.setIfInBounds_toArray, List.set_cons_zero, List.set_cons_succ]
  refine wpAnyH_take (i := 10) (v := ?_) (op_at rfl) (by kernel_rfl) (by kernel_rfl) (by kernel_rfl) (fun _ _ _ h => h) (Or.inl ⟨by rfl, ?_⟩) hS ?_; rotate_left; focus ((intro w' hSw; obtain ⟨-, -, -, -, -, q, -⟩ := hSw; have c0 := q.at_ (i := 0) (v := .int .i64 x.lv) rfl; have c1 := q.at_ (i := 1) (v := .int .u64 (u x.c)) rfl; have c2 := q.at_ (i := 2) (v := .int .i64 x.ig) rfl; clear q; go_simp) <;> with_reducible rfl)
  try simp only [Act.put, List.setIfInBounds_toArray, List.set_cons_zero, List.set_cons_succ]
  refine wpAnyH_take (i := 11) (v := ?_) (op_at rfl) (by kernel_rfl) (by kernel_rfl) (by kernel_rfl) (fun _ _ _ h => h) (Or.inl ⟨by rfl, ?_⟩) hS ?_; rotate_left; focus ((intro w' hSw; obtain ⟨-, -, -, -, q, -⟩ := hSw; have c0 := q.at_ (i := 0) (v := .int .i64 x.lv) rfl; have c1 := q.at_ (i := 1) (v := .int .u64 (u x.c)) rfl; have c2 := q.at_ (i := 2) (v := .int .i64 x.ig) rfl; clear q; go_simp) <;> with_reducible rfl)
  try simp only [Act.put, List.setIfInBounds_toArray, List.set_cons_zero, List.set_cons_succ]
  refine wpAnyH_take (i := 12) (v := ?_) (op_at rfl) (by kernel_rfl) (by kernel_rfl) (by kernel_rfl) (fun _ _ _ h => h) (Or.inl ⟨by rfl, ?_⟩) hS ?_; rotate_left; focus ((intro w' hSw; clear hSw; go_simp) <;> with_reducible rfl)
  try simp only [Act.put, List.setIfInBounds_toArray, List.set_cons_zero, List.set_cons_succ]
  refine wpAnyH_take (i := 13) (v := ?_) (op_at rfl) (by kernel_rfl) (by kernel_rfl) (by kernel_rfl) (fun _ _ _ h => h) (Or.inl ⟨by rfl, ?_⟩) hS ?_; rotate_left; focus ((intro w' hSw; clear hSw; go_simp) <;> with_reducible rfl)
  try simp only [Act.put, List.setIfInBounds_toArray, List.set_cons_zero, List.set_cons_succ]
  refine wpAnyH_take (i := 14) (v := ?_) (op_at rfl) (by kernel_rfl) (by kernel_rfl) (by kernel_rfl) (fun _ _ _ h => h) (Or.inl ⟨by rfl, ?_⟩) hS ?_; rotate_left; focus ((intro w' hSw; clear hSw; go_simp) <;> with_reducible rfl)
  try simp only [Act.put, List.setIfInBounds_toArray, List.set_cons_zero, List.set_cons_succ]
  refine wpAnyH_take (i := 15) (v := ?_) (op_at rfl) (by kernel_rfl) (by kernel_rfl) (by kernel_rfl) (fun _ _ _ h => h) (Or.inl ⟨by rfl, ?_⟩) hS ?_; rotate_left; focus ((intro w' hSw; clear hSw; go_simp) <;> with_reducible rfl)
  try simp only [Act.put, List.setIfInBounds_toArray, List.set_cons_zero, List.set_cons_succ]
  refine wpAnyH_take (i := 16) (v := ?_) (op_at rfl) (by kernel_rfl) (by kernel_rfl) (by kernel_rfl) (fun _ _ _ h => h) (Or.inl ⟨by rfl, ?_⟩) hS ?_; rotate_left; focus ((intro w' hSw; clear hSw; go_simp) <;> with_reducible rfl)
  try simp only [Act.put, List.setIfInBounds_toArray, List.set_cons_zero, List.set_cons_succ]
  refine wpAnyH_take (i := 17) (v := ?_) (op_at rfl) (by kernel_rfl) (by kernel_rfl) (by kernel_rfl) (fun _ _ _ h => h) (Or.inl ⟨by rfl, ?_⟩) hS ?_; rotate_left; focus ((intro w' hSw; clear hSw; go_simp) <;> with_reducible rfl)
  try simp only [Act.put, List.setIfInBounds_toArray, List.set_cons_zero, List.set_cons_succ]
  refine wpAnyH_take (i := 18) (v := ?_) (op_at rfl) (by kernel_rfl) (by kernel_rfl) (by kernel_rfl) (fun _ _ _ h => h) (Or.inl ⟨by rfl, ?_⟩) hS ?_; rotate_left; focus ((intro w' hSw; obtain ⟨-, -, -, -, -, -, q, -⟩ := hSw; have c0 := q.at_ (i := 0) (v := .int .i64 x.lv) rfl; have c1 := q.at_ (i := 1) (v := .int .u64 (u x.c)) rfl; have c2 := q.at_ (i := 2) (v := .int .i64 x.ig) rfl; clear q; go_simp) <;> with_reducible rfl)
  try simp only [Act.put, List.setIfInBounds_toArray, List.set_cons_zero, List.set_cons_succ]
  refine wpAnyH_take (i := 19) (v := ?_) (op_at rfl) (by kernel_rfl) (by kernel_rfl) (by kernel_rfl) (fun _ _ _ h => h) (Or.inl ⟨by rfl, ?_⟩) hS ?_; rotate_left; focus ((intro w' hSw; obtain ⟨-, -, -, -, q, -⟩ := hSw; have c0 := q.at_ (i := 0) (v := .int .i64 x.lv) rfl; have c1 := q.at_ (i := 1) (v := .int .u64 (u x.c)) rfl; have c2 := q.at_ (i := 2) (v := .int .i64 x.ig) rfl; clear q; go_simp) <;> with_reducible rfl)
  try simp only [Act.put, List.setIfInBounds_toArray, List.set_cons_zero, List.set_cons_succ]
  refine wpAnyH_take (i := 20) (v := ?_) (op_at rfl) (by kernel_rfl) (by kernel_rfl) (by kernel_rfl) (fun _ _ _ h => h) (Or.inl ⟨by rfl, ?_⟩) hS ?_; rotate_left; focus ((intro w' hSw; clear hSw; go_simp) <;> with_reducible rfl)
  try simp only [Act.put, List.setIfInBounds_toArray, List.set_cons_zero, List.set_cons_succ]
  refine wpAnyH_take (i := 21) (v := ?_) (op_at rfl) (by kernel_rfl) (by kernel_rfl) (by kernel_rfl) (fun _ _ _ h => h) (Or.inl ⟨by rfl, ?_⟩) hS ?_; rotate_left; focus ((intro w' hSw; clear hSw; go_simp) <;> with_reducible rfl)
  try simp only [Act.put, List.setIfInBounds_toArray, List.set_cons_zero, List.set_cons_succ]
  refine wpAnyH_take (i := 22) (v := ?_) (op_at rfl) (by kernel_rfl) (by kernel_rfl) (by kernel_rfl) (fun _ _ _ h => h) (Or.inl ⟨by rfl, ?_⟩) hS ?_; rotate_left; focus ((intro w' hSw; clear hSw; go_simp) <;> with_reducible rfl)
  try simp only [Act.put, List.setIfInBounds_toArray, List.set_cons_zero, List.set_cons_succ]
  refine wpAnyH_take (i := 23) (v := ?_) (op_at rfl) (by kernel_rfl) (by kernel_rfl) (by kernel_rfl) (fun _ _ _ h => h) (Or.inl ⟨by rfl, ?_⟩) hS ?_; rotate_left; focus ((intro w' hSw; obtain ⟨-, -, -, q, -⟩ := hSw; have c0 := q.at_ (i := 0) (v := .int .i64 g.lv) rfl; have c1 := q.at_ (i := 1) (v := .int .u64 (u g.c)) rfl; have c2 := q.at_ (i := 2) (v := .int .i64 g.ig) rfl; clear q; go_simp) <;> with_reducible rfl)
  try simp only [Act.put, List.setIfInBounds_toArray, List.set_cons_zero, List.set_cons_succ]
  refine wpAnyH_take (i := 24) (v := ?_) (op_at rfl) (by kernel_rfl) (by kernel_rfl) (by kernel_rfl) (fun _ _ _ h => h) (Or.inl ⟨by rfl, ?_⟩) hS ?_; rotate_left; focus ((intro w' hSw; obtain ⟨-, -, q, -⟩ := hSw; have c0 := q.at_ (i := 0) (v := .int .i64 b.lv) rfl; have c1 := q.at_ (i := 1) (v := .int .u64 (u b.c)) rfl; have c2 := q.at_ (i := 2) (v := .int .i64 b.ig) rfl; clear q; go_simp) <;> with_reducible rfl)
  try simp only [Act.put, List.setIfInBounds_toArray, List.set_cons_zero, List.set_cons_succ]
  refine wpAnyH_ready (rs := [25]) (by kernel_rfl) (by simp) ?_
  refine (AllReadyH.cons (op_at rfl) (fun K hK => ?_) AllReadyH.nil)
  go_simp
  obtain ⟨b0, b1, b2, b3, b4, b5, b6, hb⟩ := hS
  refine (H6.out _).mono ?_
  rintro e w7 ⟨rfl, hB⟩
  refine hK.out _ _ ⟨b0.after hB, b1.after hB, b2.after hB, b3.after hB, b4.after hB, b5.after hB, b6.after hB, below_call hb hB⟩ (fun hS => ?_)
  clear hK K hB b0 b1 b2 b3 b4 b5 b6 hb
  try simp only [Act.put, List.setIfInBounds_toArray, List.set_cons_zero, List.set_cons_succ]
  refine wpAnyH_take (i := 26) (v := ?_) (op_at rfl) (by kernel_rfl) (by kernel_rfl) (by kernel_rfl) (fun _ _ _ h => h) (Or.inl ⟨by rfl, ?_⟩) hS ?_; rotate_left; focus ((intro w' hSw; clear hSw; go_simp) <;> with_reducible rfl)
  try simp only [Act.put, List.setIfInBounds_toArray, List.set_cons_zero, List.set_cons_succ]
  refine wpAnyH_take (i := 27) (v := ?_) (op_at rfl) (by kernel_rfl) (by kernel_rfl) (by kernel_rfl) (fun _ _ _ h => h) (Or.inl ⟨by rfl, ?_⟩) hS ?_; rotate_left; focus ((intro w' hSw; clear hSw; go_simp) <;> with_reducible rfl)
  try simp only [Act.put, List.setIfInBounds_toArray, List.set_cons_zero, List.set_cons_succ]
  refine wpAnyH_take (i := 28) (v := ?_) (op_at rfl) (by kernel_rfl) (by kernel_rfl) (by kernel_rfl) (fun _ _ _ h => h) (Or.inl ⟨by rfl, ?_⟩) hS ?_; rotate_left; focus ((intro w' hSw; clear hSw; go_simp) <;> with_reducible rfl)
  try simp only [Act.put, List.setIfInBounds_toArray, List.set_cons_zero, List.set_cons_succ]
  refine wpAnyH_take (i := 29) (v := ?_) (op_at rfl) (by kernel_rfl) (by kernel_rfl) (by kernel_rfl) (fun _ _ _ h => h) (Or.inl ⟨by rfl, ?_⟩) hS ?_; rotate_left; focus ((intro w' hSw; obtain ⟨-, q, -⟩ := hSw; have c0 := q.at_ (i := 0) (v := .int .i64 a.lv) rfl; have c1 := q.at_ (i := 1) (v := .int .u64 (u a.c)) rfl; have c2 := q.at_ (i := 2) (v := .int .i64 a.ig) rfl; clear q; go_simp) <;> with_reducible rfl)
  try simp only [Act.put, List.setIfInBounds_toArray, List.set_cons_zero, List.set_cons_succ]
  refine wpAnyH_take (i := 30) (v := ?_) (op_at rfl) (by kernel_rfl) (by kernel_rfl) (by kernel_rfl) (fun _ _ _ h => h) (Or.inl ⟨by rfl, ?_⟩) hS ?_; rotate_left; focus ((intro w' hSw; obtain ⟨q, -⟩ := hSw; have c0 := q.at_ (i := 0) (v := .int .i64 cur.lv) rfl; have c1 := q.at_ (i := 1) (v := .int .u64 (u cur.c)) rfl; have c2 := q.at_ (i := 2) (v := .int .i64 cur.ig) rfl; clear q; go_simp) <;> with_reducible rfl)
  try simp only [Act.put, List.setIfInBounds_toArray, List.set_cons_zero, List.set_cons_succ]
  refine wpAnyH_take (i := 32) (v := ?_) (op_at rfl) (by kernel_rfl) (by kernel_rfl) (by kernel_rfl) (fun _ _ _ h => h) (Or.inl ⟨by rfl, ?_⟩) hS ?_; rotate_left; focus ((intro w' hSw; obtain ⟨-, -, -, q, -⟩ := hSw; have c0 := q.at_ (i := 0) (v := .int .i64 g.lv) rfl; have c1 := q.at_ (i := 1) (v := .int .u64 (u g.c)) rfl; have c2 := q.at_ (i := 2) (v := .int .i64 g.ig) rfl; clear q; go_simp) <;> with_reducible rfl)
  try simp only [Act.put, List.setIfInBounds_toArray, List.set_cons_zero, List.set_cons_succ]
  refine wpAnyH_ready (rs := [31]) (by kernel_rfl) (by simp) ?_
  refine (AllReadyH.cons (op_at rfl) (fun K hK => ?_) AllReadyH.nil)
  go_simp
  obtain ⟨b0, b1, b2, b3, b4, b5, b6, hb⟩ := hS
  refine (H7.out _).mono ?_
  rintro e w8 ⟨rfl, hB⟩
  refine hK.out _ _ ⟨b0.after hB, b1.after hB, b2.after hB, b3.after hB, b4.after hB, b5.after hB, b6.after hB, below_call hb hB⟩ (fun hS => ?_)
  clear hK K hB b0 b1 b2 b3 b4 b5 b6 hb
  try simp only [Act.put, List.setIfInBounds_toArray, List.set_cons_zero, List.set_cons_succ]
  refine wpAnyH_ready (rs := [33]) (by kernel_rfl) (by simp) ?_
  refine (AllReadyH.cons (op_at rfl) (fun K hK => ?_) AllReadyH.nil)
  go_simp
  obtain ⟨b0, b1, b2, b3, b4, b5, b6, hb⟩ := hS
  refine (Bottom_any _).mono ?_
  rintro e w9 ⟨rfl, hB⟩
  refine hK.out _ _ ⟨b0.after hB, b1.after hB, b2.after hB, b3.after hB, b4.after hB, b5.after hB, b6.after hB, below_call hb hB⟩ (fun hS => ?_)
  clear hK K hB b0 b1 b2 b3 b4 b5 b6 hb
  try simp only [Act.put, List.setIfInBounds_toArray, List.set_cons_zero, List.set_cons_succ]
  refine wpAnyH_take (i := 34) (v := ?_) (op_at rfl) (by kernel_rfl) (by kernel_rfl) (by kernel_rfl) (fun _ _ _ h => h) (Or.inl ⟨by rfl, ?_⟩) hS ?_; rotate_left; focus ((intro w' hSw; clear hSw; go_simp) <;> with_reducible rfl)
  try simp only [Act.put, List.setIfInBounds_toArray, List.set_cons_zero, List.set_cons_succ]
  refine wpAnyH_take (i := 35) (v := ?_) (op_at rfl) (by kernel_rfl) (by kernel_rfl) (by kernel_rfl) (fun _ _ _ h => h) (Or.inl ⟨by rfl, ?_⟩) hS ?_; rotate_left; focus ((intro w' hSw; clear hSw; go_simp) <;> with_reducible rfl)
  try simp only [Act.put, List.setIfInBounds_toArray, List.set_cons_zero, List.set_cons_succ]
  refine wpAnyH_take (i := 36) (v := ?_) (op_at rfl) (by kernel_rfl) (by kernel_rfl) (by kernel_rfl) (fun _ _ _ h => h) (Or.inl ⟨by rfl, ?_⟩) hS ?_; rotate_left; focus ((intro w' hSw; clear hSw; go_simp) <;> with_reducible rfl)
  try simp only [Act.put, List.setIfInBounds_toArray, List.set_cons_zero, List.set_cons_succ]
  refine wpAnyH_take (i := 37) (v := ?_) (op_at rfl) (by kernel_rfl) (by kernel_rfl) (by kernel_rfl) (fun _ _ _ h => h) (Or.inl ⟨by rfl, ?_⟩) hS ?_; rotate_left; focus ((intro w' hSw; clear hSw; go_simp) <;> with_reducible rfl)
  try simp only [Act.put, List.setIfInBounds_toArray, List.set_cons_zero, List.set_cons_succ]
  refine wpAnyH_done (by kernel_rfl) ?_ _
  obtain ⟨b0, b1, b2, b3, b4, b5, b6, hb⟩ := hS
  replace B0 := Lib.hid b0
  clear b0
  replace B1 := Lib.hid b1
  clear b1
  replace B2 := Lib.hid b2
  clear b2
  replace B3 := Lib.hid b3
  clear b3
  replace B4 := Lib.hid b4
  clear b4
  replace B5 := Lib.hid b5
  clear b5
  replace B6 := Lib.hid b6
  clear b6
  replace HB := Lib.hid hb
  clear hb
  go_wp2_with fail
  go_ret
  exact ⟨rfl, (by repeat (first | exact HB.out | refine below_alloc ?_ _ | refine Below.drew ?_ | refine below_set ?_ (by omega) _))⟩
theorem sub_less_eq (x y : BitVec 64) : x ||| (y &&& ~~~x) = x ||| y := by
  ext k hk; simp; cases x[k] <;> simp
theorem gain_facts {cur a : Lab} (hc : okL cur = true) (ha : okL a = true) : okL (gainL cur a) = true ∧ gainE cur a = 0 ∧ joinL cur (gainL cur a) = joinL cur a := by
  have kc := okL_iff.1 hc
  have ka := okL_iff.1 ha
  have e : gainL cur a = ⟨if cur.lv < a.lv then a.lv else 0, a.c &&& ~~~cur.c, if a.ig < cur.ig then a.ig else 7⟩ := by unfold gainL; rw [hc, ha]; rfl
  refine ⟨?_, by unfold gainE; rw [hc, ha]; rfl, ?_⟩
  · rw [e, okL_iff]
    refine ⟨?_, ?_, ?_, ?_⟩ <;> dsimp only <;> split <;> omega
  · rw [e]
    refine Lab.ext' ?_ ?_ ?_
    · simp only [joinL]; split <;> omega
    · simp only [joinL]; exact sub_less_eq _ _
    · simp only [joinL]; split <;> omega
theorem gain_least {cur a b : Lab} (hc : okL cur = true) (ha : okL a = true) (hb : okL b = true) (h : joinL cur b = joinL cur a) : underL (gainL cur a) b = true := by
  have kb := okL_iff.1 hb
  have e : gainL cur a = ⟨if cur.lv < a.lv then a.lv else 0, a.c &&& ~~~cur.c, if a.ig < cur.ig then a.ig else 7⟩ := by unfold gainL; rw [hc, ha]; rfl
  have h1 : max cur.lv b.lv = max cur.lv a.lv := congrArg Lab.lv h
  have h2 : cur.c ||| b.c = cur.c ||| a.c := congrArg Lab.c h
  have h3 : min cur.ig b.ig = min cur.ig a.ig := congrArg Lab.ig h
  refine underL_iff.2 ⟨(gain_facts hc ha).1, hb, ?_⟩
  rw [e, le3_iff]
  refine ⟨?_, ?_, ?_⟩
  · dsimp only; split <;> omega
  · dsimp only; split <;> omega
  · dsimp only
    rw [sub_lsb]
    intro k hk hx
    have := congrArg (fun z => z.getLsbD k) h2
    simp only [BitVec.getLsbD_or, BitVec.getLsbD_and, BitVec.getLsbD_not, hk] at this hx
    cases h4 : cur.c.getLsbD k <;> simp_all
theorem gain_bot {cur a : Lab} (hc : okL cur = true) (ha : okL a = true) : underL a cur = eqL (gainL cur a) botL := by
  have kc := okL_iff.1 hc
  have ka := okL_iff.1 ha
  have e : gainL cur a = ⟨if cur.lv < a.lv then a.lv else 0, a.c &&& ~~~cur.c, if a.ig < cur.ig then a.ig else 7⟩ := by unfold gainL; rw [hc, ha]; rfl
  rw [Bool.eq_iff_iff, eqL_iff, underL_iff, le3_iff, e]
  constructor
  · rintro ⟨_, _, h1, h2, h3⟩
    refine Lab.ext' ?_ ?_ ?_
    · show (if cur.lv < a.lv then a.lv else 0) = 0; rw [if_neg (by omega)]
    · show a.c &&& ~~~cur.c = 0#64
      exact beq_iff_eq.1 h3
    · show (if a.ig < cur.ig then a.ig else 7) = 7; rw [if_neg (by omega)]
  · intro h
    have h1 : (if cur.lv < a.lv then a.lv else 0) = 0 := congrArg Lab.lv h
    have h2 : a.c &&& ~~~cur.c = 0#64 := congrArg Lab.c h
    have h3 : (if a.ig < cur.ig then a.ig else 7) = 7 := congrArg Lab.ig h
    refine ⟨ha, hc, ?_, ?_, ?_⟩
    · split at h1 <;> omega
    · split at h3 <;> omega
    · exact beq_iff_eq.2 h2
theorem gains_walk (cur a b : Lab) (sa : Addr) (w : World) (hh : Env sa w) : Calls Tryd.prog 7 #[.agg #[.int .i64 cur.lv, .int .u64 (u cur.c), .int .i64 cur.ig], .agg #[.int .i64 a.lv, .int .u64 (u a.c), .int .i64 a.ig], .agg #[.int .i64 b.lv, .int .u64 (u b.c), .int .i64 b.ig]] w (Yes w) := by
  by_cases ho : okL cur = true ∧ okL a = true
  · obtain ⟨hc, ha⟩ := ho
    obtain ⟨og, eg, jg⟩ := gain_facts hc ha
    have h2 := joinIs hc og
    rw [jg] at h2
    have hq := eqlIs (gain_bot hc ha).symm
    by_cases hb : okL b = true
    · have h3 := joinIs hc hb
      by_cases hj : eqL (joinL cur b) (joinL cur a) = true
      · have hj' := eqL_iff.1 hj
        rw [hj'] at h3
        exact gains_3 cur a b _ _ _ sa w hh (gainIs rfl eg) (joinIs hc ha) h2 h3 (eqlIs (eqL_self _)) (neqIs (by rw [eqL_self]; rfl)) (underIs (gain_least hc ha hb hj')) (underIs rfl) hq
      · exact gains_2 cur a b _ _ _ _ sa w hh (gainIs rfl eg) (joinIs hc ha) h2 h3 (eqlIs (eqL_self _)) (neqIs (by rw [nbool hj]; rfl)) (underIs rfl) hq
    · exact gains_1 cur a b _ _ zeroL _ sa w hh (gainIs rfl eg) (joinIs hc ha) h2 (joinNo fun k => hb k.2) (eqlIs (eqL_self _)) (underIs rfl) hq
  · have e1 : gainL cur a = zeroL := by unfold gainL; rw [show (okL cur && okL a) = false from nbool fun k => ho (by simpa using k)]; rfl
    have e2 : gainE cur a = 20 := by unfold gainE; rw [show (okL cur && okL a) = false from nbool fun k => ho (by simpa using k)]; rfl
    exact gains_bad cur a b sa w hh (gainIs e1 e2) (joinNo ho) zeroIs
end Go.Proofs.YtmbafllkiofhnaaDoor
