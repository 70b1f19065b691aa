/-
  THE WALK OF THE STATEMENT CeilingFloats (printed by wip/genceil.py).
-/
import Derived.Test.YtmbafllkiofhnaaDoorCeiG
namespace Go.Proofs.YtmbafllkiofhnaaDoor
open Go.RowKit

attribute [local go_sem] u_and u_or u_andNot u_add u_sub u_bit u_eq_zero u_beq

set_option maxRecDepth 100000 in
set_option maxHeartbeats 4000000 in
theorem floats_core (cur a high x g : Lab) (n : Int) (m : Int) (k : Int) (r : Bool) (s : Bool) (t : Bool) (sa : Addr) (w : World) (hh : Env sa w) (h0 : FloatIs sa cur a high x n) (h1 : RFloatIs cur a high x n) (h2 : SendIs sa cur a s m) (h3 : RSendIs cur a s m) (h4 : GainIs sa cur a g k) (h5 : RGainIs cur a g k) (h6 : ∀ W, (binOp .eql 24 (.agg #[.int .i64 x.lv, .int .u64 (u x.c), .int .i64 x.ig]) (.agg #[.int .i64 x.lv, .int .u64 (u x.c), .int .i64 x.ig])).run Tryd.prog W = .ok (.bool true) W) (h7 : ∀ W, (binOp .eql 24 (.agg #[.int .i64 g.lv, .int .u64 (u g.c), .int .i64 g.ig]) (.agg #[.int .i64 g.lv, .int .u64 (u g.c), .int .i64 g.ig])).run Tryd.prog W = .ok (.bool true) W) (h8 : ReadsIs cur a r) (h9 : RReadsIs cur a r) (h10 : WritesIs cur a t) (h11 : RWritesIs cur a t) :
    Calls Tryd.prog 6 #[.agg #[.int .i64 cur.lv, .int .u64 (u cur.c), .int .i64 cur.ig], .agg #[.int .i64 a.lv, .int .u64 (u a.c), .int .i64 a.ig], .agg #[.int .i64 high.lv, .int .u64 (u high.c), .int .i64 high.ig]] w (Yes w) := by
  have H0 := Lib.hid h0
  clear h0
  have H1 := Lib.hid h1
  clear h1
  have H2 := Lib.hid h2
  clear h2
  have H3 := Lib.hid h3
  clear h3
  have H4 := Lib.hid h4
  clear h4
  have H5 := Lib.hid h5
  clear h5
  have H8 := Lib.hid h8
  clear h8
  have H9 := Lib.hid h9
  clear h9
  have H10 := Lib.hid h10
  clear h10
  have H11 := Lib.hid h11
  clear h11
  have HH := Lib.hid hh
  clear hh
  have HB := Lib.hid (Below.refl w.heap.size w)
  go_enter Tryd.func6, Tryd.ntmps6
  go_wp2_with fail
  refine (shown_any sa _ (HH.out.up (by repeat (first | exact HB.out | refine below_alloc ?_ _ | refine Below.drew ?_ | refine below_set ?_ (by omega) _)))).mono ?_
  rintro e w1 ⟨rfl, hB⟩
  replace HB := Lib.hid (below_call (w := w) (by repeat (first | exact HB.out | refine below_alloc ?_ _ | refine Below.drew ?_ | refine below_set ?_ (by omega) _)) hB)
  have z1 : w.heap.size ≤ w1.heap.size := HB.out.size
  have B0 : Hid (Blk w1 (w.heap.size) 24 #[.int .i64 cur.lv, .int .u64 (u cur.c), .int .i64 cur.ig]) := Lib.hid (Blk.after (by repeat (first | exact Blk.new' (by simp; done) | exact Blk.new' rfl | refine Blk.drew ?_ | refine Blk.alloc ?_ _)) hB)
  have B1 : Hid (Blk w1 (w.heap.size + 1) 24 #[.int .i64 a.lv, .int .u64 (u a.c), .int .i64 a.ig]) := Lib.hid (Blk.after (by repeat (first | exact Blk.new' (by simp; done) | exact Blk.new' rfl | refine Blk.drew ?_ | refine Blk.alloc ?_ _)) hB)
  have B2 : Hid (Blk w1 (w.heap.size + 1 + 1) 24 #[.int .i64 high.lv, .int .u64 (u high.c), .int .i64 high.ig]) := Lib.hid (Blk.after (by repeat (first | exact Blk.new' (by simp; done) | exact Blk.new' rfl | refine Blk.drew ?_ | refine Blk.alloc ?_ _)) hB)
  clear hB
  have p0_0 := B0.out.at_ (i := 0) (v := .int .i64 cur.lv) rfl
  have p0_1 := B0.out.at_ (i := 1) (v := .int .u64 (u cur.c)) rfl
  have p0_2 := B0.out.at_ (i := 2) (v := .int .i64 cur.ig) rfl
  have k0_0 : w.heap.size < w1.heap.size := by have := B0.out.lt; omega
  have p1_0 := B1.out.at_ (i := 0) (v := .int .i64 a.lv) rfl
  have p1_1 := B1.out.at_ (i := 1) (v := .int .u64 (u a.c)) rfl
  have p1_2 := B1.out.at_ (i := 2) (v := .int .i64 a.ig) rfl
  have k1_0 : w.heap.size + 1 < w1.heap.size := by have := B1.out.lt; omega
  have p2_0 := B2.out.at_ (i := 0) (v := .int .i64 high.lv) rfl
  have p2_1 := B2.out.at_ (i := 1) (v := .int .u64 (u high.c)) rfl
  have p2_2 := B2.out.at_ (i := 2) (v := .int .i64 high.ig) rfl
  have k2_0 : w.heap.size + 1 + 1 < w1.heap.size := by have := B2.out.lt; omega
  go_wp2_with fail
  refine (H0.out _ (HH.out.up (by repeat (first | exact HB.out | refine below_alloc ?_ _ | refine Below.drew ?_ | refine below_set ?_ (by omega) _)))).mono ?_
  rintro e w2 ⟨rfl, hB⟩
  replace HB := Lib.hid (below_call (w := w) (by repeat (first | exact HB.out | refine below_alloc ?_ _ | refine Below.drew ?_ | refine below_set ?_ (by omega) _)) hB)
  have z2 : w.heap.size ≤ w2.heap.size := HB.out.size
  replace B0 : Hid (Blk w2 (w.heap.size) 24 #[.int .i64 cur.lv, .int .u64 (u cur.c), .int .i64 cur.ig]) := Lib.hid (Blk.after (by repeat (first | exact B0.out | exact Blk.new' (by simp; done) | exact Blk.new' rfl | refine Blk.drew ?_ | refine Blk.alloc ?_ _)) hB)
  replace B1 : Hid (Blk w2 (w.heap.size + 1) 24 #[.int .i64 a.lv, .int .u64 (u a.c), .int .i64 a.ig]) := Lib.hid (Blk.after (by repeat (first | exact B1.out | exact Blk.new' (by simp; done) | exact Blk.new' rfl | refine Blk.drew ?_ | refine Blk.alloc ?_ _)) hB)
  replace B2 : Hid (Blk w2 (w.heap.size + 1 + 1) 24 #[.int .i64 high.lv, .int .u64 (u high.c), .int .i64 high.ig]) := Lib.hid (Blk.after (by repeat (first | exact B2.out | exact Blk.new' (by simp; done) | exact Blk.new' rfl | refine Blk.drew ?_ | refine Blk.alloc ?_ _)) hB)
  clear p0_0 p0_1 p0_2 k0_0 p1_0 p1_1 p1_2 k1_0 p2_0 p2_1 p2_2 k2_0
  clear hB
  have p0_0 := B0.out.at_ (i := 0) (v := .int .i64 cur.lv) rfl
  have p0_1 := B0.out.at_ (i := 1) (v := .int .u64 (u cur.c)) rfl
  have p0_2 := B0.out.at_ (i := 2) (v := .int .i64 cur.ig) rfl
  have k0_0 : w.heap.size < w2.heap.size := by have := B0.out.lt; omega
  have k0_1 : w.heap.size < w2.heap.size + 1 := by have := B0.out.lt; omega
  have p1_0 := B1.out.at_ (i := 0) (v := .int .i64 a.lv) rfl
  have p1_1 := B1.out.at_ (i := 1) (v := .int .u64 (u a.c)) rfl
  have p1_2 := B1.out.at_ (i := 2) (v := .int .i64 a.ig) rfl
  have k1_0 : w.heap.size + 1 < w2.heap.size := by have := B1.out.lt; omega
  have k1_1 : w.heap.size + 1 < w2.heap.size + 1 := by have := B1.out.lt; omega
  have p2_0 := B2.out.at_ (i := 0) (v := .int .i64 high.lv) rfl
  have p2_1 := B2.out.at_ (i := 1) (v := .int .u64 (u high.c)) rfl
  have p2_2 := B2.out.at_ (i := 2) (v := .int .i64 high.ig) rfl
  have k2_0 : w.heap.size + 1 + 1 < w2.heap.size := by have := B2.out.lt; omega
  have k2_1 : w.heap.size + 1 + 1 < w2.heap.size + 1 := by have := B2.out.lt; omega
  go_wp2_with fail
  refine (H1.out _).mono ?_
  rintro e w3 ⟨rfl, hB⟩
  replace HB := Lib.hid (below_call (w := w) (by repeat (first | exact HB.out | refine below_alloc ?_ _ | refine Below.drew ?_ | refine below_set ?_ (by omega) _)) hB)
  have z3 : w.heap.size ≤ w3.heap.size := HB.out.size
  replace B0 : Hid (Blk w3 (w.heap.size) 24 #[.int .i64 cur.lv, .int .u64 (u cur.c), .int .i64 cur.ig]) := Lib.hid (Blk.after (by repeat (first | exact B0.out | exact Blk.new' (by simp; done) | exact Blk.new' rfl | refine Blk.drew ?_ | refine Blk.alloc ?_ _)) hB)
  replace B1 : Hid (Blk w3 (w.heap.size + 1) 24 #[.int .i64 a.lv, .int .u64 (u a.c), .int .i64 a.ig]) := Lib.hid (Blk.after (by repeat (first | exact B1.out | exact Blk.new' (by simp; done) | exact Blk.new' rfl | refine Blk.drew ?_ | refine Blk.alloc ?_ _)) hB)
  have B3 : Hid (Blk w3 (w2.heap.size) 24 #[.int .i64 x.lv, .int .u64 (u x.c), .int .i64 x.ig]) := Lib.hid (Blk.after (by repeat (first | exact Blk.new' (by simp; done) | exact Blk.new' rfl | refine Blk.drew ?_ | refine Blk.alloc ?_ _)) hB)
  clear p0_0 p0_1 p0_2 k0_0 k0_1 p1_0 p1_1 p1_2 k1_0 k1_1 p2_0 p2_1 p2_2 k2_0 k2_1
  clear hB
  have p0_0 := B0.out.at_ (i := 0) (v := .int .i64 cur.lv) rfl
  have p0_1 := B0.out.at_ (i := 1) (v := .int .u64 (u cur.c)) rfl
  have p0_2 := B0.out.at_ (i := 2) (v := .int .i64 cur.ig) rfl
  have k0_0 : w.heap.size < w3.heap.size := by have := B0.out.lt; omega
  have k0_1 : w.heap.size < w3.heap.size + 1 := by have := B0.out.lt; omega
  have p1_0 := B1.out.at_ (i := 0) (v := .int .i64 a.lv) rfl
  have p1_1 := B1.out.at_ (i := 1) (v := .int .u64 (u a.c)) rfl
  have p1_2 := B1.out.at_ (i := 2) (v := .int .i64 a.ig) rfl
  have k1_0 : w.heap.size + 1 < w3.heap.size := by have := B1.out.lt; omega
  have k1_1 : w.heap.size + 1 < w3.heap.size + 1 := by have := B1.out.lt; omega
  go_wp2_with fail
  refine (H2.out _ (HH.out.up (by repeat (first | exact HB.out | refine below_alloc ?_ _ | refine Below.drew ?_ | refine below_set ?_ (by omega) _)))).mono ?_
  rintro e w4 ⟨rfl, hB⟩
  replace HB := Lib.hid (below_call (w := w) (by repeat (first | exact HB.out | refine below_alloc ?_ _ | refine Below.drew ?_ | refine below_set ?_ (by omega) _)) hB)
  have z4 : w.heap.size ≤ w4.heap.size := HB.out.size
  replace B0 : Hid (Blk w4 (w.heap.size) 24 #[.int .i64 cur.lv, .int .u64 (u cur.c), .int .i64 cur.ig]) := Lib.hid (Blk.after (by repeat (first | exact B0.out | exact Blk.new' (by simp; done) | exact Blk.new' rfl | refine Blk.drew ?_ | refine Blk.alloc ?_ _)) hB)
  replace B1 : Hid (Blk w4 (w.heap.size + 1) 24 #[.int .i64 a.lv, .int .u64 (u a.c), .int .i64 a.ig]) := Lib.hid (Blk.after (by repeat (first | exact B1.out | exact Blk.new' (by simp; done) | exact Blk.new' rfl | refine Blk.drew ?_ | refine Blk.alloc ?_ _)) hB)
  replace B3 : Hid (Blk w4 (w2.heap.size) 24 #[.int .i64 x.lv, .int .u64 (u x.c), .int .i64 x.ig]) := Lib.hid (Blk.after (by repeat (first | exact B3.out | exact Blk.new' (by simp; done) | exact Blk.new' rfl | refine Blk.drew ?_ | refine Blk.alloc ?_ _)) hB)
  have B4 : Hid (Blk w4 (w3.heap.size) 24 #[.int .i64 x.lv, .int .u64 (u x.c), .int .i64 x.ig]) := Lib.hid (Blk.after (by repeat (first | exact Blk.new' (by simp; done) | exact Blk.new' rfl | refine Blk.drew ?_ | refine Blk.alloc ?_ _)) hB)
  clear p0_0 p0_1 p0_2 k0_0 k0_1 p1_0 p1_1 p1_2 k1_0 k1_1
  clear hB
  have p0_0 := B0.out.at_ (i := 0) (v := .int .i64 cur.lv) rfl
  have p0_1 := B0.out.at_ (i := 1) (v := .int .u64 (u cur.c)) rfl
  have p0_2 := B0.out.at_ (i := 2) (v := .int .i64 cur.ig) rfl
  have k0_0 : w.heap.size < w4.heap.size := by have := B0.out.lt; omega
  have p1_0 := B1.out.at_ (i := 0) (v := .int .i64 a.lv) rfl
  have p1_1 := B1.out.at_ (i := 1) (v := .int .u64 (u a.c)) rfl
  have p1_2 := B1.out.at_ (i := 2) (v := .int .i64 a.ig) rfl
  have k1_0 : w.heap.size + 1 < w4.heap.size := by have := B1.out.lt; omega
  go_wp2_with fail
  refine (H3.out _).mono ?_
  rintro e w5 ⟨rfl, hB⟩
  replace HB := Lib.hid (below_call (w := w) (by repeat (first | exact HB.out | refine below_alloc ?_ _ | refine Below.drew ?_ | refine below_set ?_ (by omega) _)) hB)
  have z5 : w.heap.size ≤ w5.heap.size := HB.out.size
  replace B0 : Hid (Blk w5 (w.heap.size) 24 #[.int .i64 cur.lv, .int .u64 (u cur.c), .int .i64 cur.ig]) := Lib.hid (Blk.after (by repeat (first | exact B0.out | exact Blk.new' (by simp; done) | exact Blk.new' rfl | refine Blk.drew ?_ | refine Blk.alloc ?_ _)) hB)
  replace B1 : Hid (Blk w5 (w.heap.size + 1) 24 #[.int .i64 a.lv, .int .u64 (u a.c), .int .i64 a.ig]) := Lib.hid (Blk.after (by repeat (first | exact B1.out | exact Blk.new' (by simp; done) | exact Blk.new' rfl | refine Blk.drew ?_ | refine Blk.alloc ?_ _)) hB)
  replace B3 : Hid (Blk w5 (w2.heap.size) 24 #[.int .i64 x.lv, .int .u64 (u x.c), .int .i64 x.ig]) := Lib.hid (Blk.after (by repeat (first | exact B3.out | exact Blk.new' (by simp; done) | exact Blk.new' rfl | refine Blk.drew ?_ | refine Blk.alloc ?_ _)) hB)
  replace B4 : Hid (Blk w5 (w3.heap.size) 24 #[.int .i64 x.lv, .int .u64 (u x.c), .int .i64 x.ig]) := Lib.hid (Blk.after (by repeat (first | exact B4.out | exact Blk.new' (by simp; done) | exact Blk.new' rfl | refine Blk.drew ?_ | refine Blk.alloc ?_ _)) hB)
  clear p0_0 p0_1 p0_2 k0_0 p1_0 p1_1 p1_2 k1_0
  clear hB
  have p0_0 := B0.out.at_ (i := 0) (v := .int .i64 cur.lv) rfl
  have p0_1 := B0.out.at_ (i := 1) (v := .int .u64 (u cur.c)) rfl
  have p0_2 := B0.out.at_ (i := 2) (v := .int .i64 cur.ig) rfl
  have k0_0 : w.heap.size < w5.heap.size := by have := B0.out.lt; omega
  have p1_0 := B1.out.at_ (i := 0) (v := .int .i64 a.lv) rfl
  have p1_1 := B1.out.at_ (i := 1) (v := .int .u64 (u a.c)) rfl
  have p1_2 := B1.out.at_ (i := 2) (v := .int .i64 a.ig) rfl
  have k1_0 : w.heap.size + 1 < w5.heap.size := by have := B1.out.lt; omega
  go_wp2_with fail
  refine (H4.out _ (HH.out.up (by repeat (first | exact HB.out | refine below_alloc ?_ _ | refine Below.drew ?_ | refine below_set ?_ (by omega) _)))).mono ?_
  rintro e w6 ⟨rfl, hB⟩
  replace HB := Lib.hid (below_call (w := w) (by repeat (first | exact HB.out | refine below_alloc ?_ _ | refine Below.drew ?_ | refine below_set ?_ (by omega) _)) hB)
  have z6 : w.heap.size ≤ w6.heap.size := HB.out.size
  replace B0 : Hid (Blk w6 (w.heap.size) 24 #[.int .i64 cur.lv, .int .u64 (u cur.c), .int .i64 cur.ig]) := Lib.hid (Blk.after (by repeat (first | exact B0.out | exact Blk.new' (by simp; done) | exact Blk.new' rfl | refine Blk.drew ?_ | refine Blk.alloc ?_ _)) hB)
  replace B1 : Hid (Blk w6 (w.heap.size + 1) 24 #[.int .i64 a.lv, .int .u64 (u a.c), .int .i64 a.ig]) := Lib.hid (Blk.after (by repeat (first | exact B1.out | exact Blk.new' (by simp; done) | exact Blk.new' rfl | refine Blk.drew ?_ | refine Blk.alloc ?_ _)) hB)
  replace B3 : Hid (Blk w6 (w2.heap.size) 24 #[.int .i64 x.lv, .int .u64 (u x.c), .int .i64 x.ig]) := Lib.hid (Blk.after (by repeat (first | exact B3.out | exact Blk.new' (by simp; done) | exact Blk.new' rfl | refine Blk.drew ?_ | refine Blk.alloc ?_ _)) hB)
  replace B4 : Hid (Blk w6 (w3.heap.size) 24 #[.int .i64 x.lv, .int .u64 (u x.c), .int .i64 x.ig]) := Lib.hid (Blk.after (by repeat (first | exact B4.out | exact Blk.new' (by simp; done) | exact Blk.new' rfl | refine Blk.drew ?_ | refine Blk.alloc ?_ _)) hB)
  clear p0_0 p0_1 p0_2 k0_0 p1_0 p1_1 p1_2 k1_0
  clear hB
  have p0_0 := B0.out.at_ (i := 0) (v := .int .i64 cur.lv) rfl
  have p0_1 := B0.out.at_ (i := 1) (v := .int .u64 (u cur.c)) rfl
  have p0_2 := B0.out.at_ (i := 2) (v := .int .i64 cur.ig) rfl
  have k0_0 : w.heap.size < w6.heap.size := by have := B0.out.lt; omega
  have k0_1 : w.heap.size < w6.heap.size + 1 := by have := B0.out.lt; omega
  have p1_0 := B1.out.at_ (i := 0) (v := .int .i64 a.lv) rfl
  have p1_1 := B1.out.at_ (i := 1) (v := .int .u64 (u a.c)) rfl
  have p1_2 := B1.out.at_ (i := 2) (v := .int .i64 a.ig) rfl
  have k1_0 : w.heap.size + 1 < w6.heap.size := by have := B1.out.lt; omega
  have k1_1 : w.heap.size + 1 < w6.heap.size + 1 := by have := B1.out.lt; omega
  go_wp2_with fail
  refine (H5.out _).mono ?_
  rintro e w7 ⟨rfl, hB⟩
  replace HB := Lib.hid (below_call (w := w) (by repeat (first | exact HB.out | refine below_alloc ?_ _ | refine Below.drew ?_ | refine below_set ?_ (by omega) _)) hB)
  have z7 : w.heap.size ≤ w7.heap.size := HB.out.size
  replace B0 : Hid (Blk w7 (w.heap.size) 24 #[.int .i64 cur.lv, .int .u64 (u cur.c), .int .i64 cur.ig]) := Lib.hid (Blk.after (by repeat (first | exact B0.out | exact Blk.new' (by simp; done) | exact Blk.new' rfl | refine Blk.drew ?_ | refine Blk.alloc ?_ _)) hB)
  replace B1 : Hid (Blk w7 (w.heap.size + 1) 24 #[.int .i64 a.lv, .int .u64 (u a.c), .int .i64 a.ig]) := Lib.hid (Blk.after (by repeat (first | exact B1.out | exact Blk.new' (by simp; done) | exact Blk.new' rfl | refine Blk.drew ?_ | refine Blk.alloc ?_ _)) hB)
  replace B3 : Hid (Blk w7 (w2.heap.size) 24 #[.int .i64 x.lv, .int .u64 (u x.c), .int .i64 x.ig]) := Lib.hid (Blk.after (by repeat (first | exact B3.out | exact Blk.new' (by simp; done) | exact Blk.new' rfl | refine Blk.drew ?_ | refine Blk.alloc ?_ _)) hB)
  replace B4 : Hid (Blk w7 (w3.heap.size) 24 #[.int .i64 x.lv, .int .u64 (u x.c), .int .i64 x.ig]) := Lib.hid (Blk.after (by repeat (first | exact B4.out | exact Blk.new' (by simp; done) | exact Blk.new' rfl | refine Blk.drew ?_ | refine Blk.alloc ?_ _)) hB)
  have B5 : Hid (Blk w7 (w6.heap.size) 24 #[.int .i64 g.lv, .int .u64 (u g.c), .int .i64 g.ig]) := Lib.hid (Blk.after (by repeat (first | exact Blk.new' (by simp; done) | exact Blk.new' rfl | refine Blk.drew ?_ | refine Blk.alloc ?_ _)) hB)
  clear p0_0 p0_1 p0_2 k0_0 k0_1 p1_0 p1_1 p1_2 k1_0 k1_1
  clear hB
  go_wp2_with fail
  refine wp_region_gen (S := (fun W' => Blk W' (w.heap.size) 24 #[.int .i64 cur.lv, .int .u64 (u cur.c), .int .i64 cur.ig] ∧ Blk W' (w.heap.size + 1) 24 #[.int .i64 a.lv, .int .u64 (u a.c), .int .i64 a.ig] ∧ Blk W' (w2.heap.size) 24 #[.int .i64 x.lv, .int .u64 (u x.c), .int .i64 x.ig] ∧ Blk W' (w3.heap.size) 24 #[.int .i64 x.lv, .int .u64 (u x.c), .int .i64 x.ig] ∧ Blk W' (w6.heap.size) 24 #[.int .i64 g.lv, .int .u64 (u g.c), .int .i64 g.ig] ∧ Blk W' (w7.heap.size) 24 #[.int .i64 g.lv, .int .u64 (u g.c), .int .i64 g.ig] ∧ Below w.heap.size w W')) (by kernel_rfl) ⟨(by repeat (first | exact B0.out | exact Blk.new' (by simp; done) | exact Blk.new' rfl | refine Blk.drew ?_ | refine Blk.alloc ?_ _)), (by repeat (first | exact B1.out | exact Blk.new' (by simp; done) | exact Blk.new' rfl | refine Blk.drew ?_ | refine Blk.alloc ?_ _)), (by repeat (first | exact B3.out | exact Blk.new' (by simp; done) | exact Blk.new' rfl | refine Blk.drew ?_ | refine Blk.alloc ?_ _)), (by repeat (first | exact B4.out | exact Blk.new' (by simp; done) | exact Blk.new' rfl | refine Blk.drew ?_ | refine Blk.alloc ?_ _)), (by repeat (first | exact B5.out | exact Blk.new' (by simp; done) | exact Blk.new' rfl | refine Blk.drew ?_ | refine Blk.alloc ?_ _)), (by repeat (first | exact Blk.new' (by simp; done) | exact Blk.new' rfl | refine Blk.drew ?_ | refine Blk.alloc ?_ _)), (by repeat (first | exact HB.out | refine below_alloc ?_ _ | refine Below.drew ?_ | refine below_set ?_ (by omega) _))⟩ (fun w8 hS => ?_)
  refine wpAnyH_take (i := 0) (v := ?_) (op_at rfl) (by kernel_rfl) (by kernel_rfl) (by kernel_rfl) (fun _ _ _ h => h) (Or.inl ⟨by rfl, ?_⟩) hS ?_; rotate_left; focus ((intro w' hSw; clear hSw; go_simp) <;> with_reducible rfl)
  try simp only [Act.put, List.setIfInBounds_toArray, List.set_cons_zero, List.set_cons_succ]
  refine wpAnyH_take (i := 1) (v := ?_) (op_at rfl) (by kernel_rfl) (by kernel_rfl) (by kernel_rfl) (fun _ _ _ h => h) (Or.inl ⟨by rfl, ?_⟩) hS ?_; rotate_left; focus ((intro w' hSw; clear hSw; go_simp) <;> with_reducible rfl)
  try simp only [Act.put, List.setIfInBounds_toArray, List.set_cons_zero, List.set_cons_succ]
  refine wpAnyH_take (i := 2) (v := ?_) (op_at rfl) (by kernel_rfl) (by kernel_rfl) (by kernel_rfl) (fun _ _ _ h => h) (Or.inl ⟨by rfl, ?_⟩) hS ?_; rotate_left; focus ((intro w' hSw; obtain ⟨-, -, q, -⟩ := hSw; have c0 := q.at_ (i := 0) (v := .int .i64 x.lv) rfl; have c1 := q.at_ (i := 1) (v := .int .u64 (u x.c)) rfl; have c2 := q.at_ (i := 2) (v := .int .i64 x.ig) rfl; clear q; go_simp) <;> with_reducible rfl)
  try simp only [Act.put, List.setIfInBounds_toArray, List.set_cons_zero, List.set_cons_succ]
  refine wpAnyH_take (i := 3) (v := ?_) (op_at rfl) (by kernel_rfl) (by kernel_rfl) (by kernel_rfl) (fun _ _ _ h => h) (Or.inl ⟨by rfl, ?_⟩) hS ?_; rotate_left; focus ((intro w' hSw; obtain ⟨-, -, -, q, -⟩ := hSw; have c0 := q.at_ (i := 0) (v := .int .i64 x.lv) rfl; have c1 := q.at_ (i := 1) (v := .int .u64 (u x.c)) rfl; have c2 := q.at_ (i := 2) (v := .int .i64 x.ig) rfl; clear q; go_simp) <;> with_reducible rfl)
  try simp only [Act.put, List.setIfInBounds_toArray, List.set_cons_zero, List.set_cons_succ]
  refine wpAnyH_take (i := 4) (v := ?_) (op_at rfl) (by kernel_rfl) (by kernel_rfl) (by kernel_rfl) (fun _ _ _ h => h) (Or.inl ⟨by rfl, ?_⟩) hS ?_; rotate_left; focus ((intro w' hSw; clear hSw; go_simp) <;> with_reducible rfl)
  try simp only [Act.put, List.setIfInBounds_toArray, List.set_cons_zero, List.set_cons_succ]
  refine wpAnyH_take (i := 5) (v := ?_) (op_at rfl) (by kernel_rfl) (by kernel_rfl) (by kernel_rfl) (fun _ _ _ h => h) (Or.inl ⟨by rfl, ?_⟩) hS ?_; rotate_left; focus ((intro w' hSw; clear hSw; go_simp) <;> with_reducible rfl)
  try simp only [Act.put, List.setIfInBounds_toArray, List.set_cons_zero, List.set_cons_succ]
  refine wpAnyH_take (i := 6) (v := ?_) (op_at rfl) (by kernel_rfl) (by kernel_rfl) (by kernel_rfl) (fun _ _ _ h => h) (Or.inl ⟨by rfl, ?_⟩) hS ?_; rotate_left; focus ((intro w' hSw; clear hSw; go_simp) <;> with_reducible rfl)
  try simp only [Act.put, List.setIfInBounds_toArray, List.set_cons_zero, List.set_cons_succ]
  refine wpAnyH_take (i := 7) (v := ?_) (op_at rfl) (by kernel_rfl) (by kernel_rfl) (by kernel_rfl) (fun _ _ _ h => h) (Or.inl ⟨by rfl, ?_⟩) hS ?_; rotate_left; focus ((intro w' hSw; clear hSw; go_simp) <;> with_reducible rfl)
  try simp only [Act.put, List.setIfInBounds_toArray, List.set_cons_zero, List.set_cons_succ]
  refine wpAnyH_take (i := 8) (v := ?_) (op_at rfl) (by kernel_rfl) (by kernel_rfl) (by kernel_rfl) (fun _ _ _ h => h) (Or.inl ⟨by rfl, ?_⟩) hS ?_; rotate_left; focus ((intro w' hSw; clear hSw; go_simp) <;> with_reducible rfl)
  try simp only [Act.put, List.setIfInBounds_toArray, List.set_cons_zero, List.set_cons_succ]
  refine wpAnyH_take (i := 9) (v := ?_) (op_at rfl) (by kernel_rfl) (by kernel_rfl) (by kernel_rfl) (fun _ _ _ h => h) (Or.inl ⟨by rfl, ?_⟩) hS ?_; rotate_left; focus ((intro w' hSw; clear hSw; go_simp) <;> with_reducible rfl)
  try simp only [Act.put, List.setIfInBounds_toArray, List.set_cons_zero, List.set_cons_succ]
  refine wpAnyH_take (i := 10) (v := ?_) (op_at rfl) (by kernel_rfl) (by kernel_rfl) (by kernel_rfl) (fun _ _ _ h => h) (Or.inl ⟨by rfl, ?_⟩) hS ?_; rotate_left; focus ((intro w' hSw; clear hSw; go_simp) <;> with_reducible rfl)
  try simp only [Act.put, List.setIfInBounds_toArray, List.set_cons_zero, List.set_cons_succ]
  refine wpAnyH_take (i := 11) (v := ?_) (op_at rfl) (by kernel_rfl) (by kernel_rfl) (by kernel_rfl) (fun _ _ _ h => h) (Or.inl ⟨by rfl, ?_⟩) hS ?_; rotate_left; focus ((intro w' hSw; clear hSw; go_simp) <;> with_reducible rfl)
  try simp only [Act.put, List.setIfInBounds_toArray, List.set_cons_zero, List.set_cons_succ]
  refine wpAnyH_take (i := 12) (v := ?_) (op_at rfl) (by kernel_rfl) (by kernel_rfl) (by kernel_rfl) (fun _ _ _ h => h) (Or.inl ⟨by rfl, ?_⟩) hS ?_; rotate_left; focus ((intro w' hSw; clear hSw; go_simp) <;> with_reducible rfl)
  try simp only [Act.put, List.setIfInBounds_toArray, List.set_cons_zero, List.set_cons_succ]
  refine wpAnyH_take (i := 13) (v := ?_) (op_at rfl) (by kernel_rfl) (by kernel_rfl) (by kernel_rfl) (fun _ _ _ h => h) (Or.inl ⟨by rfl, ?_⟩) hS ?_; rotate_left; focus ((intro w' hSw; clear hSw; go_simp) <;> with_reducible rfl)
  try simp only [Act.put, List.setIfInBounds_toArray, List.set_cons_zero, List.set_cons_succ]
  refine wpAnyH_take (i := 14) (v := ?_) (op_at rfl) (by kernel_rfl) (by kernel_rfl) (by kernel_rfl) (fun _ _ _ h => h) (Or.inl ⟨by rfl, ?_⟩) hS ?_; rotate_left; focus ((intro w' hSw; clear hSw; go_simp) <;> with_reducible rfl)
  try simp only [Act.put, List.setIfInBounds_toArray, List.set_cons_zero, List.set_cons_succ]
  refine wpAnyH_take (i := 15) (v := ?_) (op_at rfl) (by kernel_rfl) (by kernel_rfl) (by kernel_rfl) (fun _ _ _ h => h) (Or.inl ⟨by rfl, ?_⟩) hS ?_; rotate_left; focus ((intro w' hSw; clear hSw; go_simp) <;> with_reducible rfl)
  try simp only [Act.put, List.setIfInBounds_toArray, List.set_cons_zero, List.set_cons_succ]
  refine wpAnyH_take (i := 16) (v := ?_) (op_at rfl) (by kernel_rfl) (by kernel_rfl) (by kernel_rfl) (fun _ _ _ h => h) (Or.inl ⟨by rfl, ?_⟩) hS ?_; rotate_left; focus ((intro w' hSw; clear hSw; go_simp) <;> with_reducible rfl)
  try simp only [Act.put, List.setIfInBounds_toArray, List.set_cons_zero, List.set_cons_succ]
  refine wpAnyH_take (i := 17) (v := ?_) (op_at rfl) (by kernel_rfl) (by kernel_rfl) (by kernel_rfl) (fun _ _ _ h => h) (Or.inl ⟨by rfl, ?_⟩) hS ?_; rotate_left; focus ((intro w' hSw; clear hSw; go_simp) <;> with_reducible rfl)
  try simp only [Act.put, List.setIfInBounds_toArray, List.set_cons_zero, List.set_cons_succ]
  refine wpAnyH_take (i := 18) (v := ?_) (op_at rfl) (by kernel_rfl) (by kernel_rfl) (by kernel_rfl) (fun _ _ _ h => h) (Or.inl ⟨by rfl, ?_⟩) hS ?_; rotate_left; focus ((intro w' hSw; clear hSw; go_simp) <;> with_reducible rfl)
  try simp only [Act.put, List.setIfInBounds_toArray, List.set_cons_zero, List.set_cons_succ]
  refine wpAnyH_take (i := 19) (v := ?_) (op_at rfl) (by kernel_rfl) (by kernel_rfl) (by kernel_rfl) (fun _ _ _ h => h) (Or.inl ⟨by rfl, ?_⟩) hS ?_; rotate_left; focus ((intro w' hSw; clear hSw; go_simp) <;> with_reducible rfl)
  try simp only [Act.put, List.setIfInBounds_toArray, List.set_cons_zero, List.set_cons_succ]
  refine wpAnyH_take (i := 20) (v := ?_) (op_at rfl) (by kernel_rfl) (by kernel_rfl) (by kernel_rfl) (fun _ _ _ h => h) (Or.inl ⟨by rfl, ?_⟩) hS ?_; rotate_left; focus ((intro w' hSw; clear hSw; go_simp) <;> with_reducible rfl)
  try simp only [Act.put, List.setIfInBounds_toArray, List.set_cons_zero, List.set_cons_succ]
  refine wpAnyH_take (i := 21) (v := ?_) (op_at rfl) (by kernel_rfl) (by kernel_rfl) (by kernel_rfl) (fun _ _ _ h => h) (Or.inl ⟨by rfl, ?_⟩) hS ?_; rotate_left; focus ((intro w' hSw; clear hSw; go_simp) <;> with_reducible rfl)
  try simp only [Act.put, List.setIfInBounds_toArray, List.set_cons_zero, List.set_cons_succ]
  refine wpAnyH_take (i := 22) (v := ?_) (op_at rfl) (by kernel_rfl) (by kernel_rfl) (by kernel_rfl) (fun _ _ _ h => h) (Or.inl ⟨by rfl, ?_⟩) hS ?_; rotate_left; focus ((intro w' hSw; obtain ⟨-, -, -, -, q, -⟩ := hSw; have c0 := q.at_ (i := 0) (v := .int .i64 g.lv) rfl; have c1 := q.at_ (i := 1) (v := .int .u64 (u g.c)) rfl; have c2 := q.at_ (i := 2) (v := .int .i64 g.ig) rfl; clear q; go_simp) <;> with_reducible rfl)
  try simp only [Act.put, List.setIfInBounds_toArray, List.set_cons_zero, List.set_cons_succ]
  refine wpAnyH_take (i := 23) (v := ?_) (op_at rfl) (by kernel_rfl) (by kernel_rfl) (by kernel_rfl) (fun _ _ _ h => h) (Or.inl ⟨by rfl, ?_⟩) hS ?_; rotate_left; focus ((intro w' hSw; obtain ⟨-, -, -, -, -, q, -⟩ := hSw; have c0 := q.at_ (i := 0) (v := .int .i64 g.lv) rfl; have c1 := q.at_ (i := 1) (v := .int .u64 (u g.c)) rfl; have c2 := q.at_ (i := 2) (v := .int .i64 g.ig) rfl; clear q; go_simp) <;> with_reducible rfl)
  try simp only [Act.put, List.setIfInBounds_toArray, List.set_cons_zero, List.set_cons_succ]
  refine wpAnyH_take (i := 24) (v := ?_) (op_at rfl) (by kernel_rfl) (by kernel_rfl) (by kernel_rfl) (fun _ _ _ h => h) (Or.inl ⟨by rfl, ?_⟩) hS ?_; rotate_left; focus ((intro w' hSw; clear hSw; go_simp) <;> with_reducible rfl)
  try simp only [Act.put, List.setIfInBounds_toArray, List.set_cons_zero, List.set_cons_succ]
  refine wpAnyH_take (i := 25) (v := ?_) (op_at rfl) (by kernel_rfl) (by kernel_rfl) (by kernel_rfl) (fun _ _ _ h => h) (Or.inl ⟨by rfl, ?_⟩) hS ?_; rotate_left; focus ((intro w' hSw; clear hSw; go_simp) <;> with_reducible rfl)
  try simp only [Act.put, List.setIfInBounds_toArray, List.set_cons_zero, List.set_cons_succ]
  refine wpAnyH_take (i := 26) (v := ?_) (op_at rfl) (by kernel_rfl) (by kernel_rfl) (by kernel_rfl) (fun _ _ _ h => h) (Or.inl ⟨by rfl, ?_⟩) hS ?_; rotate_left; focus ((intro w' hSw; clear hSw; go_simp) <;> with_reducible rfl)
  try simp only [Act.put, List.setIfInBounds_toArray, List.set_cons_zero, List.set_cons_succ]
  refine wpAnyH_take (i := 27) (v := ?_) (op_at rfl) (by kernel_rfl) (by kernel_rfl) (by kernel_rfl) (fun _ _ _ h => h) (Or.inl ⟨by rfl, ?_⟩) hS ?_; rotate_left; focus ((intro w' hSw; clear hSw; go_simp) <;> with_reducible rfl)
  try simp only [Act.put, List.setIfInBounds_toArray, List.set_cons_zero, List.set_cons_succ]
  refine wpAnyH_take (i := 28) (v := ?_) (op_at rfl) (by kernel_rfl) (by kernel_rfl) (by kernel_rfl) (fun _ _ _ h => h) (Or.inl ⟨by rfl, ?_⟩) hS ?_; rotate_left; focus ((intro w' hSw; clear hSw; go_simp) <;> with_reducible rfl)
  try simp only [Act.put, List.setIfInBounds_toArray, List.set_cons_zero, List.set_cons_succ]
  refine wpAnyH_take (i := 29) (v := ?_) (op_at rfl) (by kernel_rfl) (by kernel_rfl) (by kernel_rfl) (fun _ _ _ h => h) (Or.inl ⟨by rfl, ?_⟩) hS ?_; rotate_left; focus ((intro w' hSw; clear hSw; go_simp) <;> with_reducible rfl)
  try simp only [Act.put, List.setIfInBounds_toArray, List.set_cons_zero, List.set_cons_succ]
  refine wpAnyH_take (i := 30) (v := ?_) (op_at rfl) (by kernel_rfl) (by kernel_rfl) (by kernel_rfl) (fun _ _ _ h => h) (Or.inl ⟨by rfl, ?_⟩) hS ?_; rotate_left; focus ((intro w' hSw; clear hSw; go_simp) <;> with_reducible rfl)
  try simp only [Act.put, List.setIfInBounds_toArray, List.set_cons_zero, List.set_cons_succ]
  refine wpAnyH_take (i := 31) (v := ?_) (op_at rfl) (by kernel_rfl) (by kernel_rfl) (by kernel_rfl) (fun _ _ _ h => h) (Or.inl ⟨by rfl, ?_⟩) hS ?_; rotate_left; focus ((intro w' hSw; clear hSw; go_simp) <;> with_reducible rfl)
  try simp only [Act.put, List.setIfInBounds_toArray, List.set_cons_zero, List.set_cons_succ]
  refine wpAnyH_take (i := 32) (v := ?_) (op_at rfl) (by kernel_rfl) (by kernel_rfl) (by kernel_rfl) (fun _ _ _ h => h) (Or.inl ⟨by rfl, ?_⟩) hS ?_; rotate_left; focus ((intro w' hSw; obtain ⟨q, -⟩ := hSw; have c0 := q.at_ (i := 0) (v := .int .i64 cur.lv) rfl; have c1 := q.at_ (i := 1) (v := .int .u64 (u cur.c)) rfl; have c2 := q.at_ (i := 2) (v := .int .i64 cur.ig) rfl; clear q; go_simp) <;> with_reducible rfl)
  try simp only [Act.put, List.setIfInBounds_toArray, List.set_cons_zero, List.set_cons_succ]
  refine wpAnyH_take (i := 33) (v := ?_) (op_at rfl) (by kernel_rfl) (by kernel_rfl) (by kernel_rfl) (fun _ _ _ h => h) (Or.inl ⟨by rfl, ?_⟩) hS ?_; rotate_left; focus ((intro w' hSw; obtain ⟨-, q, -⟩ := hSw; have c0 := q.at_ (i := 0) (v := .int .i64 a.lv) rfl; have c1 := q.at_ (i := 1) (v := .int .u64 (u a.c)) rfl; have c2 := q.at_ (i := 2) (v := .int .i64 a.ig) rfl; clear q; go_simp) <;> with_reducible rfl)
  try simp only [Act.put, List.setIfInBounds_toArray, List.set_cons_zero, List.set_cons_succ]
  refine wpAnyH_take (i := 35) (v := ?_) (op_at rfl) (by kernel_rfl) (by kernel_rfl) (by kernel_rfl) (fun _ _ _ h => h) (Or.inl ⟨by rfl, ?_⟩) hS ?_; rotate_left; focus ((intro w' hSw; obtain ⟨q, -⟩ := hSw; have c0 := q.at_ (i := 0) (v := .int .i64 cur.lv) rfl; have c1 := q.at_ (i := 1) (v := .int .u64 (u cur.c)) rfl; have c2 := q.at_ (i := 2) (v := .int .i64 cur.ig) rfl; clear q; go_simp) <;> with_reducible rfl)
  try simp only [Act.put, List.setIfInBounds_toArray, List.set_cons_zero, List.set_cons_succ]
  refine wpAnyH_take (i := 36) (v := ?_) (op_at rfl) (by kernel_rfl) (by kernel_rfl) (by kernel_rfl) (fun _ _ _ h => h) (Or.inl ⟨by rfl, ?_⟩) hS ?_; rotate_left; focus ((intro w' hSw; obtain ⟨-, q, -⟩ := hSw; have c0 := q.at_ (i := 0) (v := .int .i64 a.lv) rfl; have c1 := q.at_ (i := 1) (v := .int .u64 (u a.c)) rfl; have c2 := q.at_ (i := 2) (v := .int .i64 a.ig) rfl; clear q; go_simp) <;> with_reducible rfl)
  try simp only [Act.put, List.setIfInBounds_toArray, List.set_cons_zero, List.set_cons_succ]
  refine wpAnyH_ready (rs := [34]) (by kernel_rfl) (by simp) ?_
  refine (AllReadyH.cons (op_at rfl) (fun K hK => ?_) AllReadyH.nil)
  go_simp
  obtain ⟨b0, b1, b2, b3, b4, b5, hb⟩ := hS
  refine (H8.out _).mono ?_
  rintro e w9 ⟨rfl, hB⟩
  refine hK.out _ _ ⟨b0.after hB, b1.after hB, b2.after hB, b3.after hB, b4.after hB, b5.after hB, below_call hb hB⟩ (fun hS => ?_)
  clear hK K hB b0 b1 b2 b3 b4 b5 hb
  try simp only [Act.put, List.setIfInBounds_toArray, List.set_cons_zero, List.set_cons_succ]
  refine wpAnyH_ready (rs := [37]) (by kernel_rfl) (by simp) ?_
  refine (AllReadyH.cons (op_at rfl) (fun K hK => ?_) AllReadyH.nil)
  go_simp
  obtain ⟨b0, b1, b2, b3, b4, b5, hb⟩ := hS
  refine (H9.out _).mono ?_
  rintro e w10 ⟨rfl, hB⟩
  refine hK.out _ _ ⟨b0.after hB, b1.after hB, b2.after hB, b3.after hB, b4.after hB, b5.after hB, below_call hb hB⟩ (fun hS => ?_)
  clear hK K hB b0 b1 b2 b3 b4 b5 hb
  try simp only [Act.put, List.setIfInBounds_toArray, List.set_cons_zero, List.set_cons_succ]
  refine wpAnyH_take (i := 38) (v := ?_) (op_at rfl) (by kernel_rfl) (by kernel_rfl) (by kernel_rfl) (fun _ _ _ h => h) (Or.inl ⟨by rfl, ?_⟩) hS ?_; rotate_left; focus ((intro w' hSw; clear hSw; go_simp) <;> with_reducible rfl)
  try simp only [Act.put, List.setIfInBounds_toArray, List.set_cons_zero, List.set_cons_succ]
  refine wpAnyH_take (i := 39) (v := ?_) (op_at rfl) (by kernel_rfl) (by kernel_rfl) (by kernel_rfl) (fun _ _ _ h => h) (Or.inl ⟨by rfl, ?_⟩) hS ?_; rotate_left; focus ((intro w' hSw; clear hSw; go_simp) <;> with_reducible rfl)
  try simp only [Act.put, List.setIfInBounds_toArray, List.set_cons_zero, List.set_cons_succ]
  refine wpAnyH_take (i := 40) (v := ?_) (op_at rfl) (by kernel_rfl) (by kernel_rfl) (by kernel_rfl) (fun _ _ _ h => h) (Or.inl ⟨by rfl, ?_⟩) hS ?_; rotate_left; focus ((intro w' hSw; clear hSw; go_simp) <;> with_reducible rfl)
  try simp only [Act.put, List.setIfInBounds_toArray, List.set_cons_zero, List.set_cons_succ]
  refine wpAnyH_take (i := 41) (v := ?_) (op_at rfl) (by kernel_rfl) (by kernel_rfl) (by kernel_rfl) (fun _ _ _ h => h) (Or.inl ⟨by rfl, ?_⟩) hS ?_; rotate_left; focus ((intro w' hSw; obtain ⟨q, -⟩ := hSw; have c0 := q.at_ (i := 0) (v := .int .i64 cur.lv) rfl; have c1 := q.at_ (i := 1) (v := .int .u64 (u cur.c)) rfl; have c2 := q.at_ (i := 2) (v := .int .i64 cur.ig) rfl; clear q; go_simp) <;> with_reducible rfl)
  try simp only [Act.put, List.setIfInBounds_toArray, List.set_cons_zero, List.set_cons_succ]
  refine wpAnyH_take (i := 42) (v := ?_) (op_at rfl) (by kernel_rfl) (by kernel_rfl) (by kernel_rfl) (fun _ _ _ h => h) (Or.inl ⟨by rfl, ?_⟩) hS ?_; rotate_left; focus ((intro w' hSw; obtain ⟨-, q, -⟩ := hSw; have c0 := q.at_ (i := 0) (v := .int .i64 a.lv) rfl; have c1 := q.at_ (i := 1) (v := .int .u64 (u a.c)) rfl; have c2 := q.at_ (i := 2) (v := .int .i64 a.ig) rfl; clear q; go_simp) <;> with_reducible rfl)
  try simp only [Act.put, List.setIfInBounds_toArray, List.set_cons_zero, List.set_cons_succ]
  refine wpAnyH_take (i := 44) (v := ?_) (op_at rfl) (by kernel_rfl) (by kernel_rfl) (by kernel_rfl) (fun _ _ _ h => h) (Or.inl ⟨by rfl, ?_⟩) hS ?_; rotate_left; focus ((intro w' hSw; obtain ⟨q, -⟩ := hSw; have c0 := q.at_ (i := 0) (v := .int .i64 cur.lv) rfl; have c1 := q.at_ (i := 1) (v := .int .u64 (u cur.c)) rfl; have c2 := q.at_ (i := 2) (v := .int .i64 cur.ig) rfl; clear q; go_simp) <;> with_reducible rfl)
  try simp only [Act.put, List.setIfInBounds_toArray, List.set_cons_zero, List.set_cons_succ]
  refine wpAnyH_take (i := 45) (v := ?_) (op_at rfl) (by kernel_rfl) (by kernel_rfl) (by kernel_rfl) (fun _ _ _ h => h) (Or.inl ⟨by rfl, ?_⟩) hS ?_; rotate_left; focus ((intro w' hSw; obtain ⟨-, q, -⟩ := hSw; have c0 := q.at_ (i := 0) (v := .int .i64 a.lv) rfl; have c1 := q.at_ (i := 1) (v := .int .u64 (u a.c)) rfl; have c2 := q.at_ (i := 2) (v := .int .i64 a.ig) rfl; clear q; go_simp) <;> with_reducible rfl)
  try simp only [Act.put, List.setIfInBounds_toArray, List.set_cons_zero, List.set_cons_succ]
  refine wpAnyH_ready (rs := [43]) (by kernel_rfl) (by simp) ?_
  refine (AllReadyH.cons (op_at rfl) (fun K hK => ?_) AllReadyH.nil)
  go_simp
  obtain ⟨b0, b1, b2, b3, b4, b5, hb⟩ := hS
  refine (H10.out _).mono ?_
  rintro e w11 ⟨rfl, hB⟩
  refine hK.out _ _ ⟨b0.after hB, b1.after hB, b2.after hB, b3.after hB, b4.after hB, b5.after hB, below_call hb hB⟩ (fun hS => ?_)
  clear hK K hB b0 b1 b2 b3 b4 b5 hb
  try simp only [Act.put, List.setIfInBounds_toArray, List.set_cons_zero, List.set_cons_succ]
  refine wpAnyH_ready (rs := [46]) (by kernel_rfl) (by simp) ?_
  refine (AllReadyH.cons (op_at rfl) (fun K hK => ?_) AllReadyH.nil)
  go_simp
  obtain ⟨b0, b1, b2, b3, b4, b5, hb⟩ := hS
  refine (H11.out _).mono ?_
  rintro e w12 ⟨rfl, hB⟩
  refine hK.out _ _ ⟨b0.after hB, b1.after hB, b2.after hB, b3.after hB, b4.after hB, b5.after hB, below_call hb hB⟩ (fun hS => ?_)
  clear hK K hB b0 b1 b2 b3 b4 b5 hb
  try simp only [Act.put, List.setIfInBounds_toArray, List.set_cons_zero, List.set_cons_succ]
  refine wpAnyH_take (i := 47) (v := ?_) (op_at rfl) (by kernel_rfl) (by kernel_rfl) (by kernel_rfl) (fun _ _ _ h => h) (Or.inl ⟨by rfl, ?_⟩) hS ?_; rotate_left; focus ((intro w' hSw; clear hSw; go_simp) <;> with_reducible rfl)
  try simp only [Act.put, List.setIfInBounds_toArray, List.set_cons_zero, List.set_cons_succ]
  refine wpAnyH_take (i := 48) (v := ?_) (op_at rfl) (by kernel_rfl) (by kernel_rfl) (by kernel_rfl) (fun _ _ _ h => h) (Or.inl ⟨by rfl, ?_⟩) hS ?_; rotate_left; focus ((intro w' hSw; clear hSw; go_simp) <;> with_reducible rfl)
  try simp only [Act.put, List.setIfInBounds_toArray, List.set_cons_zero, List.set_cons_succ]
  refine wpAnyH_take (i := 49) (v := ?_) (op_at rfl) (by kernel_rfl) (by kernel_rfl) (by kernel_rfl) (fun _ _ _ h => h) (Or.inl ⟨by rfl, ?_⟩) hS ?_; rotate_left; focus ((intro w' hSw; clear hSw; go_simp) <;> with_reducible rfl)
  try simp only [Act.put, List.setIfInBounds_toArray, List.set_cons_zero, List.set_cons_succ]
  refine wpAnyH_done (by kernel_rfl) ?_ _
  obtain ⟨b0, b1, b2, b3, b4, b5, hb⟩ := hS
  replace B0 := Lib.hid b0
  clear b0
  replace B1 := Lib.hid b1
  clear b1
  replace B3 := Lib.hid b2
  clear b2
  replace B4 := Lib.hid b3
  clear b3
  replace B5 := Lib.hid b4
  clear b4
  replace B6 := Lib.hid b5
  clear b5
  replace HB := Lib.hid hb
  clear hb
  go_wp2_with fail
  go_ret
  exact ⟨rfl, (by repeat (first | exact HB.out | refine below_alloc ?_ _ | refine Below.drew ?_ | refine below_set ?_ (by omega) _))⟩
theorem floats_walk (cur a high : Lab) (sa : Addr) (w : World) (hh : Env sa w) : Calls Tryd.prog 6 #[.agg #[.int .i64 cur.lv, .int .u64 (u cur.c), .int .i64 cur.ig], .agg #[.int .i64 a.lv, .int .u64 (u a.c), .int .i64 a.ig], .agg #[.int .i64 high.lv, .int .u64 (u high.c), .int .i64 high.ig]] w (Yes w) :=
  floats_core cur a high _ _ _ _ _ _ _ _ sa w hh (floatIs rfl rfl) (fun W => rFloat_any cur a high W) (sendIs rfl rfl) (fun W => rSend_any cur a W) (gainIs rfl rfl) (fun W => rGain_any cur a W) (eqlIs (eqL_self _)) (eqlIs (eqL_self _)) (readsIs rfl) (fun W => rReads_any cur a W) (writesIs rfl) (fun W => rWrites_any cur a W)
end Go.Proofs.YtmbafllkiofhnaaDoor
