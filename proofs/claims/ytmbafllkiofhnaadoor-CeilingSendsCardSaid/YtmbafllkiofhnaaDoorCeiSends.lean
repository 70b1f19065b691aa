/-
  THE WALK OF THE STATEMENT CeilingSends (printed by wip/genceil.py).
-/
import Derived.Test.YtmbafllkiofhnaaDoorCeiG
namespace Go.Proofs.YtmbafllkiofhnaaDoor
open Go.RowKit

attribute [local go_sem] u_and u_or u_andNot u_add u_sub u_bit u_eq_zero u_beq

set_option maxRecDepth 100000 in
set_option maxHeartbeats 4000000 in
theorem sends_00 (cur a b : Lab) (q : Bool) (p : Bool) (m : Int) (sa : Addr) (w : World) (hh : Env sa w) (h0 : SendIs sa cur a q 20) (h1 : SendIs sa cur b p m) (h2 : ReadsIs cur a false) :
    Calls Tryd.prog 5 #[.agg #[.int .i64 cur.lv, .int .u64 (u cur.c), .int .i64 cur.ig], .agg #[.int .i64 a.lv, .int .u64 (u a.c), .int .i64 a.ig], .agg #[.int .i64 b.lv, .int .u64 (u b.c), .int .i64 b.ig]] w (Yes w) := by
  have H0 := Lib.hid h0
  clear h0
  have H1 := Lib.hid h1
  clear h1
  have H2 := Lib.hid h2
  clear h2
  have HH := Lib.hid hh
  clear hh
  have HB := Lib.hid (Below.refl w.heap.size w)
  go_enter Tryd.func5, Tryd.ntmps5
  go_wp2_with fail
  refine (shown_any sa _ (HH.out.up (by repeat (first | exact HB.out | refine below_alloc ?_ _ | refine Below.drew ?_ | refine below_set ?_ (by omega) _)))).mono ?_
  rintro e w1 ⟨rfl, hB⟩
  replace HB := Lib.hid (below_call (w := w) (by repeat (first | exact HB.out | refine below_alloc ?_ _ | refine Below.drew ?_ | refine below_set ?_ (by omega) _)) hB)
  have z1 : w.heap.size ≤ w1.heap.size := HB.out.size
  have B0 : Hid (Blk w1 (w.heap.size) 24 #[.int .i64 cur.lv, .int .u64 (u cur.c), .int .i64 cur.ig]) := Lib.hid (Blk.after (by repeat (first | exact Blk.new' (by simp; done) | exact Blk.new' rfl | refine Blk.drew ?_ | refine Blk.alloc ?_ _)) hB)
  have B1 : Hid (Blk w1 (w.heap.size + 1) 24 #[.int .i64 a.lv, .int .u64 (u a.c), .int .i64 a.ig]) := Lib.hid (Blk.after (by repeat (first | exact Blk.new' (by simp; done) | exact Blk.new' rfl | refine Blk.drew ?_ | refine Blk.alloc ?_ _)) hB)
  have B2 : Hid (Blk w1 (w.heap.size + 1 + 1) 24 #[.int .i64 b.lv, .int .u64 (u b.c), .int .i64 b.ig]) := Lib.hid (Blk.after (by repeat (first | exact Blk.new' (by simp; done) | exact Blk.new' rfl | refine Blk.drew ?_ | refine Blk.alloc ?_ _)) hB)
  clear hB
  have p0_0 := B0.out.at_ (i := 0) (v := .int .i64 cur.lv) rfl
  have p0_1 := B0.out.at_ (i := 1) (v := .int .u64 (u cur.c)) rfl
  have p0_2 := B0.out.at_ (i := 2) (v := .int .i64 cur.ig) rfl
  have k0_0 : w.heap.size < w1.heap.size := by have := B0.out.lt; omega
  have p1_0 := B1.out.at_ (i := 0) (v := .int .i64 a.lv) rfl
  have p1_1 := B1.out.at_ (i := 1) (v := .int .u64 (u a.c)) rfl
  have p1_2 := B1.out.at_ (i := 2) (v := .int .i64 a.ig) rfl
  have k1_0 : w.heap.size + 1 < w1.heap.size := by have := B1.out.lt; omega
  go_wp2_with fail
  refine (H0.out _ (HH.out.up (by repeat (first | exact HB.out | refine below_alloc ?_ _ | refine Below.drew ?_ | refine below_set ?_ (by omega) _)))).mono ?_
  rintro e w2 ⟨rfl, hB⟩
  replace HB := Lib.hid (below_call (w := w) (by repeat (first | exact HB.out | refine below_alloc ?_ _ | refine Below.drew ?_ | refine below_set ?_ (by omega) _)) hB)
  have z2 : w.heap.size ≤ w2.heap.size := HB.out.size
  replace B0 : Hid (Blk w2 (w.heap.size) 24 #[.int .i64 cur.lv, .int .u64 (u cur.c), .int .i64 cur.ig]) := Lib.hid (Blk.after (by repeat (first | exact B0.out | exact Blk.new' (by simp; done) | exact Blk.new' rfl | refine Blk.drew ?_ | refine Blk.alloc ?_ _)) hB)
  replace B1 : Hid (Blk w2 (w.heap.size + 1) 24 #[.int .i64 a.lv, .int .u64 (u a.c), .int .i64 a.ig]) := Lib.hid (Blk.after (by repeat (first | exact B1.out | exact Blk.new' (by simp; done) | exact Blk.new' rfl | refine Blk.drew ?_ | refine Blk.alloc ?_ _)) hB)
  replace B2 : Hid (Blk w2 (w.heap.size + 1 + 1) 24 #[.int .i64 b.lv, .int .u64 (u b.c), .int .i64 b.ig]) := Lib.hid (Blk.after (by repeat (first | exact B2.out | exact Blk.new' (by simp; done) | exact Blk.new' rfl | refine Blk.drew ?_ | refine Blk.alloc ?_ _)) hB)
  clear p0_0 p0_1 p0_2 k0_0 p1_0 p1_1 p1_2 k1_0
  clear hB
  have p0_0 := B0.out.at_ (i := 0) (v := .int .i64 cur.lv) rfl
  have p0_1 := B0.out.at_ (i := 1) (v := .int .u64 (u cur.c)) rfl
  have p0_2 := B0.out.at_ (i := 2) (v := .int .i64 cur.ig) rfl
  have k0_0 : w.heap.size < w2.heap.size := by have := B0.out.lt; omega
  have p2_0 := B2.out.at_ (i := 0) (v := .int .i64 b.lv) rfl
  have p2_1 := B2.out.at_ (i := 1) (v := .int .u64 (u b.c)) rfl
  have p2_2 := B2.out.at_ (i := 2) (v := .int .i64 b.ig) rfl
  have k2_0 : w.heap.size + 1 + 1 < w2.heap.size := by have := B2.out.lt; omega
  go_wp2_with fail
  refine (H1.out _ (HH.out.up (by repeat (first | exact HB.out | refine below_alloc ?_ _ | refine Below.drew ?_ | refine below_set ?_ (by omega) _)))).mono ?_
  rintro e w3 ⟨rfl, hB⟩
  replace HB := Lib.hid (below_call (w := w) (by repeat (first | exact HB.out | refine below_alloc ?_ _ | refine Below.drew ?_ | refine below_set ?_ (by omega) _)) hB)
  have z3 : w.heap.size ≤ w3.heap.size := HB.out.size
  replace B0 : Hid (Blk w3 (w.heap.size) 24 #[.int .i64 cur.lv, .int .u64 (u cur.c), .int .i64 cur.ig]) := Lib.hid (Blk.after (by repeat (first | exact B0.out | exact Blk.new' (by simp; done) | exact Blk.new' rfl | refine Blk.drew ?_ | refine Blk.alloc ?_ _)) hB)
  replace B1 : Hid (Blk w3 (w.heap.size + 1) 24 #[.int .i64 a.lv, .int .u64 (u a.c), .int .i64 a.ig]) := Lib.hid (Blk.after (by repeat (first | exact B1.out | exact Blk.new' (by simp; done) | exact Blk.new' rfl | refine Blk.drew ?_ | refine Blk.alloc ?_ _)) hB)
  clear p0_0 p0_1 p0_2 k0_0 p2_0 p2_1 p2_2 k2_0
  clear hB
  have p0_0 := B0.out.at_ (i := 0) (v := .int .i64 cur.lv) rfl
  have p0_1 := B0.out.at_ (i := 1) (v := .int .u64 (u cur.c)) rfl
  have p0_2 := B0.out.at_ (i := 2) (v := .int .i64 cur.ig) rfl
  have k0_0 : w.heap.size < w3.heap.size := by have := B0.out.lt; omega
  have p1_0 := B1.out.at_ (i := 0) (v := .int .i64 a.lv) rfl
  have p1_1 := B1.out.at_ (i := 1) (v := .int .u64 (u a.c)) rfl
  have p1_2 := B1.out.at_ (i := 2) (v := .int .i64 a.ig) rfl
  have k1_0 : w.heap.size + 1 < w3.heap.size := by have := B1.out.lt; omega
  go_wp2_with fail
  refine (H2.out _).mono ?_
  rintro e w4 ⟨rfl, hB⟩
  replace HB := Lib.hid (below_call (w := w) (by repeat (first | exact HB.out | refine below_alloc ?_ _ | refine Below.drew ?_ | refine below_set ?_ (by omega) _)) hB)
  have z4 : w.heap.size ≤ w4.heap.size := HB.out.size
  clear p0_0 p0_1 p0_2 k0_0 p1_0 p1_1 p1_2 k1_0
  clear hB
  go_wp2_with fail
  go_ret
  exact ⟨rfl, (by repeat (first | exact HB.out | refine below_alloc ?_ _ | refine Below.drew ?_ | refine below_set ?_ (by omega) _))⟩
set_option maxRecDepth 100000 in
set_option maxHeartbeats 4000000 in
theorem sends_01 (cur a b : Lab) (q : Bool) (p : Bool) (m : Int) (sa : Addr) (w : World) (hh : Env sa w) (h0 : SendIs sa cur a q 20) (h1 : SendIs sa cur b p m) (h2 : ReadsIs cur a true) (h3 : UnderIs b a false) :
    Calls Tryd.prog 5 #[.agg #[.int .i64 cur.lv, .int .u64 (u cur.c), .int .i64 cur.ig], .agg #[.int .i64 a.lv, .int .u64 (u a.c), .int .i64 a.ig], .agg #[.int .i64 b.lv, .int .u64 (u b.c), .int .i64 b.ig]] w (Yes w) := by
  have H0 := Lib.hid h0
  clear h0
  have H1 := Lib.hid h1
  clear h1
  have H2 := Lib.hid h2
  clear h2
  have H3 := Lib.hid h3
  clear h3
  have HH := Lib.hid hh
  clear hh
  have HB := Lib.hid (Below.refl w.heap.size w)
  go_enter Tryd.func5, Tryd.ntmps5
  go_wp2_with fail
  refine (shown_any sa _ (HH.out.up (by repeat (first | exact HB.out | refine below_alloc ?_ _ | refine Below.drew ?_ | refine below_set ?_ (by omega) _)))).mono ?_
  rintro e w1 ⟨rfl, hB⟩
  replace HB := Lib.hid (below_call (w := w) (by repeat (first | exact HB.out | refine below_alloc ?_ _ | refine Below.drew ?_ | refine below_set ?_ (by omega) _)) hB)
  have z1 : w.heap.size ≤ w1.heap.size := HB.out.size
  have B0 : Hid (Blk w1 (w.heap.size) 24 #[.int .i64 cur.lv, .int .u64 (u cur.c), .int .i64 cur.ig]) := Lib.hid (Blk.after (by repeat (first | exact Blk.new' (by simp; done) | exact Blk.new' rfl | refine Blk.drew ?_ | refine Blk.alloc ?_ _)) hB)
  have B1 : Hid (Blk w1 (w.heap.size + 1) 24 #[.int .i64 a.lv, .int .u64 (u a.c), .int .i64 a.ig]) := Lib.hid (Blk.after (by repeat (first | exact Blk.new' (by simp; done) | exact Blk.new' rfl | refine Blk.drew ?_ | refine Blk.alloc ?_ _)) hB)
  have B2 : Hid (Blk w1 (w.heap.size + 1 + 1) 24 #[.int .i64 b.lv, .int .u64 (u b.c), .int .i64 b.ig]) := Lib.hid (Blk.after (by repeat (first | exact Blk.new' (by simp; done) | exact Blk.new' rfl | refine Blk.drew ?_ | refine Blk.alloc ?_ _)) hB)
  clear hB
  have p0_0 := B0.out.at_ (i := 0) (v := .int .i64 cur.lv) rfl
  have p0_1 := B0.out.at_ (i := 1) (v := .int .u64 (u cur.c)) rfl
  have p0_2 := B0.out.at_ (i := 2) (v := .int .i64 cur.ig) rfl
  have k0_0 : w.heap.size < w1.heap.size := by have := B0.out.lt; omega
  have p1_0 := B1.out.at_ (i := 0) (v := .int .i64 a.lv) rfl
  have p1_1 := B1.out.at_ (i := 1) (v := .int .u64 (u a.c)) rfl
  have p1_2 := B1.out.at_ (i := 2) (v := .int .i64 a.ig) rfl
  have k1_0 : w.heap.size + 1 < w1.heap.size := by have := B1.out.lt; omega
  go_wp2_with fail
  refine (H0.out _ (HH.out.up (by repeat (first | exact HB.out | refine below_alloc ?_ _ | refine Below.drew ?_ | refine below_set ?_ (by omega) _)))).mono ?_
  rintro e w2 ⟨rfl, hB⟩
  replace HB := Lib.hid (below_call (w := w) (by repeat (first | exact HB.out | refine below_alloc ?_ _ | refine Below.drew ?_ | refine below_set ?_ (by omega) _)) hB)
  have z2 : w.heap.size ≤ w2.heap.size := HB.out.size
  replace B0 : Hid (Blk w2 (w.heap.size) 24 #[.int .i64 cur.lv, .int .u64 (u cur.c), .int .i64 cur.ig]) := Lib.hid (Blk.after (by repeat (first | exact B0.out | exact Blk.new' (by simp; done) | exact Blk.new' rfl | refine Blk.drew ?_ | refine Blk.alloc ?_ _)) hB)
  replace B1 : Hid (Blk w2 (w.heap.size + 1) 24 #[.int .i64 a.lv, .int .u64 (u a.c), .int .i64 a.ig]) := Lib.hid (Blk.after (by repeat (first | exact B1.out | exact Blk.new' (by simp; done) | exact Blk.new' rfl | refine Blk.drew ?_ | refine Blk.alloc ?_ _)) hB)
  replace B2 : Hid (Blk w2 (w.heap.size + 1 + 1) 24 #[.int .i64 b.lv, .int .u64 (u b.c), .int .i64 b.ig]) := Lib.hid (Blk.after (by repeat (first | exact B2.out | exact Blk.new' (by simp; done) | exact Blk.new' rfl | refine Blk.drew ?_ | refine Blk.alloc ?_ _)) hB)
  clear p0_0 p0_1 p0_2 k0_0 p1_0 p1_1 p1_2 k1_0
  clear hB
  have p0_0 := B0.out.at_ (i := 0) (v := .int .i64 cur.lv) rfl
  have p0_1 := B0.out.at_ (i := 1) (v := .int .u64 (u cur.c)) rfl
  have p0_2 := B0.out.at_ (i := 2) (v := .int .i64 cur.ig) rfl
  have k0_0 : w.heap.size < w2.heap.size := by have := B0.out.lt; omega
  have p2_0 := B2.out.at_ (i := 0) (v := .int .i64 b.lv) rfl
  have p2_1 := B2.out.at_ (i := 1) (v := .int .u64 (u b.c)) rfl
  have p2_2 := B2.out.at_ (i := 2) (v := .int .i64 b.ig) rfl
  have k2_0 : w.heap.size + 1 + 1 < w2.heap.size := by have := B2.out.lt; omega
  go_wp2_with fail
  refine (H1.out _ (HH.out.up (by repeat (first | exact HB.out | refine below_alloc ?_ _ | refine Below.drew ?_ | refine below_set ?_ (by omega) _)))).mono ?_
  rintro e w3 ⟨rfl, hB⟩
  replace HB := Lib.hid (below_call (w := w) (by repeat (first | exact HB.out | refine below_alloc ?_ _ | refine Below.drew ?_ | refine below_set ?_ (by omega) _)) hB)
  have z3 : w.heap.size ≤ w3.heap.size := HB.out.size
  replace B0 : Hid (Blk w3 (w.heap.size) 24 #[.int .i64 cur.lv, .int .u64 (u cur.c), .int .i64 cur.ig]) := Lib.hid (Blk.after (by repeat (first | exact B0.out | exact Blk.new' (by simp; done) | exact Blk.new' rfl | refine Blk.drew ?_ | refine Blk.alloc ?_ _)) hB)
  replace B1 : Hid (Blk w3 (w.heap.size + 1) 24 #[.int .i64 a.lv, .int .u64 (u a.c), .int .i64 a.ig]) := Lib.hid (Blk.after (by repeat (first | exact B1.out | exact Blk.new' (by simp; done) | exact Blk.new' rfl | refine Blk.drew ?_ | refine Blk.alloc ?_ _)) hB)
  replace B2 : Hid (Blk w3 (w.heap.size + 1 + 1) 24 #[.int .i64 b.lv, .int .u64 (u b.c), .int .i64 b.ig]) := Lib.hid (Blk.after (by repeat (first | exact B2.out | exact Blk.new' (by simp; done) | exact Blk.new' rfl | refine Blk.drew ?_ | refine Blk.alloc ?_ _)) hB)
  clear p0_0 p0_1 p0_2 k0_0 p2_0 p2_1 p2_2 k2_0
  clear hB
  have p0_0 := B0.out.at_ (i := 0) (v := .int .i64 cur.lv) rfl
  have p0_1 := B0.out.at_ (i := 1) (v := .int .u64 (u cur.c)) rfl
  have p0_2 := B0.out.at_ (i := 2) (v := .int .i64 cur.ig) rfl
  have k0_0 : w.heap.size < w3.heap.size := by have := B0.out.lt; omega
  have p1_0 := B1.out.at_ (i := 0) (v := .int .i64 a.lv) rfl
  have p1_1 := B1.out.at_ (i := 1) (v := .int .u64 (u a.c)) rfl
  have p1_2 := B1.out.at_ (i := 2) (v := .int .i64 a.ig) rfl
  have k1_0 : w.heap.size + 1 < w3.heap.size := by have := B1.out.lt; omega
  go_wp2_with fail
  refine (H2.out _).mono ?_
  rintro e w4 ⟨rfl, hB⟩
  replace HB := Lib.hid (below_call (w := w) (by repeat (first | exact HB.out | refine below_alloc ?_ _ | refine Below.drew ?_ | refine below_set ?_ (by omega) _)) hB)
  have z4 : w.heap.size ≤ w4.heap.size := HB.out.size
  replace B1 : Hid (Blk w4 (w.heap.size + 1) 24 #[.int .i64 a.lv, .int .u64 (u a.c), .int .i64 a.ig]) := Lib.hid (Blk.after (by repeat (first | exact B1.out | exact Blk.new' (by simp; done) | exact Blk.new' rfl | refine Blk.drew ?_ | refine Blk.alloc ?_ _)) hB)
  replace B2 : Hid (Blk w4 (w.heap.size + 1 + 1) 24 #[.int .i64 b.lv, .int .u64 (u b.c), .int .i64 b.ig]) := Lib.hid (Blk.after (by repeat (first | exact B2.out | exact Blk.new' (by simp; done) | exact Blk.new' rfl | refine Blk.drew ?_ | refine Blk.alloc ?_ _)) hB)
  clear p0_0 p0_1 p0_2 k0_0 p1_0 p1_1 p1_2 k1_0
  clear hB
  have p1_0 := B1.out.at_ (i := 0) (v := .int .i64 a.lv) rfl
  have p1_1 := B1.out.at_ (i := 1) (v := .int .u64 (u a.c)) rfl
  have p1_2 := B1.out.at_ (i := 2) (v := .int .i64 a.ig) rfl
  have k1_0 : w.heap.size + 1 < w4.heap.size := by have := B1.out.lt; omega
  have p2_0 := B2.out.at_ (i := 0) (v := .int .i64 b.lv) rfl
  have p2_1 := B2.out.at_ (i := 1) (v := .int .u64 (u b.c)) rfl
  have p2_2 := B2.out.at_ (i := 2) (v := .int .i64 b.ig) rfl
  have k2_0 : w.heap.size + 1 + 1 < w4.heap.size := by have := B2.out.lt; omega
  go_wp2_with fail
  refine (H3.out _).mono ?_
  rintro e w5 ⟨rfl, hB⟩
  replace HB := Lib.hid (below_call (w := w) (by repeat (first | exact HB.out | refine below_alloc ?_ _ | refine Below.drew ?_ | refine below_set ?_ (by omega) _)) hB)
  have z5 : w.heap.size ≤ w5.heap.size := HB.out.size
  clear p1_0 p1_1 p1_2 k1_0 p2_0 p2_1 p2_2 k2_0
  clear hB
  go_wp2_with fail
  go_ret
  exact ⟨rfl, (by repeat (first | exact HB.out | refine below_alloc ?_ _ | refine Below.drew ?_ | refine below_set ?_ (by omega) _))⟩
set_option maxRecDepth 100000 in
set_option maxHeartbeats 4000000 in
theorem sends_02 (cur a b : Lab) (q : Bool) (p : Bool) (m : Int) (sa : Addr) (w : World) (hh : Env sa w) (h0 : SendIs sa cur a q 20) (h1 : SendIs sa cur b p m) (h2 : ReadsIs cur a true) (h3 : UnderIs b a true) (h4 : ReadsIs cur b true) :
    Calls Tryd.prog 5 #[.agg #[.int .i64 cur.lv, .int .u64 (u cur.c), .int .i64 cur.ig], .agg #[.int .i64 a.lv, .int .u64 (u a.c), .int .i64 a.ig], .agg #[.int .i64 b.lv, .int .u64 (u b.c), .int .i64 b.ig]] w (Yes w) := by
  have H0 := Lib.hid h0
  clear h0
  have H1 := Lib.hid h1
  clear h1
  have H2 := Lib.hid h2
  clear h2
  have H3 := Lib.hid h3
  clear h3
  have H4 := Lib.hid h4
  clear h4
  have HH := Lib.hid hh
  clear hh
  have HB := Lib.hid (Below.refl w.heap.size w)
  go_enter Tryd.func5, Tryd.ntmps5
  go_wp2_with fail
  refine (shown_any sa _ (HH.out.up (by repeat (first | exact HB.out | refine below_alloc ?_ _ | refine Below.drew ?_ | refine below_set ?_ (by omega) _)))).mono ?_
  rintro e w1 ⟨rfl, hB⟩
  replace HB := Lib.hid (below_call (w := w) (by repeat (first | exact HB.out | refine below_alloc ?_ _ | refine Below.drew ?_ | refine below_set ?_ (by omega) _)) hB)
  have z1 : w.heap.size ≤ w1.heap.size := HB.out.size
  have B0 : Hid (Blk w1 (w.heap.size) 24 #[.int .i64 cur.lv, .int .u64 (u cur.c), .int .i64 cur.ig]) := Lib.hid (Blk.after (by repeat (first | exact Blk.new' (by simp; done) | exact Blk.new' rfl | refine Blk.drew ?_ | refine Blk.alloc ?_ _)) hB)
  have B1 : Hid (Blk w1 (w.heap.size + 1) 24 #[.int .i64 a.lv, .int .u64 (u a.c), .int .i64 a.ig]) := Lib.hid (Blk.after (by repeat (first | exact Blk.new' (by simp; done) | exact Blk.new' rfl | refine Blk.drew ?_ | refine Blk.alloc ?_ _)) hB)
  have B2 : Hid (Blk w1 (w.heap.size + 1 + 1) 24 #[.int .i64 b.lv, .int .u64 (u b.c), .int .i64 b.ig]) := Lib.hid (Blk.after (by repeat (first | exact Blk.new' (by simp; done) | exact Blk.new' rfl | refine Blk.drew ?_ | refine Blk.alloc ?_ _)) hB)
  clear hB
  have p0_0 := B0.out.at_ (i := 0) (v := .int .i64 cur.lv) rfl
  have p0_1 := B0.out.at_ (i := 1) (v := .int .u64 (u cur.c)) rfl
  have p0_2 := B0.out.at_ (i := 2) (v := .int .i64 cur.ig) rfl
  have k0_0 : w.heap.size < w1.heap.size := by have := B0.out.lt; omega
  have p1_0 := B1.out.at_ (i := 0) (v := .int .i64 a.lv) rfl
  have p1_1 := B1.out.at_ (i := 1) (v := .int .u64 (u a.c)) rfl
  have p1_2 := B1.out.at_ (i := 2) (v := .int .i64 a.ig) rfl
  have k1_0 : w.heap.size + 1 < w1.heap.size := by have := B1.out.lt; omega
  go_wp2_with fail
  refine (H0.out _ (HH.out.up (by repeat (first | exact HB.out | refine below_alloc ?_ _ | refine Below.drew ?_ | refine below_set ?_ (by omega) _)))).mono ?_
  rintro e w2 ⟨rfl, hB⟩
  replace HB := Lib.hid (below_call (w := w) (by repeat (first | exact HB.out | refine below_alloc ?_ _ | refine Below.drew ?_ | refine below_set ?_ (by omega) _)) hB)
  have z2 : w.heap.size ≤ w2.heap.size := HB.out.size
  replace B0 : Hid (Blk w2 (w.heap.size) 24 #[.int .i64 cur.lv, .int .u64 (u cur.c), .int .i64 cur.ig]) := Lib.hid (Blk.after (by repeat (first | exact B0.out | exact Blk.new' (by simp; done) | exact Blk.new' rfl | refine Blk.drew ?_ | refine Blk.alloc ?_ _)) hB)
  replace B1 : Hid (Blk w2 (w.heap.size + 1) 24 #[.int .i64 a.lv, .int .u64 (u a.c), .int .i64 a.ig]) := Lib.hid (Blk.after (by repeat (first | exact B1.out | exact Blk.new' (by simp; done) | exact Blk.new' rfl | refine Blk.drew ?_ | refine Blk.alloc ?_ _)) hB)
  replace B2 : Hid (Blk w2 (w.heap.size + 1 + 1) 24 #[.int .i64 b.lv, .int .u64 (u b.c), .int .i64 b.ig]) := Lib.hid (Blk.after (by repeat (first | exact B2.out | exact Blk.new' (by simp; done) | exact Blk.new' rfl | refine Blk.drew ?_ | refine Blk.alloc ?_ _)) hB)
  clear p0_0 p0_1 p0_2 k0_0 p1_0 p1_1 p1_2 k1_0
  clear hB
  have p0_0 := B0.out.at_ (i := 0) (v := .int .i64 cur.lv) rfl
  have p0_1 := B0.out.at_ (i := 1) (v := .int .u64 (u cur.c)) rfl
  have p0_2 := B0.out.at_ (i := 2) (v := .int .i64 cur.ig) rfl
  have k0_0 : w.heap.size < w2.heap.size := by have := B0.out.lt; omega
  have p2_0 := B2.out.at_ (i := 0) (v := .int .i64 b.lv) rfl
  have p2_1 := B2.out.at_ (i := 1) (v := .int .u64 (u b.c)) rfl
  have p2_2 := B2.out.at_ (i := 2) (v := .int .i64 b.ig) rfl
  have k2_0 : w.heap.size + 1 + 1 < w2.heap.size := by have := B2.out.lt; omega
  go_wp2_with fail
  refine (H1.out _ (HH.out.up (by repeat (first | exact HB.out | refine below_alloc ?_ _ | refine Below.drew ?_ | refine below_set ?_ (by omega) _)))).mono ?_
  rintro e w3 ⟨rfl, hB⟩
  replace HB := Lib.hid (below_call (w := w) (by repeat (first | exact HB.out | refine below_alloc ?_ _ | refine Below.drew ?_ | refine below_set ?_ (by omega) _)) hB)
  have z3 : w.heap.size ≤ w3.heap.size := HB.out.size
  replace B0 : Hid (Blk w3 (w.heap.size) 24 #[.int .i64 cur.lv, .int .u64 (u cur.c), .int .i64 cur.ig]) := Lib.hid (Blk.after (by repeat (first | exact B0.out | exact Blk.new' (by simp; done) | exact Blk.new' rfl | refine Blk.drew ?_ | refine Blk.alloc ?_ _)) hB)
  replace B1 : Hid (Blk w3 (w.heap.size + 1) 24 #[.int .i64 a.lv, .int .u64 (u a.c), .int .i64 a.ig]) := Lib.hid (Blk.after (by repeat (first | exact B1.out | exact Blk.new' (by simp; done) | exact Blk.new' rfl | refine Blk.drew ?_ | refine Blk.alloc ?_ _)) hB)
  replace B2 : Hid (Blk w3 (w.heap.size + 1 + 1) 24 #[.int .i64 b.lv, .int .u64 (u b.c), .int .i64 b.ig]) := Lib.hid (Blk.after (by repeat (first | exact B2.out | exact Blk.new' (by simp; done) | exact Blk.new' rfl | refine Blk.drew ?_ | refine Blk.alloc ?_ _)) hB)
  clear p0_0 p0_1 p0_2 k0_0 p2_0 p2_1 p2_2 k2_0
  clear hB
  have p0_0 := B0.out.at_ (i := 0) (v := .int .i64 cur.lv) rfl
  have p0_1 := B0.out.at_ (i := 1) (v := .int .u64 (u cur.c)) rfl
  have p0_2 := B0.out.at_ (i := 2) (v := .int .i64 cur.ig) rfl
  have k0_0 : w.heap.size < w3.heap.size := by have := B0.out.lt; omega
  have p1_0 := B1.out.at_ (i := 0) (v := .int .i64 a.lv) rfl
  have p1_1 := B1.out.at_ (i := 1) (v := .int .u64 (u a.c)) rfl
  have p1_2 := B1.out.at_ (i := 2) (v := .int .i64 a.ig) rfl
  have k1_0 : w.heap.size + 1 < w3.heap.size := by have := B1.out.lt; omega
  go_wp2_with fail
  refine (H2.out _).mono ?_
  rintro e w4 ⟨rfl, hB⟩
  replace HB := Lib.hid (below_call (w := w) (by repeat (first | exact HB.out | refine below_alloc ?_ _ | refine Below.drew ?_ | refine below_set ?_ (by omega) _)) hB)
  have z4 : w.heap.size ≤ w4.heap.size := HB.out.size
  replace B0 : Hid (Blk w4 (w.heap.size) 24 #[.int .i64 cur.lv, .int .u64 (u cur.c), .int .i64 cur.ig]) := Lib.hid (Blk.after (by repeat (first | exact B0.out | exact Blk.new' (by simp; done) | exact Blk.new' rfl | refine Blk.drew ?_ | refine Blk.alloc ?_ _)) hB)
  replace B1 : Hid (Blk w4 (w.heap.size + 1) 24 #[.int .i64 a.lv, .int .u64 (u a.c), .int .i64 a.ig]) := Lib.hid (Blk.after (by repeat (first | exact B1.out | exact Blk.new' (by simp; done) | exact Blk.new' rfl | refine Blk.drew ?_ | refine Blk.alloc ?_ _)) hB)
  replace B2 : Hid (Blk w4 (w.heap.size + 1 + 1) 24 #[.int .i64 b.lv, .int .u64 (u b.c), .int .i64 b.ig]) := Lib.hid (Blk.after (by repeat (first | exact B2.out | exact Blk.new' (by simp; done) | exact Blk.new' rfl | refine Blk.drew ?_ | refine Blk.alloc ?_ _)) hB)
  clear p0_0 p0_1 p0_2 k0_0 p1_0 p1_1 p1_2 k1_0
  clear hB
  have p1_0 := B1.out.at_ (i := 0) (v := .int .i64 a.lv) rfl
  have p1_1 := B1.out.at_ (i := 1) (v := .int .u64 (u a.c)) rfl
  have p1_2 := B1.out.at_ (i := 2) (v := .int .i64 a.ig) rfl
  have k1_0 : w.heap.size + 1 < w4.heap.size := by have := B1.out.lt; omega
  have p2_0 := B2.out.at_ (i := 0) (v := .int .i64 b.lv) rfl
  have p2_1 := B2.out.at_ (i := 1) (v := .int .u64 (u b.c)) rfl
  have p2_2 := B2.out.at_ (i := 2) (v := .int .i64 b.ig) rfl
  have k2_0 : w.heap.size + 1 + 1 < w4.heap.size := by have := B2.out.lt; omega
  go_wp2_with fail
  refine (H3.out _).mono ?_
  rintro e w5 ⟨rfl, hB⟩
  replace HB := Lib.hid (below_call (w := w) (by repeat (first | exact HB.out | refine below_alloc ?_ _ | refine Below.drew ?_ | refine below_set ?_ (by omega) _)) hB)
  have z5 : w.heap.size ≤ w5.heap.size := HB.out.size
  replace B0 : Hid (Blk w5 (w.heap.size) 24 #[.int .i64 cur.lv, .int .u64 (u cur.c), .int .i64 cur.ig]) := Lib.hid (Blk.after (by repeat (first | exact B0.out | exact Blk.new' (by simp; done) | exact Blk.new' rfl | refine Blk.drew ?_ | refine Blk.alloc ?_ _)) hB)
  replace B2 : Hid (Blk w5 (w.heap.size + 1 + 1) 24 #[.int .i64 b.lv, .int .u64 (u b.c), .int .i64 b.ig]) := Lib.hid (Blk.after (by repeat (first | exact B2.out | exact Blk.new' (by simp; done) | exact Blk.new' rfl | refine Blk.drew ?_ | refine Blk.alloc ?_ _)) hB)
  clear p1_0 p1_1 p1_2 k1_0 p2_0 p2_1 p2_2 k2_0
  clear hB
  have p0_0 := B0.out.at_ (i := 0) (v := .int .i64 cur.lv) rfl
  have p0_1 := B0.out.at_ (i := 1) (v := .int .u64 (u cur.c)) rfl
  have p0_2 := B0.out.at_ (i := 2) (v := .int .i64 cur.ig) rfl
  have k0_0 : w.heap.size < w5.heap.size := by have := B0.out.lt; omega
  have p2_0 := B2.out.at_ (i := 0) (v := .int .i64 b.lv) rfl
  have p2_1 := B2.out.at_ (i := 1) (v := .int .u64 (u b.c)) rfl
  have p2_2 := B2.out.at_ (i := 2) (v := .int .i64 b.ig) rfl
  have k2_0 : w.heap.size + 1 + 1 < w5.heap.size := by have := B2.out.lt; omega
  go_wp2_with fail
  refine (H4.out _).mono ?_
  rintro e w6 ⟨rfl, hB⟩
  replace HB := Lib.hid (below_call (w := w) (by repeat (first | exact HB.out | refine below_alloc ?_ _ | refine Below.drew ?_ | refine below_set ?_ (by omega) _)) hB)
  have z6 : w.heap.size ≤ w6.heap.size := HB.out.size
  clear p0_0 p0_1 p0_2 k0_0 p2_0 p2_1 p2_2 k2_0
  clear hB
  go_wp2_with fail
  go_ret
  exact ⟨rfl, (by repeat (first | exact HB.out | refine below_alloc ?_ _ | refine Below.drew ?_ | refine below_set ?_ (by omega) _))⟩
set_option maxRecDepth 100000 in
set_option maxHeartbeats 4000000 in
theorem sends_10 (cur a b : Lab) (q : Bool) (p : Bool) (m : Int) (sa : Addr) (w : World) (hh : Env sa w) (h0 : SendIs sa cur a q 121) (h1 : SendIs sa cur b p m) (h2 : ReadsIs cur a false) :
    Calls Tryd.prog 5 #[.agg #[.int .i64 cur.lv, .int .u64 (u cur.c), .int .i64 cur.ig], .agg #[.int .i64 a.lv, .int .u64 (u a.c), .int .i64 a.ig], .agg #[.int .i64 b.lv, .int .u64 (u b.c), .int .i64 b.ig]] w (Yes w) := by
  have H0 := Lib.hid h0
  clear h0
  have H1 := Lib.hid h1
  clear h1
  have H2 := Lib.hid h2
  clear h2
  have HH := Lib.hid hh
  clear hh
  have HB := Lib.hid (Below.refl w.heap.size w)
  go_enter Tryd.func5, Tryd.ntmps5
  go_wp2_with fail
  refine (shown_any sa _ (HH.out.up (by repeat (first | exact HB.out | refine below_alloc ?_ _ | refine Below.drew ?_ | refine below_set ?_ (by omega) _)))).mono ?_
  rintro e w1 ⟨rfl, hB⟩
  replace HB := Lib.hid (below_call (w := w) (by repeat (first | exact HB.out | refine below_alloc ?_ _ | refine Below.drew ?_ | refine below_set ?_ (by omega) _)) hB)
  have z1 : w.heap.size ≤ w1.heap.size := HB.out.size
  have B0 : Hid (Blk w1 (w.heap.size) 24 #[.int .i64 cur.lv, .int .u64 (u cur.c), .int .i64 cur.ig]) := Lib.hid (Blk.after (by repeat (first | exact Blk.new' (by simp; done) | exact Blk.new' rfl | refine Blk.drew ?_ | refine Blk.alloc ?_ _)) hB)
  have B1 : Hid (Blk w1 (w.heap.size + 1) 24 #[.int .i64 a.lv, .int .u64 (u a.c), .int .i64 a.ig]) := Lib.hid (Blk.after (by repeat (first | exact Blk.new' (by simp; done) | exact Blk.new' rfl | refine Blk.drew ?_ | refine Blk.alloc ?_ _)) hB)
  have B2 : Hid (Blk w1 (w.heap.size + 1 + 1) 24 #[.int .i64 b.lv, .int .u64 (u b.c), .int .i64 b.ig]) := Lib.hid (Blk.after (by repeat (first | exact Blk.new' (by simp; done) | exact Blk.new' rfl | refine Blk.drew ?_ | refine Blk.alloc ?_ _)) hB)
  clear hB
  have p0_0 := B0.out.at_ (i := 0) (v := .int .i64 cur.lv) rfl
  have p0_1 := B0.out.at_ (i := 1) (v := .int .u64 (u cur.c)) rfl
  have p0_2 := B0.out.at_ (i := 2) (v := .int .i64 cur.ig) rfl
  have k0_0 : w.heap.size < w1.heap.size := by have := B0.out.lt; omega
  have p1_0 := B1.out.at_ (i := 0) (v := .int .i64 a.lv) rfl
  have p1_1 := B1.out.at_ (i := 1) (v := .int .u64 (u a.c)) rfl
  have p1_2 := B1.out.at_ (i := 2) (v := .int .i64 a.ig) rfl
  have k1_0 : w.heap.size + 1 < w1.heap.size := by have := B1.out.lt; omega
  go_wp2_with fail
  refine (H0.out _ (HH.out.up (by repeat (first | exact HB.out | refine below_alloc ?_ _ | refine Below.drew ?_ | refine below_set ?_ (by omega) _)))).mono ?_
  rintro e w2 ⟨rfl, hB⟩
  replace HB := Lib.hid (below_call (w := w) (by repeat (first | exact HB.out | refine below_alloc ?_ _ | refine Below.drew ?_ | refine below_set ?_ (by omega) _)) hB)
  have z2 : w.heap.size ≤ w2.heap.size := HB.out.size
  replace B0 : Hid (Blk w2 (w.heap.size) 24 #[.int .i64 cur.lv, .int .u64 (u cur.c), .int .i64 cur.ig]) := Lib.hid (Blk.after (by repeat (first | exact B0.out | exact Blk.new' (by simp; done) | exact Blk.new' rfl | refine Blk.drew ?_ | refine Blk.alloc ?_ _)) hB)
  replace B1 : Hid (Blk w2 (w.heap.size + 1) 24 #[.int .i64 a.lv, .int .u64 (u a.c), .int .i64 a.ig]) := Lib.hid (Blk.after (by repeat (first | exact B1.out | exact Blk.new' (by simp; done) | exact Blk.new' rfl | refine Blk.drew ?_ | refine Blk.alloc ?_ _)) hB)
  replace B2 : Hid (Blk w2 (w.heap.size + 1 + 1) 24 #[.int .i64 b.lv, .int .u64 (u b.c), .int .i64 b.ig]) := Lib.hid (Blk.after (by repeat (first | exact B2.out | exact Blk.new' (by simp; done) | exact Blk.new' rfl | refine Blk.drew ?_ | refine Blk.alloc ?_ _)) hB)
  clear p0_0 p0_1 p0_2 k0_0 p1_0 p1_1 p1_2 k1_0
  clear hB
  have p0_0 := B0.out.at_ (i := 0) (v := .int .i64 cur.lv) rfl
  have p0_1 := B0.out.at_ (i := 1) (v := .int .u64 (u cur.c)) rfl
  have p0_2 := B0.out.at_ (i := 2) (v := .int .i64 cur.ig) rfl
  have k0_0 : w.heap.size < w2.heap.size := by have := B0.out.lt; omega
  have p2_0 := B2.out.at_ (i := 0) (v := .int .i64 b.lv) rfl
  have p2_1 := B2.out.at_ (i := 1) (v := .int .u64 (u b.c)) rfl
  have p2_2 := B2.out.at_ (i := 2) (v := .int .i64 b.ig) rfl
  have k2_0 : w.heap.size + 1 + 1 < w2.heap.size := by have := B2.out.lt; omega
  go_wp2_with fail
  refine (H1.out _ (HH.out.up (by repeat (first | exact HB.out | refine below_alloc ?_ _ | refine Below.drew ?_ | refine below_set ?_ (by omega) _)))).mono ?_
  rintro e w3 ⟨rfl, hB⟩
  replace HB := Lib.hid (below_call (w := w) (by repeat (first | exact HB.out | refine below_alloc ?_ _ | refine Below.drew ?_ | refine below_set ?_ (by omega) _)) hB)
  have z3 : w.heap.size ≤ w3.heap.size := HB.out.size
  replace B0 : Hid (Blk w3 (w.heap.size) 24 #[.int .i64 cur.lv, .int .u64 (u cur.c), .int .i64 cur.ig]) := Lib.hid (Blk.after (by repeat (first | exact B0.out | exact Blk.new' (by simp; done) | exact Blk.new' rfl | refine Blk.drew ?_ | refine Blk.alloc ?_ _)) hB)
  replace B1 : Hid (Blk w3 (w.heap.size + 1) 24 #[.int .i64 a.lv, .int .u64 (u a.c), .int .i64 a.ig]) := Lib.hid (Blk.after (by repeat (first | exact B1.out | exact Blk.new' (by simp; done) | exact Blk.new' rfl | refine Blk.drew ?_ | refine Blk.alloc ?_ _)) hB)
  clear p0_0 p0_1 p0_2 k0_0 p2_0 p2_1 p2_2 k2_0
  clear hB
  have p0_0 := B0.out.at_ (i := 0) (v := .int .i64 cur.lv) rfl
  have p0_1 := B0.out.at_ (i := 1) (v := .int .u64 (u cur.c)) rfl
  have p0_2 := B0.out.at_ (i := 2) (v := .int .i64 cur.ig) rfl
  have k0_0 : w.heap.size < w3.heap.size := by have := B0.out.lt; omega
  have p1_0 := B1.out.at_ (i := 0) (v := .int .i64 a.lv) rfl
  have p1_1 := B1.out.at_ (i := 1) (v := .int .u64 (u a.c)) rfl
  have p1_2 := B1.out.at_ (i := 2) (v := .int .i64 a.ig) rfl
  have k1_0 : w.heap.size + 1 < w3.heap.size := by have := B1.out.lt; omega
  go_wp2_with fail
  refine (H2.out _).mono ?_
  rintro e w4 ⟨rfl, hB⟩
  replace HB := Lib.hid (below_call (w := w) (by repeat (first | exact HB.out | refine below_alloc ?_ _ | refine Below.drew ?_ | refine below_set ?_ (by omega) _)) hB)
  have z4 : w.heap.size ≤ w4.heap.size := HB.out.size
  clear p0_0 p0_1 p0_2 k0_0 p1_0 p1_1 p1_2 k1_0
  clear hB
  go_wp2_with fail
  go_ret
  exact ⟨rfl, (by repeat (first | exact HB.out | refine below_alloc ?_ _ | refine Below.drew ?_ | refine below_set ?_ (by omega) _))⟩
set_option maxRecDepth 100000 in
set_option maxHeartbeats 4000000 in
theorem sends_11 (cur a b : Lab) (q : Bool) (p : Bool) (m : Int) (sa : Addr) (w : World) (hh : Env sa w) (h0 : SendIs sa cur a q 121) (h1 : SendIs sa cur b p m) (h2 : ReadsIs cur a true) (h3 : UnderIs b a false) :
    Calls Tryd.prog 5 #[.agg #[.int .i64 cur.lv, .int .u64 (u cur.c), .int .i64 cur.ig], .agg #[.int .i64 a.lv, .int .u64 (u a.c), .int .i64 a.ig], .agg #[.int .i64 b.lv, .int .u64 (u b.c), .int .i64 b.ig]] w (Yes w) := by
  have H0 := Lib.hid h0
  clear h0
  have H1 := Lib.hid h1
  clear h1
  have H2 := Lib.hid h2
  clear h2
  have H3 := Lib.hid h3
  clear h3
  have HH := Lib.hid hh
  clear hh
  have HB := Lib.hid (Below.refl w.heap.size w)
  go_enter Tryd.func5, Tryd.ntmps5
  go_wp2_with fail
  refine (shown_any sa _ (HH.out.up (by repeat (first | exact HB.out | refine below_alloc ?_ _ | refine Below.drew ?_ | refine below_set ?_ (by omega) _)))).mono ?_
  rintro e w1 ⟨rfl, hB⟩
  replace HB := Lib.hid (below_call (w := w) (by repeat (first | exact HB.out | refine below_alloc ?_ _ | refine Below.drew ?_ | refine below_set ?_ (by omega) _)) hB)
  have z1 : w.heap.size ≤ w1.heap.size := HB.out.size
  have B0 : Hid (Blk w1 (w.heap.size) 24 #[.int .i64 cur.lv, .int .u64 (u cur.c), .int .i64 cur.ig]) := Lib.hid (Blk.after (by repeat (first | exact Blk.new' (by simp; done) | exact Blk.new' rfl | refine Blk.drew ?_ | refine Blk.alloc ?_ _)) hB)
  have B1 : Hid (Blk w1 (w.heap.size + 1) 24 #[.int .i64 a.lv, .int .u64 (u a.c), .int .i64 a.ig]) := Lib.hid (Blk.after (by repeat (first | exact Blk.new' (by simp; done) | exact Blk.new' rfl | refine Blk.drew ?_ | refine Blk.alloc ?_ _)) hB)
  have B2 : Hid (Blk w1 (w.heap.size + 1 + 1) 24 #[.int .i64 b.lv, .int .u64 (u b.c), .int .i64 b.ig]) := Lib.hid (Blk.after (by repeat (first | exact Blk.new' (by simp; done) | exact Blk.new' rfl | refine Blk.drew ?_ | refine Blk.alloc ?_ _)) hB)
  clear hB
  have p0_0 := B0.out.at_ (i := 0) (v := .int .i64 cur.lv) rfl
  have p0_1 := B0.out.at_ (i := 1) (v := .int .u64 (u cur.c)) rfl
  have p0_2 := B0.out.at_ (i := 2) (v := .int .i64 cur.ig) rfl
  have k0_0 : w.heap.size < w1.heap.size := by have := B0.out.lt; omega
  have p1_0 := B1.out.at_ (i := 0) (v := .int .i64 a.lv) rfl
  have p1_1 := B1.out.at_ (i := 1) (v := .int .u64 (u a.c)) rfl
  have p1_2 := B1.out.at_ (i := 2) (v := .int .i64 a.ig) rfl
  have k1_0 : w.heap.size + 1 < w1.heap.size := by have := B1.out.lt; omega
  go_wp2_with fail
  refine (H0.out _ (HH.out.up (by repeat (first | exact HB.out | refine below_alloc ?_ _ | refine Below.drew ?_ | refine below_set ?_ (by omega) _)))).mono ?_
  rintro e w2 ⟨rfl, hB⟩
  replace HB := Lib.hid (below_call (w := w) (by repeat (first | exact HB.out | refine below_alloc ?_ _ | refine Below.drew ?_ | refine below_set ?_ (by omega) _)) hB)
  have z2 : w.heap.size ≤ w2.heap.size := HB.out.size
  replace B0 : Hid (Blk w2 (w.heap.size) 24 #[.int .i64 cur.lv, .int .u64 (u cur.c), .int .i64 cur.ig]) := Lib.hid (Blk.after (by repeat (first | exact B0.out | exact Blk.new' (by simp; done) | exact Blk.new' rfl | refine Blk.drew ?_ | refine Blk.alloc ?_ _)) hB)
  replace B1 : Hid (Blk w2 (w.heap.size + 1) 24 #[.int .i64 a.lv, .int .u64 (u a.c), .int .i64 a.ig]) := Lib.hid (Blk.after (by repeat (first | exact B1.out | exact Blk.new' (by simp; done) | exact Blk.new' rfl | refine Blk.drew ?_ | refine Blk.alloc ?_ _)) hB)
  replace B2 : Hid (Blk w2 (w.heap.size + 1 + 1) 24 #[.int .i64 b.lv, .int .u64 (u b.c), .int .i64 b.ig]) := Lib.hid (Blk.after (by repeat (first | exact B2.out | exact Blk.new' (by simp; done) | exact Blk.new' rfl | refine Blk.drew ?_ | refine Blk.alloc ?_ _)) hB)
  clear p0_0 p0_1 p0_2 k0_0 p1_0 p1_1 p1_2 k1_0
  clear hB
  have p0_0 := B0.out.at_ (i := 0) (v := .int .i64 cur.lv) rfl
  have p0_1 := B0.out.at_ (i := 1) (v := .int .u64 (u cur.c)) rfl
  have p0_2 := B0.out.at_ (i := 2) (v := .int .i64 cur.ig) rfl
  have k0_0 : w.heap.size < w2.heap.size := by have := B0.out.lt; omega
  have p2_0 := B2.out.at_ (i := 0) (v := .int .i64 b.lv) rfl
  have p2_1 := B2.out.at_ (i := 1) (v := .int .u64 (u b.c)) rfl
  have p2_2 := B2.out.at_ (i := 2) (v := .int .i64 b.ig) rfl
  have k2_0 : w.heap.size + 1 + 1 < w2.heap.size := by have := B2.out.lt; omega
  go_wp2_with fail
  refine (H1.out _ (HH.out.up (by repeat (first | exact HB.out | refine below_alloc ?_ _ | refine Below.drew ?_ | refine below_set ?_ (by omega) _)))).mono ?_
  rintro e w3 ⟨rfl, hB⟩
  replace HB := Lib.hid (below_call (w := w) (by repeat (first | exact HB.out | refine below_alloc ?_ _ | refine Below.drew ?_ | refine below_set ?_ (by omega) _)) hB)
  have z3 : w.heap.size ≤ w3.heap.size := HB.out.size
  replace B0 : Hid (Blk w3 (w.heap.size) 24 #[.int .i64 cur.lv, .int .u64 (u cur.c), .int .i64 cur.ig]) := Lib.hid (Blk.after (by repeat (first | exact B0.out | exact Blk.new' (by simp; done) | exact Blk.new' rfl | refine Blk.drew ?_ | refine Blk.alloc ?_ _)) hB)
  replace B1 : Hid (Blk w3 (w.heap.size + 1) 24 #[.int .i64 a.lv, .int .u64 (u a.c), .int .i64 a.ig]) := Lib.hid (Blk.after (by repeat (first | exact B1.out | exact Blk.new' (by simp; done) | exact Blk.new' rfl | refine Blk.drew ?_ | refine Blk.alloc ?_ _)) hB)
  replace B2 : Hid (Blk w3 (w.heap.size + 1 + 1) 24 #[.int .i64 b.lv, .int .u64 (u b.c), .int .i64 b.ig]) := Lib.hid (Blk.after (by repeat (first | exact B2.out | exact Blk.new' (by simp; done) | exact Blk.new' rfl | refine Blk.drew ?_ | refine Blk.alloc ?_ _)) hB)
  clear p0_0 p0_1 p0_2 k0_0 p2_0 p2_1 p2_2 k2_0
  clear hB
  have p0_0 := B0.out.at_ (i := 0) (v := .int .i64 cur.lv) rfl
  have p0_1 := B0.out.at_ (i := 1) (v := .int .u64 (u cur.c)) rfl
  have p0_2 := B0.out.at_ (i := 2) (v := .int .i64 cur.ig) rfl
  have k0_0 : w.heap.size < w3.heap.size := by have := B0.out.lt; omega
  have p1_0 := B1.out.at_ (i := 0) (v := .int .i64 a.lv) rfl
  have p1_1 := B1.out.at_ (i := 1) (v := .int .u64 (u a.c)) rfl
  have p1_2 := B1.out.at_ (i := 2) (v := .int .i64 a.ig) rfl
  have k1_0 : w.heap.size + 1 < w3.heap.size := by have := B1.out.lt; omega
  go_wp2_with fail
  refine (H2.out _).mono ?_
  rintro e w4 ⟨rfl, hB⟩
  replace HB := Lib.hid (below_call (w := w) (by repeat (first | exact HB.out | refine below_alloc ?_ _ | refine Below.drew ?_ | refine below_set ?_ (by omega) _)) hB)
  have z4 : w.heap.size ≤ w4.heap.size := HB.out.size
  replace B1 : Hid (Blk w4 (w.heap.size + 1) 24 #[.int .i64 a.lv, .int .u64 (u a.c), .int .i64 a.ig]) := Lib.hid (Blk.after (by repeat (first | exact B1.out | exact Blk.new' (by simp; done) | exact Blk.new' rfl | refine Blk.drew ?_ | refine Blk.alloc ?_ _)) hB)
  replace B2 : Hid (Blk w4 (w.heap.size + 1 + 1) 24 #[.int .i64 b.lv, .int .u64 (u b.c), .int .i64 b.ig]) := Lib.hid (Blk.after (by repeat (first | exact B2.out | exact Blk.new' (by simp; done) | exact Blk.new' rfl | refine Blk.drew ?_ | refine Blk.alloc ?_ _)) hB)
  clear p0_0 p0_1 p0_2 k0_0 p1_0 p1_1 p1_2 k1_0
  clear hB
  have p1_0 := B1.out.at_ (i := 0) (v := .int .i64 a.lv) rfl
  have p1_1 := B1.out.at_ (i := 1) (v := .int .u64 (u a.c)) rfl
  have p1_2 := B1.out.at_ (i := 2) (v := .int .i64 a.ig) rfl
  have k1_0 : w.heap.size + 1 < w4.heap.size := by have := B1.out.lt; omega
  have p2_0 := B2.out.at_ (i := 0) (v := .int .i64 b.lv) rfl
  have p2_1 := B2.out.at_ (i := 1) (v := .int .u64 (u b.c)) rfl
  have p2_2 := B2.out.at_ (i := 2) (v := .int .i64 b.ig) rfl
  have k2_0 : w.heap.size + 1 + 1 < w4.heap.size := by have := B2.out.lt; omega
  go_wp2_with fail
  refine (H3.out _).mono ?_
  rintro e w5 ⟨rfl, hB⟩
  replace HB := Lib.hid (below_call (w := w) (by repeat (first | exact HB.out | refine below_alloc ?_ _ | refine Below.drew ?_ | refine below_set ?_ (by omega) _)) hB)
  have z5 : w.heap.size ≤ w5.heap.size := HB.out.size
  clear p1_0 p1_1 p1_2 k1_0 p2_0 p2_1 p2_2 k2_0
  clear hB
  go_wp2_with fail
  go_ret
  exact ⟨rfl, (by repeat (first | exact HB.out | refine below_alloc ?_ _ | refine Below.drew ?_ | refine below_set ?_ (by omega) _))⟩
set_option maxRecDepth 100000 in
set_option maxHeartbeats 4000000 in
theorem sends_12 (cur a b : Lab) (q : Bool) (p : Bool) (m : Int) (sa : Addr) (w : World) (hh : Env sa w) (h0 : SendIs sa cur a q 121) (h1 : SendIs sa cur b p m) (h2 : ReadsIs cur a true) (h3 : UnderIs b a true) (h4 : ReadsIs cur b true) :
    Calls Tryd.prog 5 #[.agg #[.int .i64 cur.lv, .int .u64 (u cur.c), .int .i64 cur.ig], .agg #[.int .i64 a.lv, .int .u64 (u a.c), .int .i64 a.ig], .agg #[.int .i64 b.lv, .int .u64 (u b.c), .int .i64 b.ig]] w (Yes w) := by
  have H0 := Lib.hid h0
  clear h0
  have H1 := Lib.hid h1
  clear h1
  have H2 := Lib.hid h2
  clear h2
  have H3 := Lib.hid h3
  clear h3
  have H4 := Lib.hid h4
  clear h4
  have HH := Lib.hid hh
  clear hh
  have HB := Lib.hid (Below.refl w.heap.size w)
  go_enter Tryd.func5, Tryd.ntmps5
  go_wp2_with fail
  refine (shown_any sa _ (HH.out.up (by repeat (first | exact HB.out | refine below_alloc ?_ _ | refine Below.drew ?_ | refine below_set ?_ (by omega) _)))).mono ?_
  rintro e w1 ⟨rfl, hB⟩
  replace HB := Lib.hid (below_call (w := w) (by repeat (first | exact HB.out | refine below_alloc ?_ _ | refine Below.drew ?_ | refine below_set ?_ (by omega) _)) hB)
  have z1 : w.heap.size ≤ w1.heap.size := HB.out.size
  have B0 : Hid (Blk w1 (w.heap.size) 24 #[.int .i64 cur.lv, .int .u64 (u cur.c), .int .i64 cur.ig]) := Lib.hid (Blk.after (by repeat (first | exact Blk.new' (by simp; done) | exact Blk.new' rfl | refine Blk.drew ?_ | refine Blk.alloc ?_ _)) hB)
  have B1 : Hid (Blk w1 (w.heap.size + 1) 24 #[.int .i64 a.lv, .int .u64 (u a.c), .int .i64 a.ig]) := Lib.hid (Blk.after (by repeat (first | exact Blk.new' (by simp; done) | exact Blk.new' rfl | refine Blk.drew ?_ | refine Blk.alloc ?_ _)) hB)
  have B2 : Hid (Blk w1 (w.heap.size + 1 + 1) 24 #[.int .i64 b.lv, .int .u64 (u b.c), .int .i64 b.ig]) := Lib.hid (Blk.after (by repeat (first | exact Blk.new' (by simp; done) | exact Blk.new' rfl | refine Blk.drew ?_ | refine Blk.alloc ?_ _)) hB)
  clear hB
  have p0_0 := B0.out.at_ (i := 0) (v := .int .i64 cur.lv) rfl
  have p0_1 := B0.out.at_ (i := 1) (v := .int .u64 (u cur.c)) rfl
  have p0_2 := B0.out.at_ (i := 2) (v := .int .i64 cur.ig) rfl
  have k0_0 : w.heap.size < w1.heap.size := by have := B0.out.lt; omega
  have p1_0 := B1.out.at_ (i := 0) (v := .int .i64 a.lv) rfl
  have p1_1 := B1.out.at_ (i := 1) (v := .int .u64 (u a.c)) rfl
  have p1_2 := B1.out.at_ (i := 2) (v := .int .i64 a.ig) rfl
  have k1_0 : w.heap.size + 1 < w1.heap.size := by have := B1.out.lt; omega
  go_wp2_with fail
  refine (H0.out _ (HH.out.up (by repeat (first | exact HB.out | refine below_alloc ?_ _ | refine Below.drew ?_ | refine below_set ?_ (by omega) _)))).mono ?_
  rintro e w2 ⟨rfl, hB⟩
  replace HB := Lib.hid (below_call (w := w) (by repeat (first | exact HB.out | refine below_alloc ?_ _ | refine Below.drew ?_ | refine below_set ?_ (by omega) _)) hB)
  have z2 : w.heap.size ≤ w2.heap.size := HB.out.size
  replace B0 : Hid (Blk w2 (w.heap.size) 24 #[.int .i64 cur.lv, .int .u64 (u cur.c), .int .i64 cur.ig]) := Lib.hid (Blk.after (by repeat (first | exact B0.out | exact Blk.new' (by simp; done) | exact Blk.new' rfl | refine Blk.drew ?_ | refine Blk.alloc ?_ _)) hB)
  replace B1 : Hid (Blk w2 (w.heap.size + 1) 24 #[.int .i64 a.lv, .int .u64 (u a.c), .int .i64 a.ig]) := Lib.hid (Blk.after (by repeat (first | exact B1.out | exact Blk.new' (by simp; done) | exact Blk.new' rfl | refine Blk.drew ?_ | refine Blk.alloc ?_ _)) hB)
  replace B2 : Hid (Blk w2 (w.heap.size + 1 + 1) 24 #[.int .i64 b.lv, .int .u64 (u b.c), .int .i64 b.ig]) := Lib.hid (Blk.after (by repeat (first | exact B2.out | exact Blk.new' (by simp; done) | exact Blk.new' rfl | refine Blk.drew ?_ | refine Blk.alloc ?_ _)) hB)
  clear p0_0 p0_1 p0_2 k0_0 p1_0 p1_1 p1_2 k1_0
  clear hB
  have p0_0 := B0.out.at_ (i := 0) (v := .int .i64 cur.lv) rfl
  have p0_1 := B0.out.at_ (i := 1) (v := .int .u64 (u cur.c)) rfl
  have p0_2 := B0.out.at_ (i := 2) (v := .int .i64 cur.ig) rfl
  have k0_0 : w.heap.size < w2.heap.size := by have := B0.out.lt; omega
  have p2_0 := B2.out.at_ (i := 0) (v := .int .i64 b.lv) rfl
  have p2_1 := B2.out.at_ (i := 1) (v := .int .u64 (u b.c)) rfl
  have p2_2 := B2.out.at_ (i := 2) (v := .int .i64 b.ig) rfl
  have k2_0 : w.heap.size + 1 + 1 < w2.heap.size := by have := B2.out.lt; omega
  go_wp2_with fail
  refine (H1.out _ (HH.out.up (by repeat (first | exact HB.out | refine below_alloc ?_ _ | refine Below.drew ?_ | refine below_set ?_ (by omega) _)))).mono ?_
  rintro e w3 ⟨rfl, hB⟩
  replace HB := Lib.hid (below_call (w := w) (by repeat (first | exact HB.out | refine below_alloc ?_ _ | refine Below.drew ?_ | refine below_set ?_ (by omega) _)) hB)
  have z3 : w.heap.size ≤ w3.heap.size := HB.out.size
  replace B0 : Hid (Blk w3 (w.heap.size) 24 #[.int .i64 cur.lv, .int .u64 (u cur.c), .int .i64 cur.ig]) := Lib.hid (Blk.after (by repeat (first | exact B0.out | exact Blk.new' (by simp; done) | exact Blk.new' rfl | refine Blk.drew ?_ | refine Blk.alloc ?_ _)) hB)
  replace B1 : Hid (Blk w3 (w.heap.size + 1) 24 #[.int .i64 a.lv, .int .u64 (u a.c), .int .i64 a.ig]) := Lib.hid (Blk.after (by repeat (first | exact B1.out | exact Blk.new' (by simp; done) | exact Blk.new' rfl | refine Blk.drew ?_ | refine Blk.alloc ?_ _)) hB)
  replace B2 : Hid (Blk w3 (w.heap.size + 1 + 1) 24 #[.int .i64 b.lv, .int .u64 (u b.c), .int .i64 b.ig]) := Lib.hid (Blk.after (by repeat (first | exact B2.out | exact Blk.new' (by simp; done) | exact Blk.new' rfl | refine Blk.drew ?_ | refine Blk.alloc ?_ _)) hB)
  clear p0_0 p0_1 p0_2 k0_0 p2_0 p2_1 p2_2 k2_0
  clear hB
  have p0_0 := B0.out.at_ (i := 0) (v := .int .i64 cur.lv) rfl
  have p0_1 := B0.out.at_ (i := 1) (v := .int .u64 (u cur.c)) rfl
  have p0_2 := B0.out.at_ (i := 2) (v := .int .i64 cur.ig) rfl
  have k0_0 : w.heap.size < w3.heap.size := by have := B0.out.lt; omega
  have p1_0 := B1.out.at_ (i := 0) (v := .int .i64 a.lv) rfl
  have p1_1 := B1.out.at_ (i := 1) (v := .int .u64 (u a.c)) rfl
  have p1_2 := B1.out.at_ (i := 2) (v := .int .i64 a.ig) rfl
  have k1_0 : w.heap.size + 1 < w3.heap.size := by have := B1.out.lt; omega
  go_wp2_with fail
  refine (H2.out _).mono ?_
  rintro e w4 ⟨rfl, hB⟩
  replace HB := Lib.hid (below_call (w := w) (by repeat (first | exact HB.out | refine below_alloc ?_ _ | refine Below.drew ?_ | refine below_set ?_ (by omega) _)) hB)
  have z4 : w.heap.size ≤ w4.heap.size := HB.out.size
  replace B0 : Hid (Blk w4 (w.heap.size) 24 #[.int .i64 cur.lv, .int .u64 (u cur.c), .int .i64 cur.ig]) := Lib.hid (Blk.after (by repeat (first | exact B0.out | exact Blk.new' (by simp; done) | exact Blk.new' rfl | refine Blk.drew ?_ | refine Blk.alloc ?_ _)) hB)
  replace B1 : Hid (Blk w4 (w.heap.size + 1) 24 #[.int .i64 a.lv, .int .u64 (u a.c), .int .i64 a.ig]) := Lib.hid (Blk.after (by repeat (first | exact B1.out | exact Blk.new' (by simp; done) | exact Blk.new' rfl | refine Blk.drew ?_ | refine Blk.alloc ?_ _)) hB)
  replace B2 : Hid (Blk w4 (w.heap.size + 1 + 1) 24 #[.int .i64 b.lv, .int .u64 (u b.c), .int .i64 b.ig]) := Lib.hid (Blk.after (by repeat (first | exact B2.out | exact Blk.new' (by simp; done) | exact Blk.new' rfl | refine Blk.drew ?_ | refine Blk.alloc ?_ _)) hB)
  clear p0_0 p0_1 p0_2 k0_0 p1_0 p1_1 p1_2 k1_0
  clear hB
  have p1_0 := B1.out.at_ (i := 0) (v := .int .i64 a.lv) rfl
  have p1_1 := B1.out.at_ (i := 1) (v := .int .u64 (u a.c)) rfl
  have p1_2 := B1.out.at_ (i := 2) (v := .int .i64 a.ig) rfl
  have k1_0 : w.heap.size + 1 < w4.heap.size := by have := B1.out.lt; omega
  have p2_0 := B2.out.at_ (i := 0) (v := .int .i64 b.lv) rfl
  have p2_1 := B2.out.at_ (i := 1) (v := .int .u64 (u b.c)) rfl
  have p2_2 := B2.out.at_ (i := 2) (v := .int .i64 b.ig) rfl
  have k2_0 : w.heap.size + 1 + 1 < w4.heap.size := by have := B2.out.lt; omega
  go_wp2_with fail
  refine (H3.out _).mono ?_
  rintro e w5 ⟨rfl, hB⟩
  replace HB := Lib.hid (below_call (w := w) (by repeat (first | exact HB.out | refine below_alloc ?_ _ | refine Below.drew ?_ | refine below_set ?_ (by omega) _)) hB)
  have z5 : w.heap.size ≤ w5.heap.size := HB.out.size
  replace B0 : Hid (Blk w5 (w.heap.size) 24 #[.int .i64 cur.lv, .int .u64 (u cur.c), .int .i64 cur.ig]) := Lib.hid (Blk.after (by repeat (first | exact B0.out | exact Blk.new' (by simp; done) | exact Blk.new' rfl | refine Blk.drew ?_ | refine Blk.alloc ?_ _)) hB)
  replace B2 : Hid (Blk w5 (w.heap.size + 1 + 1) 24 #[.int .i64 b.lv, .int .u64 (u b.c), .int .i64 b.ig]) := Lib.hid (Blk.after (by repeat (first | exact B2.out | exact Blk.new' (by simp; done) | exact Blk.new' rfl | refine Blk.drew ?_ | refine Blk.alloc ?_ _)) hB)
  clear p1_0 p1_1 p1_2 k1_0 p2_0 p2_1 p2_2 k2_0
  clear hB
  have p0_0 := B0.out.at_ (i := 0) (v := .int .i64 cur.lv) rfl
  have p0_1 := B0.out.at_ (i := 1) (v := .int .u64 (u cur.c)) rfl
  have p0_2 := B0.out.at_ (i := 2) (v := .int .i64 cur.ig) rfl
  have k0_0 : w.heap.size < w5.heap.size := by have := B0.out.lt; omega
  have p2_0 := B2.out.at_ (i := 0) (v := .int .i64 b.lv) rfl
  have p2_1 := B2.out.at_ (i := 1) (v := .int .u64 (u b.c)) rfl
  have p2_2 := B2.out.at_ (i := 2) (v := .int .i64 b.ig) rfl
  have k2_0 : w.heap.size + 1 + 1 < w5.heap.size := by have := B2.out.lt; omega
  go_wp2_with fail
  refine (H4.out _).mono ?_
  rintro e w6 ⟨rfl, hB⟩
  replace HB := Lib.hid (below_call (w := w) (by repeat (first | exact HB.out | refine below_alloc ?_ _ | refine Below.drew ?_ | refine below_set ?_ (by omega) _)) hB)
  have z6 : w.heap.size ≤ w6.heap.size := HB.out.size
  clear p0_0 p0_1 p0_2 k0_0 p2_0 p2_1 p2_2 k2_0
  clear hB
  go_wp2_with fail
  go_ret
  exact ⟨rfl, (by repeat (first | exact HB.out | refine below_alloc ?_ _ | refine Below.drew ?_ | refine below_set ?_ (by omega) _))⟩
set_option maxRecDepth 100000 in
set_option maxHeartbeats 4000000 in
theorem sends_20 (cur a b : Lab) (q : Bool) (p : Bool) (m : Int) (sa : Addr) (w : World) (hh : Env sa w) (h0 : SendIs sa cur a q 0) (h1 : SendIs sa cur b p m) (h2 : UnderIs a b false) (h3 : ReadsIs cur a false) :
    Calls Tryd.prog 5 #[.agg #[.int .i64 cur.lv, .int .u64 (u cur.c), .int .i64 cur.ig], .agg #[.int .i64 a.lv, .int .u64 (u a.c), .int .i64 a.ig], .agg #[.int .i64 b.lv, .int .u64 (u b.c), .int .i64 b.ig]] w (Yes w) := by
  have H0 := Lib.hid h0
  clear h0
  have H1 := Lib.hid h1
  clear h1
  have H2 := Lib.hid h2
  clear h2
  have H3 := Lib.hid h3
  clear h3
  have HH := Lib.hid hh
  clear hh
  have HB := Lib.hid (Below.refl w.heap.size w)
  go_enter Tryd.func5, Tryd.ntmps5
  go_wp2_with fail
  refine (shown_any sa _ (HH.out.up (by repeat (first | exact HB.out | refine below_alloc ?_ _ | refine Below.drew ?_ | refine below_set ?_ (by omega) _)))).mono ?_
  rintro e w1 ⟨rfl, hB⟩
  replace HB := Lib.hid (below_call (w := w) (by repeat (first | exact HB.out | refine below_alloc ?_ _ | refine Below.drew ?_ | refine below_set ?_ (by omega) _)) hB)
  have z1 : w.heap.size ≤ w1.heap.size := HB.out.size
  have B0 : Hid (Blk w1 (w.heap.size) 24 #[.int .i64 cur.lv, .int .u64 (u cur.c), .int .i64 cur.ig]) := Lib.hid (Blk.after (by repeat (first | exact Blk.new' (by simp; done) | exact Blk.new' rfl | refine Blk.drew ?_ | refine Blk.alloc ?_ _)) hB)
  have B1 : Hid (Blk w1 (w.heap.size + 1) 24 #[.int .i64 a.lv, .int .u64 (u a.c), .int .i64 a.ig]) := Lib.hid (Blk.after (by repeat (first | exact Blk.new' (by simp; done) | exact Blk.new' rfl | refine Blk.drew ?_ | refine Blk.alloc ?_ _)) hB)
  have B2 : Hid (Blk w1 (w.heap.size + 1 + 1) 24 #[.int .i64 b.lv, .int .u64 (u b.c), .int .i64 b.ig]) := Lib.hid (Blk.after (by repeat (first | exact Blk.new' (by simp; done) | exact Blk.new' rfl | refine Blk.drew ?_ | refine Blk.alloc ?_ _)) hB)
  clear hB
  have p0_0 := B0.out.at_ (i := 0) (v := .int .i64 cur.lv) rfl
  have p0_1 := B0.out.at_ (i := 1) (v := .int .u64 (u cur.c)) rfl
  have p0_2 := B0.out.at_ (i := 2) (v := .int .i64 cur.ig) rfl
  have k0_0 : w.heap.size < w1.heap.size := by have := B0.out.lt; omega
  have p1_0 := B1.out.at_ (i := 0) (v := .int .i64 a.lv) rfl
  have p1_1 := B1.out.at_ (i := 1) (v := .int .u64 (u a.c)) rfl
  have p1_2 := B1.out.at_ (i := 2) (v := .int .i64 a.ig) rfl
  have k1_0 : w.heap.size + 1 < w1.heap.size := by have := B1.out.lt; omega
  go_wp2_with fail
  refine (H0.out _ (HH.out.up (by repeat (first | exact HB.out | refine below_alloc ?_ _ | refine Below.drew ?_ | refine below_set ?_ (by omega) _)))).mono ?_
  rintro e w2 ⟨rfl, hB⟩
  replace HB := Lib.hid (below_call (w := w) (by repeat (first | exact HB.out | refine below_alloc ?_ _ | refine Below.drew ?_ | refine below_set ?_ (by omega) _)) hB)
  have z2 : w.heap.size ≤ w2.heap.size := HB.out.size
  replace B0 : Hid (Blk w2 (w.heap.size) 24 #[.int .i64 cur.lv, .int .u64 (u cur.c), .int .i64 cur.ig]) := Lib.hid (Blk.after (by repeat (first | exact B0.out | exact Blk.new' (by simp; done) | exact Blk.new' rfl | refine Blk.drew ?_ | refine Blk.alloc ?_ _)) hB)
  replace B1 : Hid (Blk w2 (w.heap.size + 1) 24 #[.int .i64 a.lv, .int .u64 (u a.c), .int .i64 a.ig]) := Lib.hid (Blk.after (by repeat (first | exact B1.out | exact Blk.new' (by simp; done) | exact Blk.new' rfl | refine Blk.drew ?_ | refine Blk.alloc ?_ _)) hB)
  replace B2 : Hid (Blk w2 (w.heap.size + 1 + 1) 24 #[.int .i64 b.lv, .int .u64 (u b.c), .int .i64 b.ig]) := Lib.hid (Blk.after (by repeat (first | exact B2.out | exact Blk.new' (by simp; done) | exact Blk.new' rfl | refine Blk.drew ?_ | refine Blk.alloc ?_ _)) hB)
  clear p0_0 p0_1 p0_2 k0_0 p1_0 p1_1 p1_2 k1_0
  clear hB
  have p0_0 := B0.out.at_ (i := 0) (v := .int .i64 cur.lv) rfl
  have p0_1 := B0.out.at_ (i := 1) (v := .int .u64 (u cur.c)) rfl
  have p0_2 := B0.out.at_ (i := 2) (v := .int .i64 cur.ig) rfl
  have k0_0 : w.heap.size < w2.heap.size := by have := B0.out.lt; omega
  have p2_0 := B2.out.at_ (i := 0) (v := .int .i64 b.lv) rfl
  have p2_1 := B2.out.at_ (i := 1) (v := .int .u64 (u b.c)) rfl
  have p2_2 := B2.out.at_ (i := 2) (v := .int .i64 b.ig) rfl
  have k2_0 : w.heap.size + 1 + 1 < w2.heap.size := by have := B2.out.lt; omega
  go_wp2_with fail
  refine (H1.out _ (HH.out.up (by repeat (first | exact HB.out | refine below_alloc ?_ _ | refine Below.drew ?_ | refine below_set ?_ (by omega) _)))).mono ?_
  rintro e w3 ⟨rfl, hB⟩
  replace HB := Lib.hid (below_call (w := w) (by repeat (first | exact HB.out | refine below_alloc ?_ _ | refine Below.drew ?_ | refine below_set ?_ (by omega) _)) hB)
  have z3 : w.heap.size ≤ w3.heap.size := HB.out.size
  replace B0 : Hid (Blk w3 (w.heap.size) 24 #[.int .i64 cur.lv, .int .u64 (u cur.c), .int .i64 cur.ig]) := Lib.hid (Blk.after (by repeat (first | exact B0.out | exact Blk.new' (by simp; done) | exact Blk.new' rfl | refine Blk.drew ?_ | refine Blk.alloc ?_ _)) hB)
  replace B1 : Hid (Blk w3 (w.heap.size + 1) 24 #[.int .i64 a.lv, .int .u64 (u a.c), .int .i64 a.ig]) := Lib.hid (Blk.after (by repeat (first | exact B1.out | exact Blk.new' (by simp; done) | exact Blk.new' rfl | refine Blk.drew ?_ | refine Blk.alloc ?_ _)) hB)
  replace B2 : Hid (Blk w3 (w.heap.size + 1 + 1) 24 #[.int .i64 b.lv, .int .u64 (u b.c), .int .i64 b.ig]) := Lib.hid (Blk.after (by repeat (first | exact B2.out | exact Blk.new' (by simp; done) | exact Blk.new' rfl | refine Blk.drew ?_ | refine Blk.alloc ?_ _)) hB)
  clear p0_0 p0_1 p0_2 k0_0 p2_0 p2_1 p2_2 k2_0
  clear hB
  have p1_0 := B1.out.at_ (i := 0) (v := .int .i64 a.lv) rfl
  have p1_1 := B1.out.at_ (i := 1) (v := .int .u64 (u a.c)) rfl
  have p1_2 := B1.out.at_ (i := 2) (v := .int .i64 a.ig) rfl
  have k1_0 : w.heap.size + 1 < w3.heap.size := by have := B1.out.lt; omega
  have p2_0 := B2.out.at_ (i := 0) (v := .int .i64 b.lv) rfl
  have p2_1 := B2.out.at_ (i := 1) (v := .int .u64 (u b.c)) rfl
  have p2_2 := B2.out.at_ (i := 2) (v := .int .i64 b.ig) rfl
  have k2_0 : w.heap.size + 1 + 1 < w3.heap.size := by have := B2.out.lt; omega
  go_wp2_with fail
  refine (H2.out _).mono ?_
  rintro e w4 ⟨rfl, hB⟩
  replace HB := Lib.hid (below_call (w := w) (by repeat (first | exact HB.out | refine below_alloc ?_ _ | refine Below.drew ?_ | refine below_set ?_ (by omega) _)) hB)
  have z4 : w.heap.size ≤ w4.heap.size := HB.out.size
  replace B0 : Hid (Blk w4 (w.heap.size) 24 #[.int .i64 cur.lv, .int .u64 (u cur.c), .int .i64 cur.ig]) := Lib.hid (Blk.after (by repeat (first | exact B0.out | exact Blk.new' (by simp; done) | exact Blk.new' rfl | refine Blk.drew ?_ | refine Blk.alloc ?_ _)) hB)
  replace B1 : Hid (Blk w4 (w.heap.size + 1) 24 #[.int .i64 a.lv, .int .u64 (u a.c), .int .i64 a.ig]) := Lib.hid (Blk.after (by repeat (first | exact B1.out | exact Blk.new' (by simp; done) | exact Blk.new' rfl | refine Blk.drew ?_ | refine Blk.alloc ?_ _)) hB)
  clear p1_0 p1_1 p1_2 k1_0 p2_0 p2_1 p2_2 k2_0
  clear hB
  have p0_0 := B0.out.at_ (i := 0) (v := .int .i64 cur.lv) rfl
  have p0_1 := B0.out.at_ (i := 1) (v := .int .u64 (u cur.c)) rfl
  have p0_2 := B0.out.at_ (i := 2) (v := .int .i64 cur.ig) rfl
  have k0_0 : w.heap.size < w4.heap.size := by have := B0.out.lt; omega
  have p1_0 := B1.out.at_ (i := 0) (v := .int .i64 a.lv) rfl
  have p1_1 := B1.out.at_ (i := 1) (v := .int .u64 (u a.c)) rfl
  have p1_2 := B1.out.at_ (i := 2) (v := .int .i64 a.ig) rfl
  have k1_0 : w.heap.size + 1 < w4.heap.size := by have := B1.out.lt; omega
  go_wp2_with fail
  refine (H3.out _).mono ?_
  rintro e w5 ⟨rfl, hB⟩
  replace HB := Lib.hid (below_call (w := w) (by repeat (first | exact HB.out | refine below_alloc ?_ _ | refine Below.drew ?_ | refine below_set ?_ (by omega) _)) hB)
  have z5 : w.heap.size ≤ w5.heap.size := HB.out.size
  clear p0_0 p0_1 p0_2 k0_0 p1_0 p1_1 p1_2 k1_0
  clear hB
  go_wp2_with fail
  go_ret
  exact ⟨rfl, (by repeat (first | exact HB.out | refine below_alloc ?_ _ | refine Below.drew ?_ | refine below_set ?_ (by omega) _))⟩
set_option maxRecDepth 100000 in
set_option maxHeartbeats 4000000 in
theorem sends_21 (cur a b : Lab) (q : Bool) (p : Bool) (m : Int) (sa : Addr) (w : World) (hh : Env sa w) (h0 : SendIs sa cur a q 0) (h1 : SendIs sa cur b p m) (h2 : UnderIs a b false) (h3 : ReadsIs cur a true) (h4 : UnderIs b a false) :
    Calls Tryd.prog 5 #[.agg #[.int .i64 cur.lv, .int .u64 (u cur.c), .int .i64 cur.ig], .agg #[.int .i64 a.lv, .int .u64 (u a.c), .int .i64 a.ig], .agg #[.int .i64 b.lv, .int .u64 (u b.c), .int .i64 b.ig]] w (Yes w) := by
  have H0 := Lib.hid h0
  clear h0
  have H1 := Lib.hid h1
  clear h1
  have H2 := Lib.hid h2
  clear h2
  have H3 := Lib.hid h3
  clear h3
  have H4 := Lib.hid h4
  clear h4
  have HH := Lib.hid hh
  clear hh
  have HB := Lib.hid (Below.refl w.heap.size w)
  go_enter Tryd.func5, Tryd.ntmps5
  go_wp2_with fail
  refine (shown_any sa _ (HH.out.up (by repeat (first | exact HB.out | refine below_alloc ?_ _ | refine Below.drew ?_ | refine below_set ?_ (by omega) _)))).mono ?_
  rintro e w1 ⟨rfl, hB⟩
  replace HB := Lib.hid (below_call (w := w) (by repeat (first | exact HB.out | refine below_alloc ?_ _ | refine Below.drew ?_ | refine below_set ?_ (by omega) _)) hB)
  have z1 : w.heap.size ≤ w1.heap.size := HB.out.size
  have B0 : Hid (Blk w1 (w.heap.size) 24 #[.int .i64 cur.lv, .int .u64 (u cur.c), .int .i64 cur.ig]) := Lib.hid (Blk.after (by repeat (first | exact Blk.new' (by simp; done) | exact Blk.new' rfl | refine Blk.drew ?_ | refine Blk.alloc ?_ _)) hB)
  have B1 : Hid (Blk w1 (w.heap.size + 1) 24 #[.int .i64 a.lv, .int .u64 (u a.c), .int .i64 a.ig]) := Lib.hid (Blk.after (by repeat (first | exact Blk.new' (by simp; done) | exact Blk.new' rfl | refine Blk.drew ?_ | refine Blk.alloc ?_ _)) hB)
  have B2 : Hid (Blk w1 (w.heap.size + 1 + 1) 24 #[.int .i64 b.lv, .int .u64 (u b.c), .int .i64 b.ig]) := Lib.hid (Blk.after (by repeat (first | exact Blk.new' (by simp; done) | exact Blk.new' rfl | refine Blk.drew ?_ | refine Blk.alloc ?_ _)) hB)
  clear hB
  have p0_0 := B0.out.at_ (i := 0) (v := .int .i64 cur.lv) rfl
  have p0_1 := B0.out.at_ (i := 1) (v := .int .u64 (u cur.c)) rfl
  have p0_2 := B0.out.at_ (i := 2) (v := .int .i64 cur.ig) rfl
  have k0_0 : w.heap.size < w1.heap.size := by have := B0.out.lt; omega
  have p1_0 := B1.out.at_ (i := 0) (v := .int .i64 a.lv) rfl
  have p1_1 := B1.out.at_ (i := 1) (v := .int .u64 (u a.c)) rfl
  have p1_2 := B1.out.at_ (i := 2) (v := .int .i64 a.ig) rfl
  have k1_0 : w.heap.size + 1 < w1.heap.size := by have := B1.out.lt; omega
  go_wp2_with fail
  refine (H0.out _ (HH.out.up (by repeat (first | exact HB.out | refine below_alloc ?_ _ | refine Below.drew ?_ | refine below_set ?_ (by omega) _)))).mono ?_
  rintro e w2 ⟨rfl, hB⟩
  replace HB := Lib.hid (below_call (w := w) (by repeat (first | exact HB.out | refine below_alloc ?_ _ | refine Below.drew ?_ | refine below_set ?_ (by omega) _)) hB)
  have z2 : w.heap.size ≤ w2.heap.size := HB.out.size
  replace B0 : Hid (Blk w2 (w.heap.size) 24 #[.int .i64 cur.lv, .int .u64 (u cur.c), .int .i64 cur.ig]) := Lib.hid (Blk.after (by repeat (first | exact B0.out | exact Blk.new' (by simp; done) | exact Blk.new' rfl | refine Blk.drew ?_ | refine Blk.alloc ?_ _)) hB)
  replace B1 : Hid (Blk w2 (w.heap.size + 1) 24 #[.int .i64 a.lv, .int .u64 (u a.c), .int .i64 a.ig]) := Lib.hid (Blk.after (by repeat (first | exact B1.out | exact Blk.new' (by simp; done) | exact Blk.new' rfl | refine Blk.drew ?_ | refine Blk.alloc ?_ _)) hB)
  replace B2 : Hid (Blk w2 (w.heap.size + 1 + 1) 24 #[.int .i64 b.lv, .int .u64 (u b.c), .int .i64 b.ig]) := Lib.hid (Blk.after (by repeat (first | exact B2.out | exact Blk.new' (by simp; done) | exact Blk.new' rfl | refine Blk.drew ?_ | refine Blk.alloc ?_ _)) hB)
  clear p0_0 p0_1 p0_2 k0_0 p1_0 p1_1 p1_2 k1_0
  clear hB
  have p0_0 := B0.out.at_ (i := 0) (v := .int .i64 cur.lv) rfl
  have p0_1 := B0.out.at_ (i := 1) (v := .int .u64 (u cur.c)) rfl
  have p0_2 := B0.out.at_ (i := 2) (v := .int .i64 cur.ig) rfl
  have k0_0 : w.heap.size < w2.heap.size := by have := B0.out.lt; omega
  have p2_0 := B2.out.at_ (i := 0) (v := .int .i64 b.lv) rfl
  have p2_1 := B2.out.at_ (i := 1) (v := .int .u64 (u b.c)) rfl
  have p2_2 := B2.out.at_ (i := 2) (v := .int .i64 b.ig) rfl
  have k2_0 : w.heap.size + 1 + 1 < w2.heap.size := by have := B2.out.lt; omega
  go_wp2_with fail
  refine (H1.out _ (HH.out.up (by repeat (first | exact HB.out | refine below_alloc ?_ _ | refine Below.drew ?_ | refine below_set ?_ (by omega) _)))).mono ?_
  rintro e w3 ⟨rfl, hB⟩
  replace HB := Lib.hid (below_call (w := w) (by repeat (first | exact HB.out | refine below_alloc ?_ _ | refine Below.drew ?_ | refine below_set ?_ (by omega) _)) hB)
  have z3 : w.heap.size ≤ w3.heap.size := HB.out.size
  replace B0 : Hid (Blk w3 (w.heap.size) 24 #[.int .i64 cur.lv, .int .u64 (u cur.c), .int .i64 cur.ig]) := Lib.hid (Blk.after (by repeat (first | exact B0.out | exact Blk.new' (by simp; done) | exact Blk.new' rfl | refine Blk.drew ?_ | refine Blk.alloc ?_ _)) hB)
  replace B1 : Hid (Blk w3 (w.heap.size + 1) 24 #[.int .i64 a.lv, .int .u64 (u a.c), .int .i64 a.ig]) := Lib.hid (Blk.after (by repeat (first | exact B1.out | exact Blk.new' (by simp; done) | exact Blk.new' rfl | refine Blk.drew ?_ | refine Blk.alloc ?_ _)) hB)
  replace B2 : Hid (Blk w3 (w.heap.size + 1 + 1) 24 #[.int .i64 b.lv, .int .u64 (u b.c), .int .i64 b.ig]) := Lib.hid (Blk.after (by repeat (first | exact B2.out | exact Blk.new' (by simp; done) | exact Blk.new' rfl | refine Blk.drew ?_ | refine Blk.alloc ?_ _)) hB)
  clear p0_0 p0_1 p0_2 k0_0 p2_0 p2_1 p2_2 k2_0
  clear hB
  have p1_0 := B1.out.at_ (i := 0) (v := .int .i64 a.lv) rfl
  have p1_1 := B1.out.at_ (i := 1) (v := .int .u64 (u a.c)) rfl
  have p1_2 := B1.out.at_ (i := 2) (v := .int .i64 a.ig) rfl
  have k1_0 : w.heap.size + 1 < w3.heap.size := by have := B1.out.lt; omega
  have p2_0 := B2.out.at_ (i := 0) (v := .int .i64 b.lv) rfl
  have p2_1 := B2.out.at_ (i := 1) (v := .int .u64 (u b.c)) rfl
  have p2_2 := B2.out.at_ (i := 2) (v := .int .i64 b.ig) rfl
  have k2_0 : w.heap.size + 1 + 1 < w3.heap.size := by have := B2.out.lt; omega
  go_wp2_with fail
  refine (H2.out _).mono ?_
  rintro e w4 ⟨rfl, hB⟩
  replace HB := Lib.hid (below_call (w := w) (by repeat (first | exact HB.out | refine below_alloc ?_ _ | refine Below.drew ?_ | refine below_set ?_ (by omega) _)) hB)
  have z4 : w.heap.size ≤ w4.heap.size := HB.out.size
  replace B0 : Hid (Blk w4 (w.heap.size) 24 #[.int .i64 cur.lv, .int .u64 (u cur.c), .int .i64 cur.ig]) := Lib.hid (Blk.after (by repeat (first | exact B0.out | exact Blk.new' (by simp; done) | exact Blk.new' rfl | refine Blk.drew ?_ | refine Blk.alloc ?_ _)) hB)
  replace B1 : Hid (Blk w4 (w.heap.size + 1) 24 #[.int .i64 a.lv, .int .u64 (u a.c), .int .i64 a.ig]) := Lib.hid (Blk.after (by repeat (first | exact B1.out | exact Blk.new' (by simp; done) | exact Blk.new' rfl | refine Blk.drew ?_ | refine Blk.alloc ?_ _)) hB)
  replace B2 : Hid (Blk w4 (w.heap.size + 1 + 1) 24 #[.int .i64 b.lv, .int .u64 (u b.c), .int .i64 b.ig]) := Lib.hid (Blk.after (by repeat (first | exact B2.out | exact Blk.new' (by simp; done) | exact Blk.new' rfl | refine Blk.drew ?_ | refine Blk.alloc ?_ _)) hB)
  clear p1_0 p1_1 p1_2 k1_0 p2_0 p2_1 p2_2 k2_0
  clear hB
  have p0_0 := B0.out.at_ (i := 0) (v := .int .i64 cur.lv) rfl
  have p0_1 := B0.out.at_ (i := 1) (v := .int .u64 (u cur.c)) rfl
  have p0_2 := B0.out.at_ (i := 2) (v := .int .i64 cur.ig) rfl
  have k0_0 : w.heap.size < w4.heap.size := by have := B0.out.lt; omega
  have p1_0 := B1.out.at_ (i := 0) (v := .int .i64 a.lv) rfl
  have p1_1 := B1.out.at_ (i := 1) (v := .int .u64 (u a.c)) rfl
  have p1_2 := B1.out.at_ (i := 2) (v := .int .i64 a.ig) rfl
  have k1_0 : w.heap.size + 1 < w4.heap.size := by have := B1.out.lt; omega
  go_wp2_with fail
  refine (H3.out _).mono ?_
  rintro e w5 ⟨rfl, hB⟩
  replace HB := Lib.hid (below_call (w := w) (by repeat (first | exact HB.out | refine below_alloc ?_ _ | refine Below.drew ?_ | refine below_set ?_ (by omega) _)) hB)
  have z5 : w.heap.size ≤ w5.heap.size := HB.out.size
  replace B1 : Hid (Blk w5 (w.heap.size + 1) 24 #[.int .i64 a.lv, .int .u64 (u a.c), .int .i64 a.ig]) := Lib.hid (Blk.after (by repeat (first | exact B1.out | exact Blk.new' (by simp; done) | exact Blk.new' rfl | refine Blk.drew ?_ | refine Blk.alloc ?_ _)) hB)
  replace B2 : Hid (Blk w5 (w.heap.size + 1 + 1) 24 #[.int .i64 b.lv, .int .u64 (u b.c), .int .i64 b.ig]) := Lib.hid (Blk.after (by repeat (first | exact B2.out | exact Blk.new' (by simp; done) | exact Blk.new' rfl | refine Blk.drew ?_ | refine Blk.alloc ?_ _)) hB)
  clear p0_0 p0_1 p0_2 k0_0 p1_0 p1_1 p1_2 k1_0
  clear hB
  have p1_0 := B1.out.at_ (i := 0) (v := .int .i64 a.lv) rfl
  have p1_1 := B1.out.at_ (i := 1) (v := .int .u64 (u a.c)) rfl
  have p1_2 := B1.out.at_ (i := 2) (v := .int .i64 a.ig) rfl
  have k1_0 : w.heap.size + 1 < w5.heap.size := by have := B1.out.lt; omega
  have p2_0 := B2.out.at_ (i := 0) (v := .int .i64 b.lv) rfl
  have p2_1 := B2.out.at_ (i := 1) (v := .int .u64 (u b.c)) rfl
  have p2_2 := B2.out.at_ (i := 2) (v := .int .i64 b.ig) rfl
  have k2_0 : w.heap.size + 1 + 1 < w5.heap.size := by have := B2.out.lt; omega
  go_wp2_with fail
  refine (H4.out _).mono ?_
  rintro e w6 ⟨rfl, hB⟩
  replace HB := Lib.hid (below_call (w := w) (by repeat (first | exact HB.out | refine below_alloc ?_ _ | refine Below.drew ?_ | refine below_set ?_ (by omega) _)) hB)
  have z6 : w.heap.size ≤ w6.heap.size := HB.out.size
  clear p1_0 p1_1 p1_2 k1_0 p2_0 p2_1 p2_2 k2_0
  clear hB
  go_wp2_with fail
  go_ret
  exact ⟨rfl, (by repeat (first | exact HB.out | refine below_alloc ?_ _ | refine Below.drew ?_ | refine below_set ?_ (by omega) _))⟩
set_option maxRecDepth 100000 in
set_option maxHeartbeats 4000000 in
theorem sends_22 (cur a b : Lab) (q : Bool) (p : Bool) (m : Int) (sa : Addr) (w : World) (hh : Env sa w) (h0 : SendIs sa cur a q 0) (h1 : SendIs sa cur b p m) (h2 : UnderIs a b false) (h3 : ReadsIs cur a true) (h4 : UnderIs b a true) (h5 : ReadsIs cur b true) :
    Calls Tryd.prog 5 #[.agg #[.int .i64 cur.lv, .int .u64 (u cur.c), .int .i64 cur.ig], .agg #[.int .i64 a.lv, .int .u64 (u a.c), .int .i64 a.ig], .agg #[.int .i64 b.lv, .int .u64 (u b.c), .int .i64 b.ig]] w (Yes w) := by
  have H0 := Lib.hid h0
  clear h0
  have H1 := Lib.hid h1
  clear h1
  have H2 := Lib.hid h2
  clear h2
  have H3 := Lib.hid h3
  clear h3
  have H4 := Lib.hid h4
  clear h4
  have H5 := Lib.hid h5
  clear h5
  have HH := Lib.hid hh
  clear hh
  have HB := Lib.hid (Below.refl w.heap.size w)
  go_enter Tryd.func5, Tryd.ntmps5
  go_wp2_with fail
  refine (shown_any sa _ (HH.out.up (by repeat (first | exact HB.out | refine below_alloc ?_ _ | refine Below.drew ?_ | refine below_set ?_ (by omega) _)))).mono ?_
  rintro e w1 ⟨rfl, hB⟩
  replace HB := Lib.hid (below_call (w := w) (by repeat (first | exact HB.out | refine below_alloc ?_ _ | refine Below.drew ?_ | refine below_set ?_ (by omega) _)) hB)
  have z1 : w.heap.size ≤ w1.heap.size := HB.out.size
  have B0 : Hid (Blk w1 (w.heap.size) 24 #[.int .i64 cur.lv, .int .u64 (u cur.c), .int .i64 cur.ig]) := Lib.hid (Blk.after (by repeat (first | exact Blk.new' (by simp; done) | exact Blk.new' rfl | refine Blk.drew ?_ | refine Blk.alloc ?_ _)) hB)
  have B1 : Hid (Blk w1 (w.heap.size + 1) 24 #[.int .i64 a.lv, .int .u64 (u a.c), .int .i64 a.ig]) := Lib.hid (Blk.after (by repeat (first | exact Blk.new' (by simp; done) | exact Blk.new' rfl | refine Blk.drew ?_ | refine Blk.alloc ?_ _)) hB)
  have B2 : Hid (Blk w1 (w.heap.size + 1 + 1) 24 #[.int .i64 b.lv, .int .u64 (u b.c), .int .i64 b.ig]) := Lib.hid (Blk.after (by repeat (first | exact Blk.new' (by simp; done) | exact Blk.new' rfl | refine Blk.drew ?_ | refine Blk.alloc ?_ _)) hB)
  clear hB
  have p0_0 := B0.out.at_ (i := 0) (v := .int .i64 cur.lv) rfl
  have p0_1 := B0.out.at_ (i := 1) (v := .int .u64 (u cur.c)) rfl
  have p0_2 := B0.out.at_ (i := 2) (v := .int .i64 cur.ig) rfl
  have k0_0 : w.heap.size < w1.heap.size := by have := B0.out.lt; omega
  have p1_0 := B1.out.at_ (i := 0) (v := .int .i64 a.lv) rfl
  have p1_1 := B1.out.at_ (i := 1) (v := .int .u64 (u a.c)) rfl
  have p1_2 := B1.out.at_ (i := 2) (v := .int .i64 a.ig) rfl
  have k1_0 : w.heap.size + 1 < w1.heap.size := by have := B1.out.lt; omega
  go_wp2_with fail
  refine (H0.out _ (HH.out.up (by repeat (first | exact HB.out | refine below_alloc ?_ _ | refine Below.drew ?_ | refine below_set ?_ (by omega) _)))).mono ?_
  rintro e w2 ⟨rfl, hB⟩
  replace HB := Lib.hid (below_call (w := w) (by repeat (first | exact HB.out | refine below_alloc ?_ _ | refine Below.drew ?_ | refine below_set ?_ (by omega) _)) hB)
  have z2 : w.heap.size ≤ w2.heap.size := HB.out.size
  replace B0 : Hid (Blk w2 (w.heap.size) 24 #[.int .i64 cur.lv, .int .u64 (u cur.c), .int .i64 cur.ig]) := Lib.hid (Blk.after (by repeat (first | exact B0.out | exact Blk.new' (by simp; done) | exact Blk.new' rfl | refine Blk.drew ?_ | refine Blk.alloc ?_ _)) hB)
  replace B1 : Hid (Blk w2 (w.heap.size + 1) 24 #[.int .i64 a.lv, .int .u64 (u a.c), .int .i64 a.ig]) := Lib.hid (Blk.after (by repeat (first | exact B1.out | exact Blk.new' (by simp; done) | exact Blk.new' rfl | refine Blk.drew ?_ | refine Blk.alloc ?_ _)) hB)
  replace B2 : Hid (Blk w2 (w.heap.size + 1 + 1) 24 #[.int .i64 b.lv, .int .u64 (u b.c), .int .i64 b.ig]) := Lib.hid (Blk.after (by repeat (first | exact B2.out | exact Blk.new' (by simp; done) | exact Blk.new' rfl | refine Blk.drew ?_ | refine Blk.alloc ?_ _)) hB)
  clear p0_0 p0_1 p0_2 k0_0 p1_0 p1_1 p1_2 k1_0
  clear hB
  have p0_0 := B0.out.at_ (i := 0) (v := .int .i64 cur.lv) rfl
  have p0_1 := B0.out.at_ (i := 1) (v := .int .u64 (u cur.c)) rfl
  have p0_2 := B0.out.at_ (i := 2) (v := .int .i64 cur.ig) rfl
  have k0_0 : w.heap.size < w2.heap.size := by have := B0.out.lt; omega
  have p2_0 := B2.out.at_ (i := 0) (v := .int .i64 b.lv) rfl
  have p2_1 := B2.out.at_ (i := 1) (v := .int .u64 (u b.c)) rfl
  have p2_2 := B2.out.at_ (i := 2) (v := .int .i64 b.ig) rfl
  have k2_0 : w.heap.size + 1 + 1 < w2.heap.size := by have := B2.out.lt; omega
  go_wp2_with fail
  refine (H1.out _ (HH.out.up (by repeat (first | exact HB.out | refine below_alloc ?_ _ | refine Below.drew ?_ | refine below_set ?_ (by omega) _)))).mono ?_
  rintro e w3 ⟨rfl, hB⟩
  replace HB := Lib.hid (below_call (w := w) (by repeat (first | exact HB.out | refine below_alloc ?_ _ | refine Below.drew ?_ | refine below_set ?_ (by omega) _)) hB)
  have z3 : w.heap.size ≤ w3.heap.size := HB.out.size
  replace B0 : Hid (Blk w3 (w.heap.size) 24 #[.int .i64 cur.lv, .int .u64 (u cur.c), .int .i64 cur.ig]) := Lib.hid (Blk.after (by repeat (first | exact B0.out | exact Blk.new' (by simp; done) | exact Blk.new' rfl | refine Blk.drew ?_ | refine Blk.alloc ?_ _)) hB)
  replace B1 : Hid (Blk w3 (w.heap.size + 1) 24 #[.int .i64 a.lv, .int .u64 (u a.c), .int .i64 a.ig]) := Lib.hid (Blk.after (by repeat (first | exact B1.out | exact Blk.new' (by simp; done) | exact Blk.new' rfl | refine Blk.drew ?_ | refine Blk.alloc ?_ _)) hB)
  replace B2 : Hid (Blk w3 (w.heap.size + 1 + 1) 24 #[.int .i64 b.lv, .int .u64 (u b.c), .int .i64 b.ig]) := Lib.hid (Blk.after (by repeat (first | exact B2.out | exact Blk.new' (by simp; done) | exact Blk.new' rfl | refine Blk.drew ?_ | refine Blk.alloc ?_ _)) hB)
  clear p0_0 p0_1 p0_2 k0_0 p2_0 p2_1 p2_2 k2_0
  clear hB
  have p1_0 := B1.out.at_ (i := 0) (v := .int .i64 a.lv) rfl
  have p1_1 := B1.out.at_ (i := 1) (v := .int .u64 (u a.c)) rfl
  have p1_2 := B1.out.at_ (i := 2) (v := .int .i64 a.ig) rfl
  have k1_0 : w.heap.size + 1 < w3.heap.size := by have := B1.out.lt; omega
  have p2_0 := B2.out.at_ (i := 0) (v := .int .i64 b.lv) rfl
  have p2_1 := B2.out.at_ (i := 1) (v := .int .u64 (u b.c)) rfl
  have p2_2 := B2.out.at_ (i := 2) (v := .int .i64 b.ig) rfl
  have k2_0 : w.heap.size + 1 + 1 < w3.heap.size := by have := B2.out.lt; omega
  go_wp2_with fail
  refine (H2.out _).mono ?_
  rintro e w4 ⟨rfl, hB⟩
  replace HB := Lib.hid (below_call (w := w) (by repeat (first | exact HB.out | refine below_alloc ?_ _ | refine Below.drew ?_ | refine below_set ?_ (by omega) _)) hB)
  have z4 : w.heap.size ≤ w4.heap.size := HB.out.size
  replace B0 : Hid (Blk w4 (w.heap.size) 24 #[.int .i64 cur.lv, .int .u64 (u cur.c), .int .i64 cur.ig]) := Lib.hid (Blk.after (by repeat (first | exact B0.out | exact Blk.new' (by simp; done) | exact Blk.new' rfl | refine Blk.drew ?_ | refine Blk.alloc ?_ _)) hB)
  replace B1 : Hid (Blk w4 (w.heap.size + 1) 24 #[.int .i64 a.lv, .int .u64 (u a.c), .int .i64 a.ig]) := Lib.hid (Blk.after (by repeat (first | exact B1.out | exact Blk.new' (by simp; done) | exact Blk.new' rfl | refine Blk.drew ?_ | refine Blk.alloc ?_ _)) hB)
  replace B2 : Hid (Blk w4 (w.heap.size + 1 + 1) 24 #[.int .i64 b.lv, .int .u64 (u b.c), .int .i64 b.ig]) := Lib.hid (Blk.after (by repeat (first | exact B2.out | exact Blk.new' (by simp; done) | exact Blk.new' rfl | refine Blk.drew ?_ | refine Blk.alloc ?_ _)) hB)
  clear p1_0 p1_1 p1_2 k1_0 p2_0 p2_1 p2_2 k2_0
  clear hB
  have p0_0 := B0.out.at_ (i := 0) (v := .int .i64 cur.lv) rfl
  have p0_1 := B0.out.at_ (i := 1) (v := .int .u64 (u cur.c)) rfl
  have p0_2 := B0.out.at_ (i := 2) (v := .int .i64 cur.ig) rfl
  have k0_0 : w.heap.size < w4.heap.size := by have := B0.out.lt; omega
  have p1_0 := B1.out.at_ (i := 0) (v := .int .i64 a.lv) rfl
  have p1_1 := B1.out.at_ (i := 1) (v := .int .u64 (u a.c)) rfl
  have p1_2 := B1.out.at_ (i := 2) (v := .int .i64 a.ig) rfl
  have k1_0 : w.heap.size + 1 < w4.heap.size := by have := B1.out.lt; omega
  go_wp2_with fail
  refine (H3.out _).mono ?_
  rintro e w5 ⟨rfl, hB⟩
  replace HB := Lib.hid (below_call (w := w) (by repeat (first | exact HB.out | refine below_alloc ?_ _ | refine Below.drew ?_ | refine below_set ?_ (by omega) _)) hB)
  have z5 : w.heap.size ≤ w5.heap.size := HB.out.size
  replace B0 : Hid (Blk w5 (w.heap.size) 24 #[.int .i64 cur.lv, .int .u64 (u cur.c), .int .i64 cur.ig]) := Lib.hid (Blk.after (by repeat (first | exact B0.out | exact Blk.new' (by simp; done) | exact Blk.new' rfl | refine Blk.drew ?_ | refine Blk.alloc ?_ _)) hB)
  replace B1 : Hid (Blk w5 (w.heap.size + 1) 24 #[.int .i64 a.lv, .int .u64 (u a.c), .int .i64 a.ig]) := Lib.hid (Blk.after (by repeat (first | exact B1.out | exact Blk.new' (by simp; done) | exact Blk.new' rfl | refine Blk.drew ?_ | refine Blk.alloc ?_ _)) hB)
  replace B2 : Hid (Blk w5 (w.heap.size + 1 + 1) 24 #[.int .i64 b.lv, .int .u64 (u b.c), .int .i64 b.ig]) := Lib.hid (Blk.after (by repeat (first | exact B2.out | exact Blk.new' (by simp; done) | exact Blk.new' rfl | refine Blk.drew ?_ | refine Blk.alloc ?_ _)) hB)
  clear p0_0 p0_1 p0_2 k0_0 p1_0 p1_1 p1_2 k1_0
  clear hB
  have p1_0 := B1.out.at_ (i := 0) (v := .int .i64 a.lv) rfl
  have p1_1 := B1.out.at_ (i := 1) (v := .int .u64 (u a.c)) rfl
  have p1_2 := B1.out.at_ (i := 2) (v := .int .i64 a.ig) rfl
  have k1_0 : w.heap.size + 1 < w5.heap.size := by have := B1.out.lt; omega
  have p2_0 := B2.out.at_ (i := 0) (v := .int .i64 b.lv) rfl
  have p2_1 := B2.out.at_ (i := 1) (v := .int .u64 (u b.c)) rfl
  have p2_2 := B2.out.at_ (i := 2) (v := .int .i64 b.ig) rfl
  have k2_0 : w.heap.size + 1 + 1 < w5.heap.size := by have := B2.out.lt; omega
  go_wp2_with fail
  refine (H4.out _).mono ?_
  rintro e w6 ⟨rfl, hB⟩
  replace HB := Lib.hid (below_call (w := w) (by repeat (first | exact HB.out | refine below_alloc ?_ _ | refine Below.drew ?_ | refine below_set ?_ (by omega) _)) hB)
  have z6 : w.heap.size ≤ w6.heap.size := HB.out.size
  replace B0 : Hid (Blk w6 (w.heap.size) 24 #[.int .i64 cur.lv, .int .u64 (u cur.c), .int .i64 cur.ig]) := Lib.hid (Blk.after (by repeat (first | exact B0.out | exact Blk.new' (by simp; done) | exact Blk.new' rfl | refine Blk.drew ?_ | refine Blk.alloc ?_ _)) hB)
  replace B2 : Hid (Blk w6 (w.heap.size + 1 + 1) 24 #[.int .i64 b.lv, .int .u64 (u b.c), .int .i64 b.ig]) := Lib.hid (Blk.after (by repeat (first | exact B2.out | exact Blk.new' (by simp; done) | exact Blk.new' rfl | refine Blk.drew ?_ | refine Blk.alloc ?_ _)) hB)
  clear p1_0 p1_1 p1_2 k1_0 p2_0 p2_1 p2_2 k2_0
  clear hB
  have p0_0 := B0.out.at_ (i := 0) (v := .int .i64 cur.lv) rfl
  have p0_1 := B0.out.at_ (i := 1) (v := .int .u64 (u cur.c)) rfl
  have p0_2 := B0.out.at_ (i := 2) (v := .int .i64 cur.ig) rfl
  have k0_0 : w.heap.size < w6.heap.size := by have := B0.out.lt; omega
  have p2_0 := B2.out.at_ (i := 0) (v := .int .i64 b.lv) rfl
  have p2_1 := B2.out.at_ (i := 1) (v := .int .u64 (u b.c)) rfl
  have p2_2 := B2.out.at_ (i := 2) (v := .int .i64 b.ig) rfl
  have k2_0 : w.heap.size + 1 + 1 < w6.heap.size := by have := B2.out.lt; omega
  go_wp2_with fail
  refine (H5.out _).mono ?_
  rintro e w7 ⟨rfl, hB⟩
  replace HB := Lib.hid (below_call (w := w) (by repeat (first | exact HB.out | refine below_alloc ?_ _ | refine Below.drew ?_ | refine below_set ?_ (by omega) _)) hB)
  have z7 : w.heap.size ≤ w7.heap.size := HB.out.size
  clear p0_0 p0_1 p0_2 k0_0 p2_0 p2_1 p2_2 k2_0
  clear hB
  go_wp2_with fail
  go_ret
  exact ⟨rfl, (by repeat (first | exact HB.out | refine below_alloc ?_ _ | refine Below.drew ?_ | refine below_set ?_ (by omega) _))⟩
set_option maxRecDepth 100000 in
set_option maxHeartbeats 4000000 in
theorem sends_30 (cur a b : Lab) (q : Bool) (p : Bool) (sa : Addr) (w : World) (hh : Env sa w) (h0 : SendIs sa cur a q 0) (h1 : SendIs sa cur b p 0) (h2 : UnderIs a b true) (h3 : ReadsIs cur a false) :
    Calls Tryd.prog 5 #[.agg #[.int .i64 cur.lv, .int .u64 (u cur.c), .int .i64 cur.ig], .agg #[.int .i64 a.lv, .int .u64 (u a.c), .int .i64 a.ig], .agg #[.int .i64 b.lv, .int .u64 (u b.c), .int .i64 b.ig]] w (Yes w) := by
  have H0 := Lib.hid h0
  clear h0
  have H1 := Lib.hid h1
  clear h1
  have H2 := Lib.hid h2
  clear h2
  have H3 := Lib.hid h3
  clear h3
  have HH := Lib.hid hh
  clear hh
  have HB := Lib.hid (Below.refl w.heap.size w)
  go_enter Tryd.func5, Tryd.ntmps5
  go_wp2_with fail
  refine (shown_any sa _ (HH.out.up (by repeat (first | exact HB.out | refine below_alloc ?_ _ | refine Below.drew ?_ | refine below_set ?_ (by omega) _)))).mono ?_
  rintro e w1 ⟨rfl, hB⟩
  replace HB := Lib.hid (below_call (w := w) (by repeat (first | exact HB.out | refine below_alloc ?_ _ | refine Below.drew ?_ | refine below_set ?_ (by omega) _)) hB)
  have z1 : w.heap.size ≤ w1.heap.size := HB.out.size
  have B0 : Hid (Blk w1 (w.heap.size) 24 #[.int .i64 cur.lv, .int .u64 (u cur.c), .int .i64 cur.ig]) := Lib.hid (Blk.after (by repeat (first | exact Blk.new' (by simp; done) | exact Blk.new' rfl | refine Blk.drew ?_ | refine Blk.alloc ?_ _)) hB)
  have B1 : Hid (Blk w1 (w.heap.size + 1) 24 #[.int .i64 a.lv, .int .u64 (u a.c), .int .i64 a.ig]) := Lib.hid (Blk.after (by repeat (first | exact Blk.new' (by simp; done) | exact Blk.new' rfl | refine Blk.drew ?_ | refine Blk.alloc ?_ _)) hB)
  have B2 : Hid (Blk w1 (w.heap.size + 1 + 1) 24 #[.int .i64 b.lv, .int .u64 (u b.c), .int .i64 b.ig]) := Lib.hid (Blk.after (by repeat (first | exact Blk.new' (by simp; done) | exact Blk.new' rfl | refine Blk.drew ?_ | refine Blk.alloc ?_ _)) hB)
  clear hB
  have p0_0 := B0.out.at_ (i := 0) (v := .int .i64 cur.lv) rfl
  have p0_1 := B0.out.at_ (i := 1) (v := .int .u64 (u cur.c)) rfl
  have p0_2 := B0.out.at_ (i := 2) (v := .int .i64 cur.ig) rfl
  have k0_0 : w.heap.size < w1.heap.size := by have := B0.out.lt; omega
  have p1_0 := B1.out.at_ (i := 0) (v := .int .i64 a.lv) rfl
  have p1_1 := B1.out.at_ (i := 1) (v := .int .u64 (u a.c)) rfl
  have p1_2 := B1.out.at_ (i := 2) (v := .int .i64 a.ig) rfl
  have k1_0 : w.heap.size + 1 < w1.heap.size := by have := B1.out.lt; omega
  go_wp2_with fail
  refine (H0.out _ (HH.out.up (by repeat (first | exact HB.out | refine below_alloc ?_ _ | refine Below.drew ?_ | refine below_set ?_ (by omega) _)))).mono ?_
  rintro e w2 ⟨rfl, hB⟩
  replace HB := Lib.hid (below_call (w := w) (by repeat (first | exact HB.out | refine below_alloc ?_ _ | refine Below.drew ?_ | refine below_set ?_ (by omega) _)) hB)
  have z2 : w.heap.size ≤ w2.heap.size := HB.out.size
  replace B0 : Hid (Blk w2 (w.heap.size) 24 #[.int .i64 cur.lv, .int .u64 (u cur.c), .int .i64 cur.ig]) := Lib.hid (Blk.after (by repeat (first | exact B0.out | exact Blk.new' (by simp; done) | exact Blk.new' rfl | refine Blk.drew ?_ | refine Blk.alloc ?_ _)) hB)
  replace B1 : Hid (Blk w2 (w.heap.size + 1) 24 #[.int .i64 a.lv, .int .u64 (u a.c), .int .i64 a.ig]) := Lib.hid (Blk.after (by repeat (first | exact B1.out | exact Blk.new' (by simp; done) | exact Blk.new' rfl | refine Blk.drew ?_ | refine Blk.alloc ?_ _)) hB)
  replace B2 : Hid (Blk w2 (w.heap.size + 1 + 1) 24 #[.int .i64 b.lv, .int .u64 (u b.c), .int .i64 b.ig]) := Lib.hid (Blk.after (by repeat (first | exact B2.out | exact Blk.new' (by simp; done) | exact Blk.new' rfl | refine Blk.drew ?_ | refine Blk.alloc ?_ _)) hB)
  clear p0_0 p0_1 p0_2 k0_0 p1_0 p1_1 p1_2 k1_0
  clear hB
  have p0_0 := B0.out.at_ (i := 0) (v := .int .i64 cur.lv) rfl
  have p0_1 := B0.out.at_ (i := 1) (v := .int .u64 (u cur.c)) rfl
  have p0_2 := B0.out.at_ (i := 2) (v := .int .i64 cur.ig) rfl
  have k0_0 : w.heap.size < w2.heap.size := by have := B0.out.lt; omega
  have p2_0 := B2.out.at_ (i := 0) (v := .int .i64 b.lv) rfl
  have p2_1 := B2.out.at_ (i := 1) (v := .int .u64 (u b.c)) rfl
  have p2_2 := B2.out.at_ (i := 2) (v := .int .i64 b.ig) rfl
  have k2_0 : w.heap.size + 1 + 1 < w2.heap.size := by have := B2.out.lt; omega
  go_wp2_with fail
  refine (H1.out _ (HH.out.up (by repeat (first | exact HB.out | refine below_alloc ?_ _ | refine Below.drew ?_ | refine below_set ?_ (by omega) _)))).mono ?_
  rintro e w3 ⟨rfl, hB⟩
  replace HB := Lib.hid (below_call (w := w) (by repeat (first | exact HB.out | refine below_alloc ?_ _ | refine Below.drew ?_ | refine below_set ?_ (by omega) _)) hB)
  have z3 : w.heap.size ≤ w3.heap.size := HB.out.size
  replace B0 : Hid (Blk w3 (w.heap.size) 24 #[.int .i64 cur.lv, .int .u64 (u cur.c), .int .i64 cur.ig]) := Lib.hid (Blk.after (by repeat (first | exact B0.out | exact Blk.new' (by simp; done) | exact Blk.new' rfl | refine Blk.drew ?_ | refine Blk.alloc ?_ _)) hB)
  replace B1 : Hid (Blk w3 (w.heap.size + 1) 24 #[.int .i64 a.lv, .int .u64 (u a.c), .int .i64 a.ig]) := Lib.hid (Blk.after (by repeat (first | exact B1.out | exact Blk.new' (by simp; done) | exact Blk.new' rfl | refine Blk.drew ?_ | refine Blk.alloc ?_ _)) hB)
  replace B2 : Hid (Blk w3 (w.heap.size + 1 + 1) 24 #[.int .i64 b.lv, .int .u64 (u b.c), .int .i64 b.ig]) := Lib.hid (Blk.after (by repeat (first | exact B2.out | exact Blk.new' (by simp; done) | exact Blk.new' rfl | refine Blk.drew ?_ | refine Blk.alloc ?_ _)) hB)
  clear p0_0 p0_1 p0_2 k0_0 p2_0 p2_1 p2_2 k2_0
  clear hB
  have p1_0 := B1.out.at_ (i := 0) (v := .int .i64 a.lv) rfl
  have p1_1 := B1.out.at_ (i := 1) (v := .int .u64 (u a.c)) rfl
  have p1_2 := B1.out.at_ (i := 2) (v := .int .i64 a.ig) rfl
  have k1_0 : w.heap.size + 1 < w3.heap.size := by have := B1.out.lt; omega
  have p2_0 := B2.out.at_ (i := 0) (v := .int .i64 b.lv) rfl
  have p2_1 := B2.out.at_ (i := 1) (v := .int .u64 (u b.c)) rfl
  have p2_2 := B2.out.at_ (i := 2) (v := .int .i64 b.ig) rfl
  have k2_0 : w.heap.size + 1 + 1 < w3.heap.size := by have := B2.out.lt; omega
  go_wp2_with fail
  refine (H2.out _).mono ?_
  rintro e w4 ⟨rfl, hB⟩
  replace HB := Lib.hid (below_call (w := w) (by repeat (first | exact HB.out | refine below_alloc ?_ _ | refine Below.drew ?_ | refine below_set ?_ (by omega) _)) hB)
  have z4 : w.heap.size ≤ w4.heap.size := HB.out.size
  replace B0 : Hid (Blk w4 (w.heap.size) 24 #[.int .i64 cur.lv, .int .u64 (u cur.c), .int .i64 cur.ig]) := Lib.hid (Blk.after (by repeat (first | exact B0.out | exact Blk.new' (by simp; done) | exact Blk.new' rfl | refine Blk.drew ?_ | refine Blk.alloc ?_ _)) hB)
  replace B1 : Hid (Blk w4 (w.heap.size + 1) 24 #[.int .i64 a.lv, .int .u64 (u a.c), .int .i64 a.ig]) := Lib.hid (Blk.after (by repeat (first | exact B1.out | exact Blk.new' (by simp; done) | exact Blk.new' rfl | refine Blk.drew ?_ | refine Blk.alloc ?_ _)) hB)
  clear p1_0 p1_1 p1_2 k1_0 p2_0 p2_1 p2_2 k2_0
  clear hB
  have p0_0 := B0.out.at_ (i := 0) (v := .int .i64 cur.lv) rfl
  have p0_1 := B0.out.at_ (i := 1) (v := .int .u64 (u cur.c)) rfl
  have p0_2 := B0.out.at_ (i := 2) (v := .int .i64 cur.ig) rfl
  have k0_0 : w.heap.size < w4.heap.size := by have := B0.out.lt; omega
  have p1_0 := B1.out.at_ (i := 0) (v := .int .i64 a.lv) rfl
  have p1_1 := B1.out.at_ (i := 1) (v := .int .u64 (u a.c)) rfl
  have p1_2 := B1.out.at_ (i := 2) (v := .int .i64 a.ig) rfl
  have k1_0 : w.heap.size + 1 < w4.heap.size := by have := B1.out.lt; omega
  go_wp2_with fail
  refine (H3.out _).mono ?_
  rintro e w5 ⟨rfl, hB⟩
  replace HB := Lib.hid (below_call (w := w) (by repeat (first | exact HB.out | refine below_alloc ?_ _ | refine Below.drew ?_ | refine below_set ?_ (by omega) _)) hB)
  have z5 : w.heap.size ≤ w5.heap.size := HB.out.size
  clear p0_0 p0_1 p0_2 k0_0 p1_0 p1_1 p1_2 k1_0
  clear hB
  go_wp2_with fail
  go_ret
  exact ⟨rfl, (by repeat (first | exact HB.out | refine below_alloc ?_ _ | refine Below.drew ?_ | refine below_set ?_ (by omega) _))⟩
set_option maxRecDepth 100000 in
set_option maxHeartbeats 4000000 in
theorem sends_31 (cur a b : Lab) (q : Bool) (p : Bool) (sa : Addr) (w : World) (hh : Env sa w) (h0 : SendIs sa cur a q 0) (h1 : SendIs sa cur b p 0) (h2 : UnderIs a b true) (h3 : ReadsIs cur a true) (h4 : UnderIs b a false) :
    Calls Tryd.prog 5 #[.agg #[.int .i64 cur.lv, .int .u64 (u cur.c), .int .i64 cur.ig], .agg #[.int .i64 a.lv, .int .u64 (u a.c), .int .i64 a.ig], .agg #[.int .i64 b.lv, .int .u64 (u b.c), .int .i64 b.ig]] w (Yes w) := by
  have H0 := Lib.hid h0
  clear h0
  have H1 := Lib.hid h1
  clear h1
  have H2 := Lib.hid h2
  clear h2
  have H3 := Lib.hid h3
  clear h3
  have H4 := Lib.hid h4
  clear h4
  have HH := Lib.hid hh
  clear hh
  have HB := Lib.hid (Below.refl w.heap.size w)
  go_enter Tryd.func5, Tryd.ntmps5
  go_wp2_with fail
  refine (shown_any sa _ (HH.out.up (by repeat (first | exact HB.out | refine below_alloc ?_ _ | refine Below.drew ?_ | refine below_set ?_ (by omega) _)))).mono ?_
  rintro e w1 ⟨rfl, hB⟩
  replace HB := Lib.hid (below_call (w := w) (by repeat (first | exact HB.out | refine below_alloc ?_ _ | refine Below.drew ?_ | refine below_set ?_ (by omega) _)) hB)
  have z1 : w.heap.size ≤ w1.heap.size := HB.out.size
  have B0 : Hid (Blk w1 (w.heap.size) 24 #[.int .i64 cur.lv, .int .u64 (u cur.c), .int .i64 cur.ig]) := Lib.hid (Blk.after (by repeat (first | exact Blk.new' (by simp; done) | exact Blk.new' rfl | refine Blk.drew ?_ | refine Blk.alloc ?_ _)) hB)
  have B1 : Hid (Blk w1 (w.heap.size + 1) 24 #[.int .i64 a.lv, .int .u64 (u a.c), .int .i64 a.ig]) := Lib.hid (Blk.after (by repeat (first | exact Blk.new' (by simp; done) | exact Blk.new' rfl | refine Blk.drew ?_ | refine Blk.alloc ?_ _)) hB)
  have B2 : Hid (Blk w1 (w.heap.size + 1 + 1) 24 #[.int .i64 b.lv, .int .u64 (u b.c), .int .i64 b.ig]) := Lib.hid (Blk.after (by repeat (first | exact Blk.new' (by simp; done) | exact Blk.new' rfl | refine Blk.drew ?_ | refine Blk.alloc ?_ _)) hB)
  clear hB
  have p0_0 := B0.out.at_ (i := 0) (v := .int .i64 cur.lv) rfl
  have p0_1 := B0.out.at_ (i := 1) (v := .int .u64 (u cur.c)) rfl
  have p0_2 := B0.out.at_ (i := 2) (v := .int .i64 cur.ig) rfl
  have k0_0 : w.heap.size < w1.heap.size := by have := B0.out.lt; omega
  have p1_0 := B1.out.at_ (i := 0) (v := .int .i64 a.lv) rfl
  have p1_1 := B1.out.at_ (i := 1) (v := .int .u64 (u a.c)) rfl
  have p1_2 := B1.out.at_ (i := 2) (v := .int .i64 a.ig) rfl
  have k1_0 : w.heap.size + 1 < w1.heap.size := by have := B1.out.lt; omega
  go_wp2_with fail
  refine (H0.out _ (HH.out.up (by repeat (first | exact HB.out | refine below_alloc ?_ _ | refine Below.drew ?_ | refine below_set ?_ (by omega) _)))).mono ?_
  rintro e w2 ⟨rfl, hB⟩
  replace HB := Lib.hid (below_call (w := w) (by repeat (first | exact HB.out | refine below_alloc ?_ _ | refine Below.drew ?_ | refine below_set ?_ (by omega) _)) hB)
  have z2 : w.heap.size ≤ w2.heap.size := HB.out.size
  replace B0 : Hid (Blk w2 (w.heap.size) 24 #[.int .i64 cur.lv, .int .u64 (u cur.c), .int .i64 cur.ig]) := Lib.hid (Blk.after (by repeat (first | exact B0.out | exact Blk.new' (by simp; done) | exact Blk.new' rfl | refine Blk.drew ?_ | refine Blk.alloc ?_ _)) hB)
  replace B1 : Hid (Blk w2 (w.heap.size + 1) 24 #[.int .i64 a.lv, .int .u64 (u a.c), .int .i64 a.ig]) := Lib.hid (Blk.after (by repeat (first | exact B1.out | exact Blk.new' (by simp; done) | exact Blk.new' rfl | refine Blk.drew ?_ | refine Blk.alloc ?_ _)) hB)
  replace B2 : Hid (Blk w2 (w.heap.size + 1 + 1) 24 #[.int .i64 b.lv, .int .u64 (u b.c), .int .i64 b.ig]) := Lib.hid (Blk.after (by repeat (first | exact B2.out | exact Blk.new' (by simp; done) | exact Blk.new' rfl | refine Blk.drew ?_ | refine Blk.alloc ?_ _)) hB)
  clear p0_0 p0_1 p0_2 k0_0 p1_0 p1_1 p1_2 k1_0
  clear hB
  have p0_0 := B0.out.at_ (i := 0) (v := .int .i64 cur.lv) rfl
  have p0_1 := B0.out.at_ (i := 1) (v := .int .u64 (u cur.c)) rfl
  have p0_2 := B0.out.at_ (i := 2) (v := .int .i64 cur.ig) rfl
  have k0_0 : w.heap.size < w2.heap.size := by have := B0.out.lt; omega
  have p2_0 := B2.out.at_ (i := 0) (v := .int .i64 b.lv) rfl
  have p2_1 := B2.out.at_ (i := 1) (v := .int .u64 (u b.c)) rfl
  have p2_2 := B2.out.at_ (i := 2) (v := .int .i64 b.ig) rfl
  have k2_0 : w.heap.size + 1 + 1 < w2.heap.size := by have := B2.out.lt; omega
  go_wp2_with fail
  refine (H1.out _ (HH.out.up (by repeat (first | exact HB.out | refine below_alloc ?_ _ | refine Below.drew ?_ | refine below_set ?_ (by omega) _)))).mono ?_
  rintro e w3 ⟨rfl, hB⟩
  replace HB := Lib.hid (below_call (w := w) (by repeat (first | exact HB.out | refine below_alloc ?_ _ | refine Below.drew ?_ | refine below_set ?_ (by omega) _)) hB)
  have z3 : w.heap.size ≤ w3.heap.size := HB.out.size
  replace B0 : Hid (Blk w3 (w.heap.size) 24 #[.int .i64 cur.lv, .int .u64 (u cur.c), .int .i64 cur.ig]) := Lib.hid (Blk.after (by repeat (first | exact B0.out | exact Blk.new' (by simp; done) | exact Blk.new' rfl | refine Blk.drew ?_ | refine Blk.alloc ?_ _)) hB)
  replace B1 : Hid (Blk w3 (w.heap.size + 1) 24 #[.int .i64 a.lv, .int .u64 (u a.c), .int .i64 a.ig]) := Lib.hid (Blk.after (by repeat (first | exact B1.out | exact Blk.new' (by simp; done) | exact Blk.new' rfl | refine Blk.drew ?_ | refine Blk.alloc ?_ _)) hB)
  replace B2 : Hid (Blk w3 (w.heap.size + 1 + 1) 24 #[.int .i64 b.lv, .int .u64 (u b.c), .int .i64 b.ig]) := Lib.hid (Blk.after (by repeat (first | exact B2.out | exact Blk.new' (by simp; done) | exact Blk.new' rfl | refine Blk.drew ?_ | refine Blk.alloc ?_ _)) hB)
  clear p0_0 p0_1 p0_2 k0_0 p2_0 p2_1 p2_2 k2_0
  clear hB
  have p1_0 := B1.out.at_ (i := 0) (v := .int .i64 a.lv) rfl
  have p1_1 := B1.out.at_ (i := 1) (v := .int .u64 (u a.c)) rfl
  have p1_2 := B1.out.at_ (i := 2) (v := .int .i64 a.ig) rfl
  have k1_0 : w.heap.size + 1 < w3.heap.size := by have := B1.out.lt; omega
  have p2_0 := B2.out.at_ (i := 0) (v := .int .i64 b.lv) rfl
  have p2_1 := B2.out.at_ (i := 1) (v := .int .u64 (u b.c)) rfl
  have p2_2 := B2.out.at_ (i := 2) (v := .int .i64 b.ig) rfl
  have k2_0 : w.heap.size + 1 + 1 < w3.heap.size := by have := B2.out.lt; omega
  go_wp2_with fail
  refine (H2.out _).mono ?_
  rintro e w4 ⟨rfl, hB⟩
  replace HB := Lib.hid (below_call (w := w) (by repeat (first | exact HB.out | refine below_alloc ?_ _ | refine Below.drew ?_ | refine below_set ?_ (by omega) _)) hB)
  have z4 : w.heap.size ≤ w4.heap.size := HB.out.size
  replace B0 : Hid (Blk w4 (w.heap.size) 24 #[.int .i64 cur.lv, .int .u64 (u cur.c), .int .i64 cur.ig]) := Lib.hid (Blk.after (by repeat (first | exact B0.out | exact Blk.new' (by simp; done) | exact Blk.new' rfl | refine Blk.drew ?_ | refine Blk.alloc ?_ _)) hB)
  replace B1 : Hid (Blk w4 (w.heap.size + 1) 24 #[.int .i64 a.lv, .int .u64 (u a.c), .int .i64 a.ig]) := Lib.hid (Blk.after (by repeat (first | exact B1.out | exact Blk.new' (by simp; done) | exact Blk.new' rfl | refine Blk.drew ?_ | refine Blk.alloc ?_ _)) hB)
  replace B2 : Hid (Blk w4 (w.heap.size + 1 + 1) 24 #[.int .i64 b.lv, .int .u64 (u b.c), .int .i64 b.ig]) := Lib.hid (Blk.after (by repeat (first | exact B2.out | exact Blk.new' (by simp; done) | exact Blk.new' rfl | refine Blk.drew ?_ | refine Blk.alloc ?_ _)) hB)
  clear p1_0 p1_1 p1_2 k1_0 p2_0 p2_1 p2_2 k2_0
  clear hB
  have p0_0 := B0.out.at_ (i := 0) (v := .int .i64 cur.lv) rfl
  have p0_1 := B0.out.at_ (i := 1) (v := .int .u64 (u cur.c)) rfl
  have p0_2 := B0.out.at_ (i := 2) (v := .int .i64 cur.ig) rfl
  have k0_0 : w.heap.size < w4.heap.size := by have := B0.out.lt; omega
  have p1_0 := B1.out.at_ (i := 0) (v := .int .i64 a.lv) rfl
  have p1_1 := B1.out.at_ (i := 1) (v := .int .u64 (u a.c)) rfl
  have p1_2 := B1.out.at_ (i := 2) (v := .int .i64 a.ig) rfl
  have k1_0 : w.heap.size + 1 < w4.heap.size := by have := B1.out.lt; omega
  go_wp2_with fail
  refine (H3.out _).mono ?_
  rintro e w5 ⟨rfl, hB⟩
  replace HB := Lib.hid (below_call (w := w) (by repeat (first | exact HB.out | refine below_alloc ?_ _ | refine Below.drew ?_ | refine below_set ?_ (by omega) _)) hB)
  have z5 : w.heap.size ≤ w5.heap.size := HB.out.size
  replace B1 : Hid (Blk w5 (w.heap.size + 1) 24 #[.int .i64 a.lv, .int .u64 (u a.c), .int .i64 a.ig]) := Lib.hid (Blk.after (by repeat (first | exact B1.out | exact Blk.new' (by simp; done) | exact Blk.new' rfl | refine Blk.drew ?_ | refine Blk.alloc ?_ _)) hB)
  replace B2 : Hid (Blk w5 (w.heap.size + 1 + 1) 24 #[.int .i64 b.lv, .int .u64 (u b.c), .int .i64 b.ig]) := Lib.hid (Blk.after (by repeat (first | exact B2.out | exact Blk.new' (by simp; done) | exact Blk.new' rfl | refine Blk.drew ?_ | refine Blk.alloc ?_ _)) hB)
  clear p0_0 p0_1 p0_2 k0_0 p1_0 p1_1 p1_2 k1_0
  clear hB
  have p1_0 := B1.out.at_ (i := 0) (v := .int .i64 a.lv) rfl
  have p1_1 := B1.out.at_ (i := 1) (v := .int .u64 (u a.c)) rfl
  have p1_2 := B1.out.at_ (i := 2) (v := .int .i64 a.ig) rfl
  have k1_0 : w.heap.size + 1 < w5.heap.size := by have := B1.out.lt; omega
  have p2_0 := B2.out.at_ (i := 0) (v := .int .i64 b.lv) rfl
  have p2_1 := B2.out.at_ (i := 1) (v := .int .u64 (u b.c)) rfl
  have p2_2 := B2.out.at_ (i := 2) (v := .int .i64 b.ig) rfl
  have k2_0 : w.heap.size + 1 + 1 < w5.heap.size := by have := B2.out.lt; omega
  go_wp2_with fail
  refine (H4.out _).mono ?_
  rintro e w6 ⟨rfl, hB⟩
  replace HB := Lib.hid (below_call (w := w) (by repeat (first | exact HB.out | refine below_alloc ?_ _ | refine Below.drew ?_ | refine below_set ?_ (by omega) _)) hB)
  have z6 : w.heap.size ≤ w6.heap.size := HB.out.size
  clear p1_0 p1_1 p1_2 k1_0 p2_0 p2_1 p2_2 k2_0
  clear hB
  go_wp2_with fail
  go_ret
  exact ⟨rfl, (by repeat (first | exact HB.out | refine below_alloc ?_ _ | refine Below.drew ?_ | refine below_set ?_ (by omega) _))⟩
set_option maxRecDepth 100000 in
set_option maxHeartbeats 4000000 in
theorem sends_32 (cur a b : Lab) (q : Bool) (p : Bool) (sa : Addr) (w : World) (hh : Env sa w) (h0 : SendIs sa cur a q 0) (h1 : SendIs sa cur b p 0) (h2 : UnderIs a b true) (h3 : ReadsIs cur a true) (h4 : UnderIs b a true) (h5 : ReadsIs cur b true) :
    Calls Tryd.prog 5 #[.agg #[.int .i64 cur.lv, .int .u64 (u cur.c), .int .i64 cur.ig], .agg #[.int .i64 a.lv, .int .u64 (u a.c), .int .i64 a.ig], .agg #[.int .i64 b.lv, .int .u64 (u b.c), .int .i64 b.ig]] w (Yes w) := by
  have H0 := Lib.hid h0
  clear h0
  have H1 := Lib.hid h1
  clear h1
  have H2 := Lib.hid h2
  clear h2
  have H3 := Lib.hid h3
  clear h3
  have H4 := Lib.hid h4
  clear h4
  have H5 := Lib.hid h5
  clear h5
  have HH := Lib.hid hh
  clear hh
  have HB := Lib.hid (Below.refl w.heap.size w)
  go_enter Tryd.func5, Tryd.ntmps5
  go_wp2_with fail
  refine (shown_any sa _ (HH.out.up (by repeat (first | exact HB.out | refine below_alloc ?_ _ | refine Below.drew ?_ | refine below_set ?_ (by omega) _)))).mono ?_
  rintro e w1 ⟨rfl, hB⟩
  replace HB := Lib.hid (below_call (w := w) (by repeat (first | exact HB.out | refine below_alloc ?_ _ | refine Below.drew ?_ | refine below_set ?_ (by omega) _)) hB)
  have z1 : w.heap.size ≤ w1.heap.size := HB.out.size
  have B0 : Hid (Blk w1 (w.heap.size) 24 #[.int .i64 cur.lv, .int .u64 (u cur.c), .int .i64 cur.ig]) := Lib.hid (Blk.after (by repeat (first | exact Blk.new' (by simp; done) | exact Blk.new' rfl | refine Blk.drew ?_ | refine Blk.alloc ?_ _)) hB)
  have B1 : Hid (Blk w1 (w.heap.size + 1) 24 #[.int .i64 a.lv, .int .u64 (u a.c), .int .i64 a.ig]) := Lib.hid (Blk.after (by repeat (first | exact Blk.new' (by simp; done) | exact Blk.new' rfl | refine Blk.drew ?_ | refine Blk.alloc ?_ _)) hB)
  have B2 : Hid (Blk w1 (w.heap.size + 1 + 1) 24 #[.int .i64 b.lv, .int .u64 (u b.c), .int .i64 b.ig]) := Lib.hid (Blk.after (by repeat (first | exact Blk.new' (by simp; done) | exact Blk.new' rfl | refine Blk.drew ?_ | refine Blk.alloc ?_ _)) hB)
  clear hB
  have p0_0 := B0.out.at_ (i := 0) (v := .int .i64 cur.lv) rfl
  have p0_1 := B0.out.at_ (i := 1) (v := .int .u64 (u cur.c)) rfl
  have p0_2 := B0.out.at_ (i := 2) (v := .int .i64 cur.ig) rfl
  have k0_0 : w.heap.size < w1.heap.size := by have := B0.out.lt; omega
  have p1_0 := B1.out.at_ (i := 0) (v := .int .i64 a.lv) rfl
  have p1_1 := B1.out.at_ (i := 1) (v := .int .u64 (u a.c)) rfl
  have p1_2 := B1.out.at_ (i := 2) (v := .int .i64 a.ig) rfl
  have k1_0 : w.heap.size + 1 < w1.heap.size := by have := B1.out.lt; omega
  go_wp2_with fail
  refine (H0.out _ (HH.out.up (by repeat (first | exact HB.out | refine below_alloc ?_ _ | refine Below.drew ?_ | refine below_set ?_ (by omega) _)))).mono ?_
  rintro e w2 ⟨rfl, hB⟩
  replace HB := Lib.hid (below_call (w := w) (by repeat (first | exact HB.out | refine below_alloc ?_ _ | refine Below.drew ?_ | refine below_set ?_ (by omega) _)) hB)
  have z2 : w.heap.size ≤ w2.heap.size := HB.out.size
  replace B0 : Hid (Blk w2 (w.heap.size) 24 #[.int .i64 cur.lv, .int .u64 (u cur.c), .int .i64 cur.ig]) := Lib.hid (Blk.after (by repeat (first | exact B0.out | exact Blk.new' (by simp; done) | exact Blk.new' rfl | refine Blk.drew ?_ | refine Blk.alloc ?_ _)) hB)
  replace B1 : Hid (Blk w2 (w.heap.size + 1) 24 #[.int .i64 a.lv, .int .u64 (u a.c), .int .i64 a.ig]) := Lib.hid (Blk.after (by repeat (first | exact B1.out | exact Blk.new' (by simp; done) | exact Blk.new' rfl | refine Blk.drew ?_ | refine Blk.alloc ?_ _)) hB)
  replace B2 : Hid (Blk w2 (w.heap.size + 1 + 1) 24 #[.int .i64 b.lv, .int .u64 (u b.c), .int .i64 b.ig]) := Lib.hid (Blk.after (by repeat (first | exact B2.out | exact Blk.new' (by simp; done) | exact Blk.new' rfl | refine Blk.drew ?_ | refine Blk.alloc ?_ _)) hB)
  clear p0_0 p0_1 p0_2 k0_0 p1_0 p1_1 p1_2 k1_0
  clear hB
  have p0_0 := B0.out.at_ (i := 0) (v := .int .i64 cur.lv) rfl
  have p0_1 := B0.out.at_ (i := 1) (v := .int .u64 (u cur.c)) rfl
  have p0_2 := B0.out.at_ (i := 2) (v := .int .i64 cur.ig) rfl
  have k0_0 : w.heap.size < w2.heap.size := by have := B0.out.lt; omega
  have p2_0 := B2.out.at_ (i := 0) (v := .int .i64 b.lv) rfl
  have p2_1 := B2.out.at_ (i := 1) (v := .int .u64 (u b.c)) rfl
  have p2_2 := B2.out.at_ (i := 2) (v := .int .i64 b.ig) rfl
  have k2_0 : w.heap.size + 1 + 1 < w2.heap.size := by have := B2.out.lt; omega
  go_wp2_with fail
  refine (H1.out _ (HH.out.up (by repeat (first | exact HB.out | refine below_alloc ?_ _ | refine Below.drew ?_ | refine below_set ?_ (by omega) _)))).mono ?_
  rintro e w3 ⟨rfl, hB⟩
  replace HB := Lib.hid (below_call (w := w) (by repeat (first | exact HB.out | refine below_alloc ?_ _ | refine Below.drew ?_ | refine below_set ?_ (by omega) _)) hB)
  have z3 : w.heap.size ≤ w3.heap.size := HB.out.size
  replace B0 : Hid (Blk w3 (w.heap.size) 24 #[.int .i64 cur.lv, .int .u64 (u cur.c), .int .i64 cur.ig]) := Lib.hid (Blk.after (by repeat (first | exact B0.out | exact Blk.new' (by simp; done) | exact Blk.new' rfl | refine Blk.drew ?_ | refine Blk.alloc ?_ _)) hB)
  replace B1 : Hid (Blk w3 (w.heap.size + 1) 24 #[.int .i64 a.lv, .int .u64 (u a.c), .int .i64 a.ig]) := Lib.hid (Blk.after (by repeat (first | exact B1.out | exact Blk.new' (by simp; done) | exact Blk.new' rfl | refine Blk.drew ?_ | refine Blk.alloc ?_ _)) hB)
  replace B2 : Hid (Blk w3 (w.heap.size + 1 + 1) 24 #[.int .i64 b.lv, .int .u64 (u b.c), .int .i64 b.ig]) := Lib.hid (Blk.after (by repeat (first | exact B2.out | exact Blk.new' (by simp; done) | exact Blk.new' rfl | refine Blk.drew ?_ | refine Blk.alloc ?_ _)) hB)
  clear p0_0 p0_1 p0_2 k0_0 p2_0 p2_1 p2_2 k2_0
  clear hB
  have p1_0 := B1.out.at_ (i := 0) (v := .int .i64 a.lv) rfl
  have p1_1 := B1.out.at_ (i := 1) (v := .int .u64 (u a.c)) rfl
  have p1_2 := B1.out.at_ (i := 2) (v := .int .i64 a.ig) rfl
  have k1_0 : w.heap.size + 1 < w3.heap.size := by have := B1.out.lt; omega
  have p2_0 := B2.out.at_ (i := 0) (v := .int .i64 b.lv) rfl
  have p2_1 := B2.out.at_ (i := 1) (v := .int .u64 (u b.c)) rfl
  have p2_2 := B2.out.at_ (i := 2) (v := .int .i64 b.ig) rfl
  have k2_0 : w.heap.size + 1 + 1 < w3.heap.size := by have := B2.out.lt; omega
  go_wp2_with fail
  refine (H2.out _).mono ?_
  rintro e w4 ⟨rfl, hB⟩
  replace HB := Lib.hid (below_call (w := w) (by repeat (first | exact HB.out | refine below_alloc ?_ _ | refine Below.drew ?_ | refine below_set ?_ (by omega) _)) hB)
  have z4 : w.heap.size ≤ w4.heap.size := HB.out.size
  replace B0 : Hid (Blk w4 (w.heap.size) 24 #[.int .i64 cur.lv, .int .u64 (u cur.c), .int .i64 cur.ig]) := Lib.hid (Blk.after (by repeat (first | exact B0.out | exact Blk.new' (by simp; done) | exact Blk.new' rfl | refine Blk.drew ?_ | refine Blk.alloc ?_ _)) hB)
  replace B1 : Hid (Blk w4 (w.heap.size + 1) 24 #[.int .i64 a.lv, .int .u64 (u a.c), .int .i64 a.ig]) := Lib.hid (Blk.after (by repeat (first | exact B1.out | exact Blk.new' (by simp; done) | exact Blk.new' rfl | refine Blk.drew ?_ | refine Blk.alloc ?_ _)) hB)
  replace B2 : Hid (Blk w4 (w.heap.size + 1 + 1) 24 #[.int .i64 b.lv, .int .u64 (u b.c), .int .i64 b.ig]) := Lib.hid (Blk.after (by repeat (first | exact B2.out | exact Blk.new' (by simp; done) | exact Blk.new' rfl | refine Blk.drew ?_ | refine Blk.alloc ?_ _)) hB)
  clear p1_0 p1_1 p1_2 k1_0 p2_0 p2_1 p2_2 k2_0
  clear hB
  have p0_0 := B0.out.at_ (i := 0) (v := .int .i64 cur.lv) rfl
  have p0_1 := B0.out.at_ (i := 1) (v := .int .u64 (u cur.c)) rfl
  have p0_2 := B0.out.at_ (i := 2) (v := .int .i64 cur.ig) rfl
  have k0_0 : w.heap.size < w4.heap.size := by have := B0.out.lt; omega
  have p1_0 := B1.out.at_ (i := 0) (v := .int .i64 a.lv) rfl
  have p1_1 := B1.out.at_ (i := 1) (v := .int .u64 (u a.c)) rfl
  have p1_2 := B1.out.at_ (i := 2) (v := .int .i64 a.ig) rfl
  have k1_0 : w.heap.size + 1 < w4.heap.size := by have := B1.out.lt; omega
  go_wp2_with fail
  refine (H3.out _).mono ?_
  rintro e w5 ⟨rfl, hB⟩
  replace HB := Lib.hid (below_call (w := w) (by repeat (first | exact HB.out | refine below_alloc ?_ _ | refine Below.drew ?_ | refine below_set ?_ (by omega) _)) hB)
  have z5 : w.heap.size ≤ w5.heap.size := HB.out.size
  replace B0 : Hid (Blk w5 (w.heap.size) 24 #[.int .i64 cur.lv, .int .u64 (u cur.c), .int .i64 cur.ig]) := Lib.hid (Blk.after (by repeat (first | exact B0.out | exact Blk.new' (by simp; done) | exact Blk.new' rfl | refine Blk.drew ?_ | refine Blk.alloc ?_ _)) hB)
  replace B1 : Hid (Blk w5 (w.heap.size + 1) 24 #[.int .i64 a.lv, .int .u64 (u a.c), .int .i64 a.ig]) := Lib.hid (Blk.after (by repeat (first | exact B1.out | exact Blk.new' (by simp; done) | exact Blk.new' rfl | refine Blk.drew ?_ | refine Blk.alloc ?_ _)) hB)
  replace B2 : Hid (Blk w5 (w.heap.size + 1 + 1) 24 #[.int .i64 b.lv, .int .u64 (u b.c), .int .i64 b.ig]) := Lib.hid (Blk.after (by repeat (first | exact B2.out | exact Blk.new' (by simp; done) | exact Blk.new' rfl | refine Blk.drew ?_ | refine Blk.alloc ?_ _)) hB)
  clear p0_0 p0_1 p0_2 k0_0 p1_0 p1_1 p1_2 k1_0
  clear hB
  have p1_0 := B1.out.at_ (i := 0) (v := .int .i64 a.lv) rfl
  have p1_1 := B1.out.at_ (i := 1) (v := .int .u64 (u a.c)) rfl
  have p1_2 := B1.out.at_ (i := 2) (v := .int .i64 a.ig) rfl
  have k1_0 : w.heap.size + 1 < w5.heap.size := by have := B1.out.lt; omega
  have p2_0 := B2.out.at_ (i := 0) (v := .int .i64 b.lv) rfl
  have p2_1 := B2.out.at_ (i := 1) (v := .int .u64 (u b.c)) rfl
  have p2_2 := B2.out.at_ (i := 2) (v := .int .i64 b.ig) rfl
  have k2_0 : w.heap.size + 1 + 1 < w5.heap.size := by have := B2.out.lt; omega
  go_wp2_with fail
  refine (H4.out _).mono ?_
  rintro e w6 ⟨rfl, hB⟩
  replace HB := Lib.hid (below_call (w := w) (by repeat (first | exact HB.out | refine below_alloc ?_ _ | refine Below.drew ?_ | refine below_set ?_ (by omega) _)) hB)
  have z6 : w.heap.size ≤ w6.heap.size := HB.out.size
  replace B0 : Hid (Blk w6 (w.heap.size) 24 #[.int .i64 cur.lv, .int .u64 (u cur.c), .int .i64 cur.ig]) := Lib.hid (Blk.after (by repeat (first | exact B0.out | exact Blk.new' (by simp; done) | exact Blk.new' rfl | refine Blk.drew ?_ | refine Blk.alloc ?_ _)) hB)
  replace B2 : Hid (Blk w6 (w.heap.size + 1 + 1) 24 #[.int .i64 b.lv, .int .u64 (u b.c), .int .i64 b.ig]) := Lib.hid (Blk.after (by repeat (first | exact B2.out | exact Blk.new' (by simp; done) | exact Blk.new' rfl | refine Blk.drew ?_ | refine Blk.alloc ?_ _)) hB)
  clear p1_0 p1_1 p1_2 k1_0 p2_0 p2_1 p2_2 k2_0
  clear hB
  have p0_0 := B0.out.at_ (i := 0) (v := .int .i64 cur.lv) rfl
  have p0_1 := B0.out.at_ (i := 1) (v := .int .u64 (u cur.c)) rfl
  have p0_2 := B0.out.at_ (i := 2) (v := .int .i64 cur.ig) rfl
  have k0_0 : w.heap.size < w6.heap.size := by have := B0.out.lt; omega
  have p2_0 := B2.out.at_ (i := 0) (v := .int .i64 b.lv) rfl
  have p2_1 := B2.out.at_ (i := 1) (v := .int .u64 (u b.c)) rfl
  have p2_2 := B2.out.at_ (i := 2) (v := .int .i64 b.ig) rfl
  have k2_0 : w.heap.size + 1 + 1 < w6.heap.size := by have := B2.out.lt; omega
  go_wp2_with fail
  refine (H5.out _).mono ?_
  rintro e w7 ⟨rfl, hB⟩
  replace HB := Lib.hid (below_call (w := w) (by repeat (first | exact HB.out | refine below_alloc ?_ _ | refine Below.drew ?_ | refine below_set ?_ (by omega) _)) hB)
  have z7 : w.heap.size ≤ w7.heap.size := HB.out.size
  clear p0_0 p0_1 p0_2 k0_0 p2_0 p2_1 p2_2 k2_0
  clear hB
  go_wp2_with fail
  go_ret
  exact ⟨rfl, (by repeat (first | exact HB.out | refine below_alloc ?_ _ | refine Below.drew ?_ | refine below_set ?_ (by omega) _))⟩
theorem sends_reads (cur a b : Lab) : underL a cur = false ∨ (underL a cur = true ∧ underL b a = false) ∨ (underL a cur = true ∧ underL b a = true ∧ underL b cur = true) := by
  cases h1 : underL a cur
  · exact .inl rfl
  · cases h2 : underL b a
    · exact .inr (.inl ⟨rfl, rfl⟩)
    · exact .inr (.inr ⟨rfl, rfl, underL_iff.2 ⟨(underL_iff.1 h2).1, (underL_iff.1 h1).2.1, le3_trans (underL_iff.1 h2).2.2 (underL_iff.1 h1).2.2⟩⟩)
theorem sends_walk (cur a b : Lab) (sa : Addr) (w : World) (hh : Env sa w) : Calls Tryd.prog 5 #[.agg #[.int .i64 cur.lv, .int .u64 (u cur.c), .int .i64 cur.ig], .agg #[.int .i64 a.lv, .int .u64 (u a.c), .int .i64 a.ig], .agg #[.int .i64 b.lv, .int .u64 (u b.c), .int .i64 b.ig]] w (Yes w) := by
  have hr := sends_reads cur a b
  by_cases ho : okL cur = true ∧ okL a = true
  · by_cases hu : underL cur a = true
    · have e : sendE cur a = 0 := by unfold sendE; rw [ho.1, ho.2, hu]; rfl
      cases hab : underL a b
      · rcases hr with h | ⟨h, k⟩ | ⟨h, k, l⟩
        · exact sends_20 cur a b _ _ _ sa w hh (sendIs rfl e) (sendIs rfl rfl) (underIs hab) (readsIs h)
        · exact sends_21 cur a b _ _ _ sa w hh (sendIs rfl e) (sendIs rfl rfl) (underIs hab) (readsIs h) (underIs k)
        · exact sends_22 cur a b _ _ _ sa w hh (sendIs rfl e) (sendIs rfl rfl) (underIs hab) (readsIs h) (underIs k) (readsIs l)
      · have hub : underL cur b = true := underL_iff.2 ⟨ho.1, (underL_iff.1 hab).2.1, le3_trans (underL_iff.1 hu).2.2 (underL_iff.1 hab).2.2⟩
        have e2 : sendE cur b = 0 := by unfold sendE; rw [ho.1, (underL_iff.1 hab).2.1, hub]; rfl
        rcases hr with h | ⟨h, k⟩ | ⟨h, k, l⟩
        · exact sends_30 cur a b _ _ sa w hh (sendIs rfl e) (sendIs rfl e2) (underIs hab) (readsIs h)
        · exact sends_31 cur a b _ _ sa w hh (sendIs rfl e) (sendIs rfl e2) (underIs hab) (readsIs h) (underIs k)
        · exact sends_32 cur a b _ _ sa w hh (sendIs rfl e) (sendIs rfl e2) (underIs hab) (readsIs h) (underIs k) (readsIs l)
    · have e : sendE cur a = 121 := by unfold sendE; rw [ho.1, ho.2, nbool hu]; rfl
      rcases hr with h | ⟨h, k⟩ | ⟨h, k, l⟩
      · exact sends_10 cur a b _ _ _ sa w hh (sendIs rfl e) (sendIs rfl rfl) (readsIs h)
      · exact sends_11 cur a b _ _ _ sa w hh (sendIs rfl e) (sendIs rfl rfl) (readsIs h) (underIs k)
      · exact sends_12 cur a b _ _ _ sa w hh (sendIs rfl e) (sendIs rfl rfl) (readsIs h) (underIs k) (readsIs l)
  · have e : sendE cur a = 20 := by unfold sendE; rw [show (okL cur && okL a) = false from nbool fun k => ho (by simpa using k)]; rfl
    rcases hr with h | ⟨h, k⟩ | ⟨h, k, l⟩
    · exact sends_00 cur a b _ _ _ sa w hh (sendIs rfl e) (sendIs rfl rfl) (readsIs h)
    · exact sends_01 cur a b _ _ _ sa w hh (sendIs rfl e) (sendIs rfl rfl) (readsIs h) (underIs k)
    · exact sends_02 cur a b _ _ _ sa w hh (sendIs rfl e) (sendIs rfl rfl) (readsIs h) (underIs k) (readsIs l)
end Go.Proofs.YtmbafllkiofhnaaDoor
