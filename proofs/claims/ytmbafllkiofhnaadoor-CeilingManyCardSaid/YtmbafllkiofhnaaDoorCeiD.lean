/-
  THE WALKS OF PACKAGE ceiling, part four: Float, Reads, Writes, Send, Gain (printed by wip/genceil.py).
-/
import Derived.Test.YtmbafllkiofhnaaDoorCeiC
namespace Go.Proofs.YtmbafllkiofhnaaDoor
open Go.RowKit

attribute [local go_sem] u_and u_or u_andNot u_add u_sub u_bit u_eq_zero u_beq

theorem Bottom_any (w : World) : Calls Tryd.prog 24 #[] w fun e w' => e = .returned (.agg #[.int .i64 botL.lv, .int .u64 (u botL.c), .int .i64 botL.ig]) ∧ Below w.heap.size w w' := by
  go_enter Tryd.func24, Tryd.ntmps24
  go_wp2
  go_returns
  exact ⟨rfl, by go_grown⟩
theorem Reads_any (cur a : Lab) (w : World) : Calls Tryd.prog 14 #[.agg #[.int .i64 cur.lv, .int .u64 (u cur.c), .int .i64 cur.ig], .agg #[.int .i64 a.lv, .int .u64 (u a.c), .int .i64 a.ig]] w fun e w' => e = .returned (.bool (underL a cur)) ∧ Below w.heap.size w w' := by
  go_enter Tryd.func14, Tryd.ntmps14
  go_wp2_with fail
  refine (Under_any a cur _).mono ?_
  rintro e w1 ⟨rfl, hB⟩
  have HB := Lib.hid hB
  clear hB
  go_wp2_with fail
  go_ret
  exact ⟨rfl, below_call (below_alloc (below_alloc (Below.refl _ _) _) _) HB.out⟩
set_option maxRecDepth 100000 in
set_option maxHeartbeats 4000000 in
theorem Float_bad (cur a high y : Lab) (sa : Addr) (w : World) (hh : Env sa w) (h0 : rightsV [cur, a, high] = .iface 67 (.agg #[.nilIface, .int .i64 y.lv, .int .u64 (u y.c), .int .i64 y.ig])) :
    Calls Tryd.prog 12 #[.agg #[.int .i64 cur.lv, .int .u64 (u cur.c), .int .i64 cur.ig], .agg #[.int .i64 a.lv, .int .u64 (u a.c), .int .i64 a.ig], .agg #[.int .i64 high.lv, .int .u64 (u high.c), .int .i64 high.ig]] w (fun e w' => e = .returned (.tuple #[.agg #[.int .i64 0, .int .u64 0, .int .i64 0], .int .i64 20]) ∧ Below w.heap.size w w') := by
  have H0 := Lib.hid h0
  clear h0
  have HH := Lib.hid hh
  clear hh
  have HB := Lib.hid (Below.refl w.heap.size w)
  go_enter Tryd.func12, Tryd.ntmps12
  go_wp2_with fail
  refine (areRight_is H0.out _ (LabsAt.of3 (by repeat (first | exact Blk.new' (by simp; done) | exact Blk.new' rfl | refine Blk.drew ?_ | refine Blk.alloc ?_ _)))).mono ?_
  rintro e w1 ⟨rfl, hB⟩
  replace HB := Lib.hid (below_call (w := w) (by repeat (first | exact HB.out | refine below_alloc ?_ _ | refine Below.drew ?_ | refine below_set ?_ (by omega) _)) hB)
  have z1 : w.heap.size ≤ w1.heap.size := HB.out.size
  have B3 : Hid (Blk w1 (w.heap.size + 1 + 1 + 1) 24 #[.int .i64 0, .int .u64 0, .int .i64 0]) := Lib.hid (Blk.after (by repeat (first | exact Blk.new' (by simp; done) | exact Blk.new' rfl | refine Blk.drew ?_ | refine Blk.alloc ?_ _)) hB)
  clear hB
  go_wp2_with fail
  refine (told_stop y sa _ (HH.out.up (by repeat (first | exact HB.out | refine below_alloc ?_ _ | refine Below.drew ?_ | refine below_set ?_ (by omega) _)))).mono ?_
  rintro e w2 ⟨rfl, hB⟩
  replace HB := Lib.hid (below_call (w := w) (by repeat (first | exact HB.out | refine below_alloc ?_ _ | refine Below.drew ?_ | refine below_set ?_ (by omega) _)) hB)
  have z2 : w.heap.size ≤ w2.heap.size := HB.out.size
  replace B3 : Hid (Blk w2 (w.heap.size + 1 + 1 + 1) 24 #[.int .i64 0, .int .u64 0, .int .i64 0]) := Lib.hid (Blk.after (by repeat (first | exact B3.out | exact Blk.new' (by simp; done) | exact Blk.new' rfl | refine Blk.drew ?_ | refine Blk.alloc ?_ _)) hB)
  clear hB
  have p3_0 := B3.out.at_ (i := 0) (v := .int .i64 0) rfl
  have p3_1 := B3.out.at_ (i := 1) (v := .int .u64 0) rfl
  have p3_2 := B3.out.at_ (i := 2) (v := .int .i64 0) rfl
  have f3_0 := B3.out.frozen 0
  have f3_1 := B3.out.frozen 1
  have f3_2 := B3.out.frozen 2
  have k3_0 : w.heap.size + 1 + 1 + 1 < w2.heap.size := by have := B3.out.lt; omega
  go_wp2_with fail
  have R3 : Blk (((w2.setCell ⟨w.heap.size + 1 + 1 + 1, 0, none⟩ (.int .i64 0)).setCell ⟨w.heap.size + 1 + 1 + 1, 1, none⟩ (.int .u64 0)).setCell ⟨w.heap.size + 1 + 1 + 1, 2, none⟩ (.int .i64 0)) (w.heap.size + 1 + 1 + 1) 24 #[.int .i64 0, .int .u64 0, .int .i64 0] := (Blk.set' (u := .int .i64 0) (i := 2) (cs' := #[.int .i64 0, .int .u64 0, .int .i64 0]) (Blk.set' (u := .int .u64 0) (i := 1) (cs' := #[.int .i64 0, .int .u64 0, .int .i64 0]) (Blk.set' (u := .int .i64 0) (i := 0) (cs' := #[.int .i64 0, .int .u64 0, .int .i64 0]) B3.out rfl) rfl) rfl)
  have k3_0 := R3.at_ (i := 0) (v := .int .i64 0) rfl
  have k3_1 := R3.at_ (i := 1) (v := .int .u64 0) rfl
  have k3_2 := R3.at_ (i := 2) (v := .int .i64 0) rfl
  have HZ : Below w.heap.size w (((w2.setCell ⟨w.heap.size + 1 + 1 + 1, 0, none⟩ (.int .i64 0)).setCell ⟨w.heap.size + 1 + 1 + 1, 1, none⟩ (.int .u64 0)).setCell ⟨w.heap.size + 1 + 1 + 1, 2, none⟩ (.int .i64 0)) := (below_set (below_set (below_set HB.out (by omega) _) (by omega) _) (by omega) _)
  refine bodyPost_ret (v := .tuple #[.agg #[.int .i64 0, .int .u64 0, .int .i64 0], .int .i64 20]) (by simp [results, Tryd.results12, go_sem, k3_0, k3_1, k3_2]) rfl ⟨rfl, HZ⟩
set_option maxRecDepth 100000 in
set_option maxHeartbeats 4000000 in
theorem Float_ok (cur a high x : Lab) (sa : Addr) (w : World) (hh : Env sa w) (h0 : rightsV [cur, a, high] = .nilIface) (h1 : ∀ (fb : Nat) (W : World), Env sa W → Blk W fb 43 #[.int .i64 cur.lv, .int .u64 (u cur.c), .int .i64 cur.ig, .int .i64 high.lv, .int .u64 (u high.c), .int .i64 high.ig] → Calls Tryd.prog 30 #[.pointer (some ⟨fb, 0, none⟩), .agg #[.int .i64 a.lv, .int .u64 (u a.c), .int .i64 a.ig]] W fun e w' => e = .returned (.nilIface) ∧ Blk w' fb 43 #[.int .i64 x.lv, .int .u64 (u x.c), .int .i64 x.ig, .int .i64 high.lv, .int .u64 (u high.c), .int .i64 high.ig] ∧ Turns (· = fb) W w') :
    Calls Tryd.prog 12 #[.agg #[.int .i64 cur.lv, .int .u64 (u cur.c), .int .i64 cur.ig], .agg #[.int .i64 a.lv, .int .u64 (u a.c), .int .i64 a.ig], .agg #[.int .i64 high.lv, .int .u64 (u high.c), .int .i64 high.ig]] w (fun e w' => e = .returned (.tuple #[.agg #[.int .i64 x.lv, .int .u64 (u x.c), .int .i64 x.ig], .int .i64 0]) ∧ Below w.heap.size w w') := by
  have H0 := Lib.hid h0
  clear h0
  have H1 := Lib.hid h1
  clear h1
  have HH := Lib.hid hh
  clear hh
  have HB := Lib.hid (Below.refl w.heap.size w)
  go_enter Tryd.func12, Tryd.ntmps12
  go_wp2_with fail
  refine (areRight_is H0.out _ (LabsAt.of3 (by repeat (first | exact Blk.new' (by simp; done) | exact Blk.new' rfl | refine Blk.drew ?_ | refine Blk.alloc ?_ _)))).mono ?_
  rintro e w1 ⟨rfl, hB⟩
  replace HB := Lib.hid (below_call (w := w) (by repeat (first | exact HB.out | refine below_alloc ?_ _ | refine Below.drew ?_ | refine below_set ?_ (by omega) _)) hB)
  have z1 : w.heap.size ≤ w1.heap.size := HB.out.size
  have B1 : Hid (Blk w1 (w.heap.size + 1) 24 #[.int .i64 a.lv, .int .u64 (u a.c), .int .i64 a.ig]) := Lib.hid (Blk.after (by repeat (first | exact Blk.new' (by simp; done) | exact Blk.new' rfl | refine Blk.drew ?_ | refine Blk.alloc ?_ _)) hB)
  have B3 : Hid (Blk w1 (w.heap.size + 1 + 1 + 1) 24 #[.int .i64 0, .int .u64 0, .int .i64 0]) := Lib.hid (Blk.after (by repeat (first | exact Blk.new' (by simp; done) | exact Blk.new' rfl | refine Blk.drew ?_ | refine Blk.alloc ?_ _)) hB)
  have B4 : Hid (Blk w1 (w.heap.size + 1 + 1 + 1 + 1) 43 #[.int .i64 cur.lv, .int .u64 (u cur.c), .int .i64 cur.ig, .int .i64 high.lv, .int .u64 (u high.c), .int .i64 high.ig]) := Lib.hid (Blk.after (by repeat (first | exact Blk.new' (by simp; done) | exact Blk.new' rfl | refine Blk.drew ?_ | refine Blk.alloc ?_ _)) hB)
  clear hB
  have p1_0 := B1.out.at_ (i := 0) (v := .int .i64 a.lv) rfl
  have p1_1 := B1.out.at_ (i := 1) (v := .int .u64 (u a.c)) rfl
  have p1_2 := B1.out.at_ (i := 2) (v := .int .i64 a.ig) rfl
  have k1_0 : w.heap.size + 1 < w1.heap.size := by have := B1.out.lt; omega
  go_wp2_with fail
  refine (H1.out _ _ (HH.out.up (by repeat (first | exact HB.out | refine below_alloc ?_ _ | refine Below.drew ?_ | refine below_set ?_ (by omega) _))) (by repeat (first | exact B4.out | exact Blk.new' (by simp; done) | exact Blk.new' rfl | refine Blk.drew ?_ | refine Blk.alloc ?_ _))).mono ?_
  rintro e w2 ⟨rfl, hT, hB⟩
  replace HB := Lib.hid (below_turns (by repeat (first | exact HB.out | refine below_alloc ?_ _ | refine Below.drew ?_ | refine below_set ?_ (by omega) _)) hB (by first | omega | simp))
  have z2 : w.heap.size ≤ w2.heap.size := HB.out.size
  replace B3 : Hid (Blk w2 (w.heap.size + 1 + 1 + 1) 24 #[.int .i64 0, .int .u64 0, .int .i64 0]) := Lib.hid (Blk.turned (by repeat (first | exact B3.out | exact Blk.new' (by simp; done) | exact Blk.new' rfl | refine Blk.drew ?_ | refine Blk.alloc ?_ _)) hB (by omega))
  replace B4 : Hid (Blk w2 (w.heap.size + 1 + 1 + 1 + 1) 43 #[.int .i64 x.lv, .int .u64 (u x.c), .int .i64 x.ig, .int .i64 high.lv, .int .u64 (u high.c), .int .i64 high.ig]) := Lib.hid hT
  clear hT
  clear p1_0 p1_1 p1_2 k1_0
  clear hB
  have p3_0 := B3.out.at_ (i := 0) (v := .int .i64 0) rfl
  have p3_1 := B3.out.at_ (i := 1) (v := .int .u64 0) rfl
  have p3_2 := B3.out.at_ (i := 2) (v := .int .i64 0) rfl
  have f3_0 := B3.out.frozen 0
  have f3_1 := B3.out.frozen 1
  have f3_2 := B3.out.frozen 2
  have k3_0 : w.heap.size + 1 + 1 + 1 < w2.heap.size := by have := B3.out.lt; omega
  have p4_0 := B4.out.at_ (i := 0) (v := .int .i64 x.lv) rfl
  have p4_1 := B4.out.at_ (i := 1) (v := .int .u64 (u x.c)) rfl
  have p4_2 := B4.out.at_ (i := 2) (v := .int .i64 x.ig) rfl
  have k4_0 : w.heap.size + 1 + 1 + 1 + 1 < w2.heap.size := by have := B4.out.lt; omega
  go_wp2_with fail
  have R3 : Blk (((w2.setCell ⟨w.heap.size + 1 + 1 + 1, 0, none⟩ (.int .i64 x.lv)).setCell ⟨w.heap.size + 1 + 1 + 1, 1, none⟩ (.int .u64 (u x.c))).setCell ⟨w.heap.size + 1 + 1 + 1, 2, none⟩ (.int .i64 x.ig)) (w.heap.size + 1 + 1 + 1) 24 #[.int .i64 x.lv, .int .u64 (u x.c), .int .i64 x.ig] := (Blk.set' (u := .int .i64 x.ig) (i := 2) (cs' := #[.int .i64 x.lv, .int .u64 (u x.c), .int .i64 x.ig]) (Blk.set' (u := .int .u64 (u x.c)) (i := 1) (cs' := #[.int .i64 x.lv, .int .u64 (u x.c), .int .i64 0]) (Blk.set' (u := .int .i64 x.lv) (i := 0) (cs' := #[.int .i64 x.lv, .int .u64 0, .int .i64 0]) B3.out rfl) rfl) rfl)
  have k3_0 := R3.at_ (i := 0) (v := .int .i64 x.lv) rfl
  have k3_1 := R3.at_ (i := 1) (v := .int .u64 (u x.c)) rfl
  have k3_2 := R3.at_ (i := 2) (v := .int .i64 x.ig) rfl
  have HZ : Below w.heap.size w (((w2.setCell ⟨w.heap.size + 1 + 1 + 1, 0, none⟩ (.int .i64 x.lv)).setCell ⟨w.heap.size + 1 + 1 + 1, 1, none⟩ (.int .u64 (u x.c))).setCell ⟨w.heap.size + 1 + 1 + 1, 2, none⟩ (.int .i64 x.ig)) := (below_set (below_set (below_set HB.out (by omega) _) (by omega) _) (by omega) _)
  refine bodyPost_ret (v := .tuple #[.agg #[.int .i64 x.lv, .int .u64 (u x.c), .int .i64 x.ig], .int .i64 0]) (by simp [results, Tryd.results12, go_sem, k3_0, k3_1, k3_2]) rfl ⟨rfl, HZ⟩
set_option maxRecDepth 100000 in
set_option maxHeartbeats 4000000 in
theorem Float_high (cur a high : Lab) (sa : Addr) (w : World) (hh : Env sa w) (h0 : rightsV [cur, a, high] = .nilIface) (h1 : ∀ (fb : Nat) (W : World), Env sa W → Blk W fb 43 #[.int .i64 cur.lv, .int .u64 (u cur.c), .int .i64 cur.ig, .int .i64 high.lv, .int .u64 (u high.c), .int .i64 high.ig] → Calls Tryd.prog 30 #[.pointer (some ⟨fb, 0, none⟩), .agg #[.int .i64 a.lv, .int .u64 (u a.c), .int .i64 a.ig]] W fun e w' => e = .returned (.iface 67 (.agg #[.iface 109 (.pointer (some sa)), .int .i64 a.lv, .int .u64 (u a.c), .int .i64 a.ig])) ∧ Blk w' fb 43 #[.int .i64 cur.lv, .int .u64 (u cur.c), .int .i64 cur.ig, .int .i64 high.lv, .int .u64 (u high.c), .int .i64 high.ig] ∧ Turns (· = fb) W w') :
    Calls Tryd.prog 12 #[.agg #[.int .i64 cur.lv, .int .u64 (u cur.c), .int .i64 cur.ig], .agg #[.int .i64 a.lv, .int .u64 (u a.c), .int .i64 a.ig], .agg #[.int .i64 high.lv, .int .u64 (u high.c), .int .i64 high.ig]] w (fun e w' => e = .returned (.tuple #[.agg #[.int .i64 0, .int .u64 0, .int .i64 0], .int .i64 120]) ∧ Below w.heap.size w w') := by
  have H0 := Lib.hid h0
  clear h0
  have H1 := Lib.hid h1
  clear h1
  have HH := Lib.hid hh
  clear hh
  have HB := Lib.hid (Below.refl w.heap.size w)
  go_enter Tryd.func12, Tryd.ntmps12
  go_wp2_with fail
  refine (areRight_is H0.out _ (LabsAt.of3 (by repeat (first | exact Blk.new' (by simp; done) | exact Blk.new' rfl | refine Blk.drew ?_ | refine Blk.alloc ?_ _)))).mono ?_
  rintro e w1 ⟨rfl, hB⟩
  replace HB := Lib.hid (below_call (w := w) (by repeat (first | exact HB.out | refine below_alloc ?_ _ | refine Below.drew ?_ | refine below_set ?_ (by omega) _)) hB)
  have z1 : w.heap.size ≤ w1.heap.size := HB.out.size
  have B1 : Hid (Blk w1 (w.heap.size + 1) 24 #[.int .i64 a.lv, .int .u64 (u a.c), .int .i64 a.ig]) := Lib.hid (Blk.after (by repeat (first | exact Blk.new' (by simp; done) | exact Blk.new' rfl | refine Blk.drew ?_ | refine Blk.alloc ?_ _)) hB)
  have B3 : Hid (Blk w1 (w.heap.size + 1 + 1 + 1) 24 #[.int .i64 0, .int .u64 0, .int .i64 0]) := Lib.hid (Blk.after (by repeat (first | exact Blk.new' (by simp; done) | exact Blk.new' rfl | refine Blk.drew ?_ | refine Blk.alloc ?_ _)) hB)
  have B4 : Hid (Blk w1 (w.heap.size + 1 + 1 + 1 + 1) 43 #[.int .i64 cur.lv, .int .u64 (u cur.c), .int .i64 cur.ig, .int .i64 high.lv, .int .u64 (u high.c), .int .i64 high.ig]) := Lib.hid (Blk.after (by repeat (first | exact Blk.new' (by simp; done) | exact Blk.new' rfl | refine Blk.drew ?_ | refine Blk.alloc ?_ _)) hB)
  clear hB
  have p1_0 := B1.out.at_ (i := 0) (v := .int .i64 a.lv) rfl
  have p1_1 := B1.out.at_ (i := 1) (v := .int .u64 (u a.c)) rfl
  have p1_2 := B1.out.at_ (i := 2) (v := .int .i64 a.ig) rfl
  have k1_0 : w.heap.size + 1 < w1.heap.size := by have := B1.out.lt; omega
  go_wp2_with fail
  refine (H1.out _ _ (HH.out.up (by repeat (first | exact HB.out | refine below_alloc ?_ _ | refine Below.drew ?_ | refine below_set ?_ (by omega) _))) (by repeat (first | exact B4.out | exact Blk.new' (by simp; done) | exact Blk.new' rfl | refine Blk.drew ?_ | refine Blk.alloc ?_ _))).mono ?_
  rintro e w2 ⟨rfl, hT, hB⟩
  replace HB := Lib.hid (below_turns (by repeat (first | exact HB.out | refine below_alloc ?_ _ | refine Below.drew ?_ | refine below_set ?_ (by omega) _)) hB (by first | omega | simp))
  have z2 : w.heap.size ≤ w2.heap.size := HB.out.size
  replace B3 : Hid (Blk w2 (w.heap.size + 1 + 1 + 1) 24 #[.int .i64 0, .int .u64 0, .int .i64 0]) := Lib.hid (Blk.turned (by repeat (first | exact B3.out | exact Blk.new' (by simp; done) | exact Blk.new' rfl | refine Blk.drew ?_ | refine Blk.alloc ?_ _)) hB (by omega))
  clear hT
  clear p1_0 p1_1 p1_2 k1_0
  clear hB
  go_wp2_with fail
  refine (told_sent a sa _ (HH.out.up (by repeat (first | exact HB.out | refine below_alloc ?_ _ | refine Below.drew ?_ | refine below_set ?_ (by omega) _)))).mono ?_
  rintro e w3 ⟨rfl, hB⟩
  replace HB := Lib.hid (below_call (w := w) (by repeat (first | exact HB.out | refine below_alloc ?_ _ | refine Below.drew ?_ | refine below_set ?_ (by omega) _)) hB)
  have z3 : w.heap.size ≤ w3.heap.size := HB.out.size
  replace B3 : Hid (Blk w3 (w.heap.size + 1 + 1 + 1) 24 #[.int .i64 0, .int .u64 0, .int .i64 0]) := Lib.hid (Blk.after (by repeat (first | exact B3.out | exact Blk.new' (by simp; done) | exact Blk.new' rfl | refine Blk.drew ?_ | refine Blk.alloc ?_ _)) hB)
  clear hB
  have p3_0 := B3.out.at_ (i := 0) (v := .int .i64 0) rfl
  have p3_1 := B3.out.at_ (i := 1) (v := .int .u64 0) rfl
  have p3_2 := B3.out.at_ (i := 2) (v := .int .i64 0) rfl
  have f3_0 := B3.out.frozen 0
  have f3_1 := B3.out.frozen 1
  have f3_2 := B3.out.frozen 2
  have k3_0 : w.heap.size + 1 + 1 + 1 < w3.heap.size := by have := B3.out.lt; omega
  go_wp2_with fail
  have R3 : Blk (((w3.setCell ⟨w.heap.size + 1 + 1 + 1, 0, none⟩ (.int .i64 0)).setCell ⟨w.heap.size + 1 + 1 + 1, 1, none⟩ (.int .u64 0)).setCell ⟨w.heap.size + 1 + 1 + 1, 2, none⟩ (.int .i64 0)) (w.heap.size + 1 + 1 + 1) 24 #[.int .i64 0, .int .u64 0, .int .i64 0] := (Blk.set' (u := .int .i64 0) (i := 2) (cs' := #[.int .i64 0, .int .u64 0, .int .i64 0]) (Blk.set' (u := .int .u64 0) (i := 1) (cs' := #[.int .i64 0, .int .u64 0, .int .i64 0]) (Blk.set' (u := .int .i64 0) (i := 0) (cs' := #[.int .i64 0, .int .u64 0, .int .i64 0]) B3.out rfl) rfl) rfl)
  have k3_0 := R3.at_ (i := 0) (v := .int .i64 0) rfl
  have k3_1 := R3.at_ (i := 1) (v := .int .u64 0) rfl
  have k3_2 := R3.at_ (i := 2) (v := .int .i64 0) rfl
  have HZ : Below w.heap.size w (((w3.setCell ⟨w.heap.size + 1 + 1 + 1, 0, none⟩ (.int .i64 0)).setCell ⟨w.heap.size + 1 + 1 + 1, 1, none⟩ (.int .u64 0)).setCell ⟨w.heap.size + 1 + 1 + 1, 2, none⟩ (.int .i64 0)) := (below_set (below_set (below_set HB.out (by omega) _) (by omega) _) (by omega) _)
  refine bodyPost_ret (v := .tuple #[.agg #[.int .i64 0, .int .u64 0, .int .i64 0], .int .i64 120]) (by simp [results, Tryd.results12, go_sem, k3_0, k3_1, k3_2]) rfl ⟨rfl, HZ⟩
/-- where one floats to -/
def floatL (cur a high : Lab) : Lab := if okL cur && okL a && okL high then (if le3 (joinL cur a) high then joinL cur a else zeroL) else zeroL
def floatE (cur a high : Lab) : Int := if okL cur && okL a && okL high then (if le3 (joinL cur a) high then 0 else 120) else 20
theorem all3 {a b c : Lab} (ha : okL a = true) (hb : okL b = true) (hc : okL c = true) : rightsV [a, b, c] = .nilIface := rightsV_ok fun x hx => by
  simp only [List.mem_cons, List.not_mem_nil, or_false] at hx
  rcases hx with rfl | rfl | rfl <;> assumption
theorem all2 {a b : Lab} (ha : okL a = true) (hb : okL b = true) : rightsV [a, b] = .nilIface := rightsV_ok fun x hx => by
  simp only [List.mem_cons, List.not_mem_nil, or_false] at hx
  rcases hx with rfl | rfl <;> assumption
theorem Float_any (cur a high : Lab) (sa : Addr) (w : World) (hh : Env sa w) :
    Calls Tryd.prog 12 #[.agg #[.int .i64 cur.lv, .int .u64 (u cur.c), .int .i64 cur.ig], .agg #[.int .i64 a.lv, .int .u64 (u a.c), .int .i64 a.ig], .agg #[.int .i64 high.lv, .int .u64 (u high.c), .int .i64 high.ig]] w fun e w' => e = .returned (.tuple #[.agg #[.int .i64 (floatL cur a high).lv, .int .u64 (u (floatL cur a high).c), .int .i64 (floatL cur a high).ig], .int .i64 (floatE cur a high)]) ∧ Below w.heap.size w w' := by
  unfold floatL floatE
  by_cases hc : okL cur = true
  · by_cases ha : okL a = true
    · by_cases hg : okL high = true
      · rw [hc, ha, hg]
        simp only [Bool.and_self, if_true]
        by_cases hl : le3 (joinL cur a) high = true
        · rw [if_pos hl, if_pos hl]
          refine Float_ok cur a high _ sa w hh (all3 hc ha hg) fun fb W hW hf => (to_any cur high a sa fb W hW hf hc hg ha).mono fun e w' hp => ?_
          unfold ToPost at hp
          rw [if_pos hl, if_pos hl] at hp
          exact hp
        · rw [if_neg hl, if_neg hl]
          refine Float_high cur a high sa w hh (all3 hc ha hg) fun fb W hW hf => (to_any cur high a sa fb W hW hf hc hg ha).mono fun e w' hp => ?_
          unfold ToPost at hp
          rw [if_neg hl, if_neg hl] at hp
          exact hp
      · obtain ⟨y, hy⟩ := rightsV_no (l := [cur, a, high]) (fun k => hg (k high (by simp)))
        rw [hc, ha, nbool hg]
        exact Float_bad cur a high y sa w hh hy
    · obtain ⟨y, hy⟩ := rightsV_no (l := [cur, a, high]) (fun k => ha (k a (by simp)))
      rw [hc, nbool ha]
      exact Float_bad cur a high y sa w hh hy
  · obtain ⟨y, hy⟩ := rightsV_no (l := [cur, a, high]) (fun k => hc (k cur (by simp)))
    rw [nbool hc]
    exact Float_bad cur a high y sa w hh hy
set_option maxRecDepth 100000 in
set_option maxHeartbeats 4000000 in
theorem Writes_no (cur a : Lab) (w : World) (h0 : ∀ W, (binOp .eql 24 (.agg #[.int .i64 a.lv, .int .u64 (u a.c), .int .i64 a.ig]) (.agg #[.int .i64 cur.lv, .int .u64 (u cur.c), .int .i64 cur.ig])).run Tryd.prog W = .ok (.bool false) W) :
    Calls Tryd.prog 16 #[.agg #[.int .i64 cur.lv, .int .u64 (u cur.c), .int .i64 cur.ig], .agg #[.int .i64 a.lv, .int .u64 (u a.c), .int .i64 a.ig]] w (fun e w' => e = .returned (.bool false) ∧ Below w.heap.size w w') := by
  have HB := Lib.hid (Below.refl w.heap.size w)
  go_enter Tryd.func16, Tryd.ntmps16
  go_wp2_with fail
  go_ret
  exact ⟨rfl, (by repeat (first | exact HB.out | refine below_alloc ?_ _ | refine Below.drew ?_ | refine below_set ?_ (by omega) _))⟩
set_option maxRecDepth 100000 in
set_option maxHeartbeats 4000000 in
theorem Writes_ok (cur a : Lab) (w : World) (h0 : ∀ W, (binOp .eql 24 (.agg #[.int .i64 a.lv, .int .u64 (u a.c), .int .i64 a.ig]) (.agg #[.int .i64 cur.lv, .int .u64 (u cur.c), .int .i64 cur.ig])).run Tryd.prog W = .ok (.bool true) W) (h1 : rightsV [a] = .nilIface) :
    Calls Tryd.prog 16 #[.agg #[.int .i64 cur.lv, .int .u64 (u cur.c), .int .i64 cur.ig], .agg #[.int .i64 a.lv, .int .u64 (u a.c), .int .i64 a.ig]] w (fun e w' => e = .returned (.bool true) ∧ Below w.heap.size w w') := by
  have H1 := Lib.hid h1
  clear h1
  have HB := Lib.hid (Below.refl w.heap.size w)
  go_enter Tryd.func16, Tryd.ntmps16
  go_wp2_with fail
  refine (areRight_is H1.out _ (LabsAt.of1 (by repeat (first | exact Blk.new' (by simp; done) | exact Blk.new' rfl | refine Blk.drew ?_ | refine Blk.alloc ?_ _)))).mono ?_
  rintro e w1 ⟨rfl, hB⟩
  replace HB := Lib.hid (below_call (w := w) (by repeat (first | exact HB.out | refine below_alloc ?_ _ | refine Below.drew ?_ | refine below_set ?_ (by omega) _)) hB)
  have z1 : w.heap.size ≤ w1.heap.size := HB.out.size
  clear hB
  go_wp2_with fail
  go_ret
  exact ⟨rfl, (by repeat (first | exact HB.out | refine below_alloc ?_ _ | refine Below.drew ?_ | refine below_set ?_ (by omega) _))⟩
set_option maxRecDepth 100000 in
set_option maxHeartbeats 4000000 in
theorem Writes_bad (cur a y : Lab) (w : World) (h0 : ∀ W, (binOp .eql 24 (.agg #[.int .i64 a.lv, .int .u64 (u a.c), .int .i64 a.ig]) (.agg #[.int .i64 cur.lv, .int .u64 (u cur.c), .int .i64 cur.ig])).run Tryd.prog W = .ok (.bool true) W) (h1 : rightsV [a] = .iface 67 (.agg #[.nilIface, .int .i64 y.lv, .int .u64 (u y.c), .int .i64 y.ig])) :
    Calls Tryd.prog 16 #[.agg #[.int .i64 cur.lv, .int .u64 (u cur.c), .int .i64 cur.ig], .agg #[.int .i64 a.lv, .int .u64 (u a.c), .int .i64 a.ig]] w (fun e w' => e = .returned (.bool false) ∧ Below w.heap.size w w') := by
  have H1 := Lib.hid h1
  clear h1
  have HB := Lib.hid (Below.refl w.heap.size w)
  go_enter Tryd.func16, Tryd.ntmps16
  go_wp2_with fail
  refine (areRight_is H1.out _ (LabsAt.of1 (by repeat (first | exact Blk.new' (by simp; done) | exact Blk.new' rfl | refine Blk.drew ?_ | refine Blk.alloc ?_ _)))).mono ?_
  rintro e w1 ⟨rfl, hB⟩
  replace HB := Lib.hid (below_call (w := w) (by repeat (first | exact HB.out | refine below_alloc ?_ _ | refine Below.drew ?_ | refine below_set ?_ (by omega) _)) hB)
  have z1 : w.heap.size ≤ w1.heap.size := HB.out.size
  clear hB
  go_wp2_with fail
  go_ret
  exact ⟨rfl, (by repeat (first | exact HB.out | refine below_alloc ?_ _ | refine Below.drew ?_ | refine below_set ?_ (by omega) _))⟩
def writesL (cur a : Lab) : Bool := eqL a cur && okL a
theorem Writes_any (cur a : Lab) (w : World) : Calls Tryd.prog 16 #[.agg #[.int .i64 cur.lv, .int .u64 (u cur.c), .int .i64 cur.ig], .agg #[.int .i64 a.lv, .int .u64 (u a.c), .int .i64 a.ig]] w fun e w' => e = .returned (.bool (writesL cur a)) ∧ Below w.heap.size w w' := by
  unfold writesL
  by_cases hq : eqL a cur = true
  · by_cases ha : okL a = true
    · rw [hq, ha]
      exact Writes_ok cur a w (eqlIs hq) (rightsV_ok fun x hx => by simp at hx; subst hx; exact ha)
    · obtain ⟨y, hy⟩ := rightsV_no (l := [a]) (fun k => ha (k a (by simp)))
      rw [hq, nbool ha]
      exact Writes_bad cur a y w (eqlIs hq) hy
  · rw [nbool hq]
    exact Writes_no cur a w (eqlIs (nbool hq))
def WritesIs (cur a : Lab) (r : Bool) : Prop := ∀ W, Calls Tryd.prog 16 #[.agg #[.int .i64 cur.lv, .int .u64 (u cur.c), .int .i64 cur.ig], .agg #[.int .i64 a.lv, .int .u64 (u a.c), .int .i64 a.ig]] W fun e w' => e = .returned (.bool r) ∧ Below W.heap.size W w'
set_option maxRecDepth 100000 in
set_option maxHeartbeats 4000000 in
theorem Send_bad (cur a y : Lab) (sa : Addr) (w : World) (hh : Env sa w) (h0 : rightsV [cur, a] = .iface 67 (.agg #[.nilIface, .int .i64 y.lv, .int .u64 (u y.c), .int .i64 y.ig])) :
    Calls Tryd.prog 15 #[.agg #[.int .i64 cur.lv, .int .u64 (u cur.c), .int .i64 cur.ig], .agg #[.int .i64 a.lv, .int .u64 (u a.c), .int .i64 a.ig]] w (fun e w' => e = .returned (.tuple #[.bool false, .int .i64 20]) ∧ Below w.heap.size w w') := by
  have H0 := Lib.hid h0
  clear h0
  have HH := Lib.hid hh
  clear hh
  have HB := Lib.hid (Below.refl w.heap.size w)
  go_enter Tryd.func15, Tryd.ntmps15
  go_wp2_with fail
  refine (areRight_is H0.out _ (LabsAt.of2 (by repeat (first | exact Blk.new' (by simp; done) | exact Blk.new' rfl | refine Blk.drew ?_ | refine Blk.alloc ?_ _)))).mono ?_
  rintro e w1 ⟨rfl, hB⟩
  replace HB := Lib.hid (below_call (w := w) (by repeat (first | exact HB.out | refine below_alloc ?_ _ | refine Below.drew ?_ | refine below_set ?_ (by omega) _)) hB)
  have z1 : w.heap.size ≤ w1.heap.size := HB.out.size
  clear hB
  go_wp2_with fail
  refine (told_stop y sa _ (HH.out.up (by repeat (first | exact HB.out | refine below_alloc ?_ _ | refine Below.drew ?_ | refine below_set ?_ (by omega) _)))).mono ?_
  rintro e w2 ⟨rfl, hB⟩
  replace HB := Lib.hid (below_call (w := w) (by repeat (first | exact HB.out | refine below_alloc ?_ _ | refine Below.drew ?_ | refine below_set ?_ (by omega) _)) hB)
  have z2 : w.heap.size ≤ w2.heap.size := HB.out.size
  clear hB
  go_wp2_with fail
  go_ret2
  exact ⟨rfl, (by repeat (first | exact HB.out | refine below_alloc ?_ _ | refine Below.drew ?_ | refine below_set ?_ (by omega) _))⟩
set_option maxRecDepth 100000 in
set_option maxHeartbeats 4000000 in
theorem Send_down (cur a : Lab) (w : World) (h0 : rightsV [cur, a] = .nilIface) (h1 : UnderIs cur a false) :
    Calls Tryd.prog 15 #[.agg #[.int .i64 cur.lv, .int .u64 (u cur.c), .int .i64 cur.ig], .agg #[.int .i64 a.lv, .int .u64 (u a.c), .int .i64 a.ig]] w (fun e w' => e = .returned (.tuple #[.bool false, .int .i64 121]) ∧ Below w.heap.size w w') := by
  have H0 := Lib.hid h0
  clear h0
  have H1 := Lib.hid h1
  clear h1
  have HB := Lib.hid (Below.refl w.heap.size w)
  go_enter Tryd.func15, Tryd.ntmps15
  go_wp2_with fail
  refine (areRight_is H0.out _ (LabsAt.of2 (by repeat (first | exact Blk.new' (by simp; done) | exact Blk.new' rfl | refine Blk.drew ?_ | refine Blk.alloc ?_ _)))).mono ?_
  rintro e w1 ⟨rfl, hB⟩
  replace HB := Lib.hid (below_call (w := w) (by repeat (first | exact HB.out | refine below_alloc ?_ _ | refine Below.drew ?_ | refine below_set ?_ (by omega) _)) hB)
  have z1 : w.heap.size ≤ w1.heap.size := HB.out.size
  have B0 : Hid (Blk w1 (w.heap.size) 24 #[.int .i64 cur.lv, .int .u64 (u cur.c), .int .i64 cur.ig]) := Lib.hid (Blk.after (by repeat (first | exact Blk.new' (by simp; done) | exact Blk.new' rfl | refine Blk.drew ?_ | refine Blk.alloc ?_ _)) hB)
  have B1 : Hid (Blk w1 (w.heap.size + 1) 24 #[.int .i64 a.lv, .int .u64 (u a.c), .int .i64 a.ig]) := Lib.hid (Blk.after (by repeat (first | exact Blk.new' (by simp; done) | exact Blk.new' rfl | refine Blk.drew ?_ | refine Blk.alloc ?_ _)) hB)
  clear hB
  have p0_0 := B0.out.at_ (i := 0) (v := .int .i64 cur.lv) rfl
  have p0_1 := B0.out.at_ (i := 1) (v := .int .u64 (u cur.c)) rfl
  have p0_2 := B0.out.at_ (i := 2) (v := .int .i64 cur.ig) rfl
  have k0_0 : w.heap.size < w1.heap.size := by have := B0.out.lt; omega
  have p1_0 := B1.out.at_ (i := 0) (v := .int .i64 a.lv) rfl
  have p1_1 := B1.out.at_ (i := 1) (v := .int .u64 (u a.c)) rfl
  have p1_2 := B1.out.at_ (i := 2) (v := .int .i64 a.ig) rfl
  have k1_0 : w.heap.size + 1 < w1.heap.size := by have := B1.out.lt; omega
  go_wp2_with fail
  refine (H1.out _).mono ?_
  rintro e w2 ⟨rfl, hB⟩
  replace HB := Lib.hid (below_call (w := w) (by repeat (first | exact HB.out | refine below_alloc ?_ _ | refine Below.drew ?_ | refine below_set ?_ (by omega) _)) hB)
  have z2 : w.heap.size ≤ w2.heap.size := HB.out.size
  clear p0_0 p0_1 p0_2 k0_0 p1_0 p1_1 p1_2 k1_0
  clear hB
  go_wp2_with fail
  go_ret2
  exact ⟨rfl, (by repeat (first | exact HB.out | refine below_alloc ?_ _ | refine Below.drew ?_ | refine below_set ?_ (by omega) _))⟩
set_option maxRecDepth 100000 in
set_option maxHeartbeats 4000000 in
theorem Send_ok (cur a : Lab) (r : Bool) (w : World) (h0 : rightsV [cur, a] = .nilIface) (h1 : UnderIs cur a true) (h2 : WritesIs cur a r) :
    Calls Tryd.prog 15 #[.agg #[.int .i64 cur.lv, .int .u64 (u cur.c), .int .i64 cur.ig], .agg #[.int .i64 a.lv, .int .u64 (u a.c), .int .i64 a.ig]] w (fun e w' => e = .returned (.tuple #[.bool (!r), .int .i64 0]) ∧ Below w.heap.size w w') := by
  have H0 := Lib.hid h0
  clear h0
  have H1 := Lib.hid h1
  clear h1
  have H2 := Lib.hid h2
  clear h2
  have HB := Lib.hid (Below.refl w.heap.size w)
  go_enter Tryd.func15, Tryd.ntmps15
  go_wp2_with fail
  refine (areRight_is H0.out _ (LabsAt.of2 (by repeat (first | exact Blk.new' (by simp; done) | exact Blk.new' rfl | refine Blk.drew ?_ | refine Blk.alloc ?_ _)))).mono ?_
  rintro e w1 ⟨rfl, hB⟩
  replace HB := Lib.hid (below_call (w := w) (by repeat (first | exact HB.out | refine below_alloc ?_ _ | refine Below.drew ?_ | refine below_set ?_ (by omega) _)) hB)
  have z1 : w.heap.size ≤ w1.heap.size := HB.out.size
  have B0 : Hid (Blk w1 (w.heap.size) 24 #[.int .i64 cur.lv, .int .u64 (u cur.c), .int .i64 cur.ig]) := Lib.hid (Blk.after (by repeat (first | exact Blk.new' (by simp; done) | exact Blk.new' rfl | refine Blk.drew ?_ | refine Blk.alloc ?_ _)) hB)
  have B1 : Hid (Blk w1 (w.heap.size + 1) 24 #[.int .i64 a.lv, .int .u64 (u a.c), .int .i64 a.ig]) := Lib.hid (Blk.after (by repeat (first | exact Blk.new' (by simp; done) | exact Blk.new' rfl | refine Blk.drew ?_ | refine Blk.alloc ?_ _)) hB)
  clear hB
  have p0_0 := B0.out.at_ (i := 0) (v := .int .i64 cur.lv) rfl
  have p0_1 := B0.out.at_ (i := 1) (v := .int .u64 (u cur.c)) rfl
  have p0_2 := B0.out.at_ (i := 2) (v := .int .i64 cur.ig) rfl
  have k0_0 : w.heap.size < w1.heap.size := by have := B0.out.lt; omega
  have p1_0 := B1.out.at_ (i := 0) (v := .int .i64 a.lv) rfl
  have p1_1 := B1.out.at_ (i := 1) (v := .int .u64 (u a.c)) rfl
  have p1_2 := B1.out.at_ (i := 2) (v := .int .i64 a.ig) rfl
  have k1_0 : w.heap.size + 1 < w1.heap.size := by have := B1.out.lt; omega
  go_wp2_with fail
  refine (H1.out _).mono ?_
  rintro e w2 ⟨rfl, hB⟩
  replace HB := Lib.hid (below_call (w := w) (by repeat (first | exact HB.out | refine below_alloc ?_ _ | refine Below.drew ?_ | refine below_set ?_ (by omega) _)) hB)
  have z2 : w.heap.size ≤ w2.heap.size := HB.out.size
  replace B0 : Hid (Blk w2 (w.heap.size) 24 #[.int .i64 cur.lv, .int .u64 (u cur.c), .int .i64 cur.ig]) := Lib.hid (Blk.after (by repeat (first | exact B0.out | exact Blk.new' (by simp; done) | exact Blk.new' rfl | refine Blk.drew ?_ | refine Blk.alloc ?_ _)) hB)
  replace B1 : Hid (Blk w2 (w.heap.size + 1) 24 #[.int .i64 a.lv, .int .u64 (u a.c), .int .i64 a.ig]) := Lib.hid (Blk.after (by repeat (first | exact B1.out | exact Blk.new' (by simp; done) | exact Blk.new' rfl | refine Blk.drew ?_ | refine Blk.alloc ?_ _)) hB)
  clear p0_0 p0_1 p0_2 k0_0 p1_0 p1_1 p1_2 k1_0
  clear hB
  have p0_0 := B0.out.at_ (i := 0) (v := .int .i64 cur.lv) rfl
  have p0_1 := B0.out.at_ (i := 1) (v := .int .u64 (u cur.c)) rfl
  have p0_2 := B0.out.at_ (i := 2) (v := .int .i64 cur.ig) rfl
  have k0_0 : w.heap.size < w2.heap.size := by have := B0.out.lt; omega
  have p1_0 := B1.out.at_ (i := 0) (v := .int .i64 a.lv) rfl
  have p1_1 := B1.out.at_ (i := 1) (v := .int .u64 (u a.c)) rfl
  have p1_2 := B1.out.at_ (i := 2) (v := .int .i64 a.ig) rfl
  have k1_0 : w.heap.size + 1 < w2.heap.size := by have := B1.out.lt; omega
  go_wp2_with fail
  refine (H2.out _).mono ?_
  rintro e w3 ⟨rfl, hB⟩
  replace HB := Lib.hid (below_call (w := w) (by repeat (first | exact HB.out | refine below_alloc ?_ _ | refine Below.drew ?_ | refine below_set ?_ (by omega) _)) hB)
  have z3 : w.heap.size ≤ w3.heap.size := HB.out.size
  clear p0_0 p0_1 p0_2 k0_0 p1_0 p1_1 p1_2 k1_0
  clear hB
  go_wp2_with fail
  go_ret2
  exact ⟨rfl, (by repeat (first | exact HB.out | refine below_alloc ?_ _ | refine Below.drew ?_ | refine below_set ?_ (by omega) _))⟩
def sendB (cur a : Lab) : Bool := underL cur a && !writesL cur a
def sendE (cur a : Lab) : Int := if okL cur && okL a then (if underL cur a then 0 else 121) else 20
theorem Send_any (cur a : Lab) (sa : Addr) (w : World) (hh : Env sa w) : Calls Tryd.prog 15 #[.agg #[.int .i64 cur.lv, .int .u64 (u cur.c), .int .i64 cur.ig], .agg #[.int .i64 a.lv, .int .u64 (u a.c), .int .i64 a.ig]] w fun e w' => e = .returned (.tuple #[.bool (sendB cur a), .int .i64 (sendE cur a)]) ∧ Below w.heap.size w w' := by
  unfold sendB sendE
  by_cases hc : okL cur = true
  · by_cases ha : okL a = true
    · rw [hc, ha]
      cases hu : underL cur a
      · exact Send_down cur a w (all2 hc ha) (underIs hu)
      · exact Send_ok cur a _ w (all2 hc ha) (underIs hu) (fun W => Writes_any cur a W)
    · obtain ⟨y, hy⟩ := rightsV_no (l := [cur, a]) (fun k => ha (k a (by simp)))
      rw [show underL cur a = false from nbool fun k => ha (underL_iff.1 k).2.1, hc, nbool ha]
      exact Send_bad cur a y sa w hh hy
  · obtain ⟨y, hy⟩ := rightsV_no (l := [cur, a]) (fun k => hc (k cur (by simp)))
    rw [show underL cur a = false from nbool fun k => hc (underL_iff.1 k).1, nbool hc]
    exact Send_bad cur a y sa w hh hy
set_option maxRecDepth 100000 in
set_option maxHeartbeats 4000000 in
theorem Gain_bad (cur a y : Lab) (sa : Addr) (w : World) (hh : Env sa w) (h0 : rightsV [cur, a] = .iface 67 (.agg #[.nilIface, .int .i64 y.lv, .int .u64 (u y.c), .int .i64 y.ig])) :
    Calls Tryd.prog 19 #[.agg #[.int .i64 cur.lv, .int .u64 (u cur.c), .int .i64 cur.ig], .agg #[.int .i64 a.lv, .int .u64 (u a.c), .int .i64 a.ig]] w (fun e w' => e = .returned (.tuple #[.agg #[.int .i64 0, .int .u64 0, .int .i64 0], .int .i64 20]) ∧ Below w.heap.size w w') := by
  have H0 := Lib.hid h0
  clear h0
  have HH := Lib.hid hh
  clear hh
  have HB := Lib.hid (Below.refl w.heap.size w)
  go_enter Tryd.func19, Tryd.ntmps19
  go_wp2_with fail
  refine (areRight_is H0.out _ (LabsAt.of2 (by repeat (first | exact Blk.new' (by simp; done) | exact Blk.new' rfl | refine Blk.drew ?_ | refine Blk.alloc ?_ _)))).mono ?_
  rintro e w1 ⟨rfl, hB⟩
  replace HB := Lib.hid (below_call (w := w) (by repeat (first | exact HB.out | refine below_alloc ?_ _ | refine Below.drew ?_ | refine below_set ?_ (by omega) _)) hB)
  have z1 : w.heap.size ≤ w1.heap.size := HB.out.size
  have B2 : Hid (Blk w1 (w.heap.size + 1 + 1) 24 #[.int .i64 0, .int .u64 0, .int .i64 0]) := Lib.hid (Blk.after (by repeat (first | exact Blk.new' (by simp; done) | exact Blk.new' rfl | refine Blk.drew ?_ | refine Blk.alloc ?_ _)) hB)
  clear hB
  go_wp2_with fail
  refine (told_stop y sa _ (HH.out.up (by repeat (first | exact HB.out | refine below_alloc ?_ _ | refine Below.drew ?_ | refine below_set ?_ (by omega) _)))).mono ?_
  rintro e w2 ⟨rfl, hB⟩
  replace HB := Lib.hid (below_call (w := w) (by repeat (first | exact HB.out | refine below_alloc ?_ _ | refine Below.drew ?_ | refine below_set ?_ (by omega) _)) hB)
  have z2 : w.heap.size ≤ w2.heap.size := HB.out.size
  replace B2 : Hid (Blk w2 (w.heap.size + 1 + 1) 24 #[.int .i64 0, .int .u64 0, .int .i64 0]) := Lib.hid (Blk.after (by repeat (first | exact B2.out | exact Blk.new' (by simp; done) | exact Blk.new' rfl | refine Blk.drew ?_ | refine Blk.alloc ?_ _)) hB)
  clear hB
  have p2_0 := B2.out.at_ (i := 0) (v := .int .i64 0) rfl
  have p2_1 := B2.out.at_ (i := 1) (v := .int .u64 0) rfl
  have p2_2 := B2.out.at_ (i := 2) (v := .int .i64 0) rfl
  have f2_0 := B2.out.frozen 0
  have f2_1 := B2.out.frozen 1
  have f2_2 := B2.out.frozen 2
  have k2_0 : w.heap.size + 1 + 1 < w2.heap.size := by have := B2.out.lt; omega
  go_wp2_with fail
  have R2 : Blk (((w2.setCell ⟨w.heap.size + 1 + 1, 0, none⟩ (.int .i64 0)).setCell ⟨w.heap.size + 1 + 1, 1, none⟩ (.int .u64 0)).setCell ⟨w.heap.size + 1 + 1, 2, none⟩ (.int .i64 0)) (w.heap.size + 1 + 1) 24 #[.int .i64 0, .int .u64 0, .int .i64 0] := (Blk.set' (u := .int .i64 0) (i := 2) (cs' := #[.int .i64 0, .int .u64 0, .int .i64 0]) (Blk.set' (u := .int .u64 0) (i := 1) (cs' := #[.int .i64 0, .int .u64 0, .int .i64 0]) (Blk.set' (u := .int .i64 0) (i := 0) (cs' := #[.int .i64 0, .int .u64 0, .int .i64 0]) B2.out rfl) rfl) rfl)
  have k2_0 := R2.at_ (i := 0) (v := .int .i64 0) rfl
  have k2_1 := R2.at_ (i := 1) (v := .int .u64 0) rfl
  have k2_2 := R2.at_ (i := 2) (v := .int .i64 0) rfl
  have HZ : Below w.heap.size w (((w2.setCell ⟨w.heap.size + 1 + 1, 0, none⟩ (.int .i64 0)).setCell ⟨w.heap.size + 1 + 1, 1, none⟩ (.int .u64 0)).setCell ⟨w.heap.size + 1 + 1, 2, none⟩ (.int .i64 0)) := (below_set (below_set (below_set HB.out (by omega) _) (by omega) _) (by omega) _)
  refine bodyPost_ret (v := .tuple #[.agg #[.int .i64 0, .int .u64 0, .int .i64 0], .int .i64 20]) (by simp [results, Tryd.results19, go_sem, k2_0, k2_1, k2_2]) rfl ⟨rfl, HZ⟩
set_option maxRecDepth 100000 in
set_option maxHeartbeats 4000000 in
theorem Gain_tt (cur a : Lab) (w : World) (h0 : rightsV [cur, a] = .nilIface) (h1 : cur.lv < a.lv) (h2 : a.ig < cur.ig) :
    Calls Tryd.prog 19 #[.agg #[.int .i64 cur.lv, .int .u64 (u cur.c), .int .i64 cur.ig], .agg #[.int .i64 a.lv, .int .u64 (u a.c), .int .i64 a.ig]] w (fun e w' => e = .returned (.tuple #[.agg #[.int .i64 a.lv, .int .u64 (u (a.c &&& ~~~cur.c)), .int .i64 a.ig], .int .i64 0]) ∧ Below w.heap.size w w') := by
  have H0 := Lib.hid h0
  clear h0
  have HB := Lib.hid (Below.refl w.heap.size w)
  go_enter Tryd.func19, Tryd.ntmps19
  go_wp2_with fail
  refine (areRight_is H0.out _ (LabsAt.of2 (by repeat (first | exact Blk.new' (by simp; done) | exact Blk.new' rfl | refine Blk.drew ?_ | refine Blk.alloc ?_ _)))).mono ?_
  rintro e w1 ⟨rfl, hB⟩
  replace HB := Lib.hid (below_call (w := w) (by repeat (first | exact HB.out | refine below_alloc ?_ _ | refine Below.drew ?_ | refine below_set ?_ (by omega) _)) hB)
  have z1 : w.heap.size ≤ w1.heap.size := HB.out.size
  have B0 : Hid (Blk w1 (w.heap.size) 24 #[.int .i64 cur.lv, .int .u64 (u cur.c), .int .i64 cur.ig]) := Lib.hid (Blk.after (by repeat (first | exact Blk.new' (by simp; done) | exact Blk.new' rfl | refine Blk.drew ?_ | refine Blk.alloc ?_ _)) hB)
  have B1 : Hid (Blk w1 (w.heap.size + 1) 24 #[.int .i64 a.lv, .int .u64 (u a.c), .int .i64 a.ig]) := Lib.hid (Blk.after (by repeat (first | exact Blk.new' (by simp; done) | exact Blk.new' rfl | refine Blk.drew ?_ | refine Blk.alloc ?_ _)) hB)
  have B2 : Hid (Blk w1 (w.heap.size + 1 + 1) 24 #[.int .i64 0, .int .u64 0, .int .i64 0]) := Lib.hid (Blk.after (by repeat (first | exact Blk.new' (by simp; done) | exact Blk.new' rfl | refine Blk.drew ?_ | refine Blk.alloc ?_ _)) hB)
  clear hB
  go_wp2_with fail
  refine (Bottom_any _).mono ?_
  rintro e w2 ⟨rfl, hB⟩
  replace HB := Lib.hid (below_call (w := w) (by repeat (first | exact HB.out | refine below_alloc ?_ _ | refine Below.drew ?_ | refine below_set ?_ (by omega) _)) hB)
  have z2 : w.heap.size ≤ w2.heap.size := HB.out.size
  replace B0 : Hid (Blk w2 (w.heap.size) 24 #[.int .i64 cur.lv, .int .u64 (u cur.c), .int .i64 cur.ig]) := Lib.hid (Blk.after (by repeat (first | exact B0.out | exact Blk.new' (by simp; done) | exact Blk.new' rfl | refine Blk.drew ?_ | refine Blk.alloc ?_ _)) hB)
  replace B1 : Hid (Blk w2 (w.heap.size + 1) 24 #[.int .i64 a.lv, .int .u64 (u a.c), .int .i64 a.ig]) := Lib.hid (Blk.after (by repeat (first | exact B1.out | exact Blk.new' (by simp; done) | exact Blk.new' rfl | refine Blk.drew ?_ | refine Blk.alloc ?_ _)) hB)
  replace B2 : Hid (Blk w2 (w.heap.size + 1 + 1) 24 #[.int .i64 0, .int .u64 0, .int .i64 0]) := Lib.hid (Blk.after (by repeat (first | exact B2.out | exact Blk.new' (by simp; done) | exact Blk.new' rfl | refine Blk.drew ?_ | refine Blk.alloc ?_ _)) hB)
  clear hB
  have p0_1 := B0.out.at_ (i := 1) (v := .int .u64 (u cur.c)) rfl
  have k0_0 : w.heap.size < w2.heap.size := by have := B0.out.lt; omega
  have k0_1 : w.heap.size < w2.heap.size + 1 := by have := B0.out.lt; omega
  have p1_1 := B1.out.at_ (i := 1) (v := .int .u64 (u a.c)) rfl
  have k1_0 : w.heap.size + 1 < w2.heap.size := by have := B1.out.lt; omega
  have k1_1 : w.heap.size + 1 < w2.heap.size + 1 := by have := B1.out.lt; omega
  go_wp2_with fail
  refine (less_any _ _ _).mono ?_
  rintro e w' ⟨rfl, rfl⟩
  have p0_0 := B0.out.at_ (i := 0) (v := .int .i64 cur.lv) rfl
  have p0_2 := B0.out.at_ (i := 2) (v := .int .i64 cur.ig) rfl
  have k0_0 : w.heap.size < w2.heap.size := by have := B0.out.lt; omega
  have p1_0 := B1.out.at_ (i := 0) (v := .int .i64 a.lv) rfl
  have p1_2 := B1.out.at_ (i := 2) (v := .int .i64 a.ig) rfl
  have k1_0 : w.heap.size + 1 < w2.heap.size := by have := B1.out.lt; omega
  have p2_0 := B2.out.at_ (i := 0) (v := .int .i64 0) rfl
  have p2_1 := B2.out.at_ (i := 1) (v := .int .u64 0) rfl
  have p2_2 := B2.out.at_ (i := 2) (v := .int .i64 0) rfl
  have f2_0 := B2.out.frozen 0
  have f2_1 := B2.out.frozen 1
  have f2_2 := B2.out.frozen 2
  have k2_0 : w.heap.size + 1 + 1 < w2.heap.size := by have := B2.out.lt; omega
  go_wp2_with fail
  have R2 : Blk ((((w2.setCell ⟨w.heap.size + 1 + 1, 0, none⟩ (.int .i64 a.lv)).setCell ⟨w.heap.size + 1 + 1, 1, none⟩ (.int .u64 (u (a.c &&& ~~~cur.c)))).setCell ⟨w.heap.size + 1 + 1, 2, none⟩ (.int .i64 a.ig)).alloc (.cells #[.int .i64 a.lv, .int .u64 (u (a.c &&& ~~~cur.c)), .int .i64 a.ig] 24)) (w.heap.size + 1 + 1) 24 #[.int .i64 a.lv, .int .u64 (u (a.c &&& ~~~cur.c)), .int .i64 a.ig] := (Blk.alloc (Blk.set' (u := .int .i64 a.ig) (i := 2) (cs' := #[.int .i64 a.lv, .int .u64 (u (a.c &&& ~~~cur.c)), .int .i64 a.ig]) (Blk.set' (u := .int .u64 (u (a.c &&& ~~~cur.c))) (i := 1) (cs' := #[.int .i64 a.lv, .int .u64 (u (a.c &&& ~~~cur.c)), .int .i64 0]) (Blk.set' (u := .int .i64 a.lv) (i := 0) (cs' := #[.int .i64 a.lv, .int .u64 0, .int .i64 0]) B2.out rfl) rfl) rfl) _)
  have k2_0 := R2.at_ (i := 0) (v := .int .i64 a.lv) rfl
  have k2_1 := R2.at_ (i := 1) (v := .int .u64 (u (a.c &&& ~~~cur.c))) rfl
  have k2_2 := R2.at_ (i := 2) (v := .int .i64 a.ig) rfl
  have HZ : Below w.heap.size w ((((w2.setCell ⟨w.heap.size + 1 + 1, 0, none⟩ (.int .i64 a.lv)).setCell ⟨w.heap.size + 1 + 1, 1, none⟩ (.int .u64 (u (a.c &&& ~~~cur.c)))).setCell ⟨w.heap.size + 1 + 1, 2, none⟩ (.int .i64 a.ig)).alloc (.cells #[.int .i64 a.lv, .int .u64 (u (a.c &&& ~~~cur.c)), .int .i64 a.ig] 24)) := (below_alloc (below_set (below_set (below_set HB.out (by omega) _) (by omega) _) (by omega) _) _)
  refine bodyPost_ret (v := .tuple #[.agg #[.int .i64 a.lv, .int .u64 (u (a.c &&& ~~~cur.c)), .int .i64 a.ig], .int .i64 0]) (by simp [results, Tryd.results19, go_sem, k2_0, k2_1, k2_2]) rfl ⟨rfl, HZ⟩
set_option maxRecDepth 100000 in
set_option maxHeartbeats 4000000 in
theorem Gain_tf (cur a : Lab) (w : World) (h0 : rightsV [cur, a] = .nilIface) (h1 : cur.lv < a.lv) (h2 : ¬ a.ig < cur.ig) :
    Calls Tryd.prog 19 #[.agg #[.int .i64 cur.lv, .int .u64 (u cur.c), .int .i64 cur.ig], .agg #[.int .i64 a.lv, .int .u64 (u a.c), .int .i64 a.ig]] w (fun e w' => e = .returned (.tuple #[.agg #[.int .i64 a.lv, .int .u64 (u (a.c &&& ~~~cur.c)), .int .i64 botL.ig], .int .i64 0]) ∧ Below w.heap.size w w') := by
  have H0 := Lib.hid h0
  clear h0
  have HB := Lib.hid (Below.refl w.heap.size w)
  go_enter Tryd.func19, Tryd.ntmps19
  go_wp2_with fail
  refine (areRight_is H0.out _ (LabsAt.of2 (by repeat (first | exact Blk.new' (by simp; done) | exact Blk.new' rfl | refine Blk.drew ?_ | refine Blk.alloc ?_ _)))).mono ?_
  rintro e w1 ⟨rfl, hB⟩
  replace HB := Lib.hid (below_call (w := w) (by repeat (first | exact HB.out | refine below_alloc ?_ _ | refine Below.drew ?_ | refine below_set ?_ (by omega) _)) hB)
  have z1 : w.heap.size ≤ w1.heap.size := HB.out.size
  have B0 : Hid (Blk w1 (w.heap.size) 24 #[.int .i64 cur.lv, .int .u64 (u cur.c), .int .i64 cur.ig]) := Lib.hid (Blk.after (by repeat (first | exact Blk.new' (by simp; done) | exact Blk.new' rfl | refine Blk.drew ?_ | refine Blk.alloc ?_ _)) hB)
  have B1 : Hid (Blk w1 (w.heap.size + 1) 24 #[.int .i64 a.lv, .int .u64 (u a.c), .int .i64 a.ig]) := Lib.hid (Blk.after (by repeat (first | exact Blk.new' (by simp; done) | exact Blk.new' rfl | refine Blk.drew ?_ | refine Blk.alloc ?_ _)) hB)
  have B2 : Hid (Blk w1 (w.heap.size + 1 + 1) 24 #[.int .i64 0, .int .u64 0, .int .i64 0]) := Lib.hid (Blk.after (by repeat (first | exact Blk.new' (by simp; done) | exact Blk.new' rfl | refine Blk.drew ?_ | refine Blk.alloc ?_ _)) hB)
  clear hB
  go_wp2_with fail
  refine (Bottom_any _).mono ?_
  rintro e w2 ⟨rfl, hB⟩
  replace HB := Lib.hid (below_call (w := w) (by repeat (first | exact HB.out | refine below_alloc ?_ _ | refine Below.drew ?_ | refine below_set ?_ (by omega) _)) hB)
  have z2 : w.heap.size ≤ w2.heap.size := HB.out.size
  replace B0 : Hid (Blk w2 (w.heap.size) 24 #[.int .i64 cur.lv, .int .u64 (u cur.c), .int .i64 cur.ig]) := Lib.hid (Blk.after (by repeat (first | exact B0.out | exact Blk.new' (by simp; done) | exact Blk.new' rfl | refine Blk.drew ?_ | refine Blk.alloc ?_ _)) hB)
  replace B1 : Hid (Blk w2 (w.heap.size + 1) 24 #[.int .i64 a.lv, .int .u64 (u a.c), .int .i64 a.ig]) := Lib.hid (Blk.after (by repeat (first | exact B1.out | exact Blk.new' (by simp; done) | exact Blk.new' rfl | refine Blk.drew ?_ | refine Blk.alloc ?_ _)) hB)
  replace B2 : Hid (Blk w2 (w.heap.size + 1 + 1) 24 #[.int .i64 0, .int .u64 0, .int .i64 0]) := Lib.hid (Blk.after (by repeat (first | exact B2.out | exact Blk.new' (by simp; done) | exact Blk.new' rfl | refine Blk.drew ?_ | refine Blk.alloc ?_ _)) hB)
  clear hB
  have p0_1 := B0.out.at_ (i := 1) (v := .int .u64 (u cur.c)) rfl
  have k0_0 : w.heap.size < w2.heap.size := by have := B0.out.lt; omega
  have k0_1 : w.heap.size < w2.heap.size + 1 := by have := B0.out.lt; omega
  have p1_1 := B1.out.at_ (i := 1) (v := .int .u64 (u a.c)) rfl
  have k1_0 : w.heap.size + 1 < w2.heap.size := by have := B1.out.lt; omega
  have k1_1 : w.heap.size + 1 < w2.heap.size + 1 := by have := B1.out.lt; omega
  go_wp2_with fail
  refine (less_any _ _ _).mono ?_
  rintro e w' ⟨rfl, rfl⟩
  have p0_0 := B0.out.at_ (i := 0) (v := .int .i64 cur.lv) rfl
  have p0_2 := B0.out.at_ (i := 2) (v := .int .i64 cur.ig) rfl
  have k0_0 : w.heap.size < w2.heap.size := by have := B0.out.lt; omega
  have p1_0 := B1.out.at_ (i := 0) (v := .int .i64 a.lv) rfl
  have p1_2 := B1.out.at_ (i := 2) (v := .int .i64 a.ig) rfl
  have k1_0 : w.heap.size + 1 < w2.heap.size := by have := B1.out.lt; omega
  have p2_0 := B2.out.at_ (i := 0) (v := .int .i64 0) rfl
  have p2_1 := B2.out.at_ (i := 1) (v := .int .u64 0) rfl
  have p2_2 := B2.out.at_ (i := 2) (v := .int .i64 0) rfl
  have f2_0 := B2.out.frozen 0
  have f2_1 := B2.out.frozen 1
  have f2_2 := B2.out.frozen 2
  have k2_0 : w.heap.size + 1 + 1 < w2.heap.size := by have := B2.out.lt; omega
  go_wp2_with fail
  have R2 : Blk ((((w2.setCell ⟨w.heap.size + 1 + 1, 0, none⟩ (.int .i64 a.lv)).setCell ⟨w.heap.size + 1 + 1, 1, none⟩ (.int .u64 (u (a.c &&& ~~~cur.c)))).setCell ⟨w.heap.size + 1 + 1, 2, none⟩ (.int .i64 botL.ig)).alloc (.cells #[.int .i64 a.lv, .int .u64 (u (a.c &&& ~~~cur.c)), .int .i64 botL.ig] 24)) (w.heap.size + 1 + 1) 24 #[.int .i64 a.lv, .int .u64 (u (a.c &&& ~~~cur.c)), .int .i64 botL.ig] := (Blk.alloc (Blk.set' (u := .int .i64 botL.ig) (i := 2) (cs' := #[.int .i64 a.lv, .int .u64 (u (a.c &&& ~~~cur.c)), .int .i64 botL.ig]) (Blk.set' (u := .int .u64 (u (a.c &&& ~~~cur.c))) (i := 1) (cs' := #[.int .i64 a.lv, .int .u64 (u (a.c &&& ~~~cur.c)), .int .i64 0]) (Blk.set' (u := .int .i64 a.lv) (i := 0) (cs' := #[.int .i64 a.lv, .int .u64 0, .int .i64 0]) B2.out rfl) rfl) rfl) _)
  have k2_0 := R2.at_ (i := 0) (v := .int .i64 a.lv) rfl
  have k2_1 := R2.at_ (i := 1) (v := .int .u64 (u (a.c &&& ~~~cur.c))) rfl
  have k2_2 := R2.at_ (i := 2) (v := .int .i64 botL.ig) rfl
  have HZ : Below w.heap.size w ((((w2.setCell ⟨w.heap.size + 1 + 1, 0, none⟩ (.int .i64 a.lv)).setCell ⟨w.heap.size + 1 + 1, 1, none⟩ (.int .u64 (u (a.c &&& ~~~cur.c)))).setCell ⟨w.heap.size + 1 + 1, 2, none⟩ (.int .i64 botL.ig)).alloc (.cells #[.int .i64 a.lv, .int .u64 (u (a.c &&& ~~~cur.c)), .int .i64 botL.ig] 24)) := (below_alloc (below_set (below_set (below_set HB.out (by omega) _) (by omega) _) (by omega) _) _)
  refine bodyPost_ret (v := .tuple #[.agg #[.int .i64 a.lv, .int .u64 (u (a.c &&& ~~~cur.c)), .int .i64 botL.ig], .int .i64 0]) (by simp [results, Tryd.results19, go_sem, k2_0, k2_1, k2_2]) rfl ⟨rfl, HZ⟩
set_option maxRecDepth 100000 in
set_option maxHeartbeats 4000000 in
theorem Gain_ft (cur a : Lab) (w : World) (h0 : rightsV [cur, a] = .nilIface) (h1 : ¬ cur.lv < a.lv) (h2 : a.ig < cur.ig) :
    Calls Tryd.prog 19 #[.agg #[.int .i64 cur.lv, .int .u64 (u cur.c), .int .i64 cur.ig], .agg #[.int .i64 a.lv, .int .u64 (u a.c), .int .i64 a.ig]] w (fun e w' => e = .returned (.tuple #[.agg #[.int .i64 botL.lv, .int .u64 (u (a.c &&& ~~~cur.c)), .int .i64 a.ig], .int .i64 0]) ∧ Below w.heap.size w w') := by
  have H0 := Lib.hid h0
  clear h0
  have HB := Lib.hid (Below.refl w.heap.size w)
  go_enter Tryd.func19, Tryd.ntmps19
  go_wp2_with fail
  refine (areRight_is H0.out _ (LabsAt.of2 (by repeat (first | exact Blk.new' (by simp; done) | exact Blk.new' rfl | refine Blk.drew ?_ | refine Blk.alloc ?_ _)))).mono ?_
  rintro e w1 ⟨rfl, hB⟩
  replace HB := Lib.hid (below_call (w := w) (by repeat (first | exact HB.out | refine below_alloc ?_ _ | refine Below.drew ?_ | refine below_set ?_ (by omega) _)) hB)
  have z1 : w.heap.size ≤ w1.heap.size := HB.out.size
  have B0 : Hid (Blk w1 (w.heap.size) 24 #[.int .i64 cur.lv, .int .u64 (u cur.c), .int .i64 cur.ig]) := Lib.hid (Blk.after (by repeat (first | exact Blk.new' (by simp; done) | exact Blk.new' rfl | refine Blk.drew ?_ | refine Blk.alloc ?_ _)) hB)
  have B1 : Hid (Blk w1 (w.heap.size + 1) 24 #[.int .i64 a.lv, .int .u64 (u a.c), .int .i64 a.ig]) := Lib.hid (Blk.after (by repeat (first | exact Blk.new' (by simp; done) | exact Blk.new' rfl | refine Blk.drew ?_ | refine Blk.alloc ?_ _)) hB)
  have B2 : Hid (Blk w1 (w.heap.size + 1 + 1) 24 #[.int .i64 0, .int .u64 0, .int .i64 0]) := Lib.hid (Blk.after (by repeat (first | exact Blk.new' (by simp; done) | exact Blk.new' rfl | refine Blk.drew ?_ | refine Blk.alloc ?_ _)) hB)
  clear hB
  go_wp2_with fail
  refine (Bottom_any _).mono ?_
  rintro e w2 ⟨rfl, hB⟩
  replace HB := Lib.hid (below_call (w := w) (by repeat (first | exact HB.out | refine below_alloc ?_ _ | refine Below.drew ?_ | refine below_set ?_ (by omega) _)) hB)
  have z2 : w.heap.size ≤ w2.heap.size := HB.out.size
  replace B0 : Hid (Blk w2 (w.heap.size) 24 #[.int .i64 cur.lv, .int .u64 (u cur.c), .int .i64 cur.ig]) := Lib.hid (Blk.after (by repeat (first | exact B0.out | exact Blk.new' (by simp; done) | exact Blk.new' rfl | refine Blk.drew ?_ | refine Blk.alloc ?_ _)) hB)
  replace B1 : Hid (Blk w2 (w.heap.size + 1) 24 #[.int .i64 a.lv, .int .u64 (u a.c), .int .i64 a.ig]) := Lib.hid (Blk.after (by repeat (first | exact B1.out | exact Blk.new' (by simp; done) | exact Blk.new' rfl | refine Blk.drew ?_ | refine Blk.alloc ?_ _)) hB)
  replace B2 : Hid (Blk w2 (w.heap.size + 1 + 1) 24 #[.int .i64 0, .int .u64 0, .int .i64 0]) := Lib.hid (Blk.after (by repeat (first | exact B2.out | exact Blk.new' (by simp; done) | exact Blk.new' rfl | refine Blk.drew ?_ | refine Blk.alloc ?_ _)) hB)
  clear hB
  have p0_1 := B0.out.at_ (i := 1) (v := .int .u64 (u cur.c)) rfl
  have k0_0 : w.heap.size < w2.heap.size := by have := B0.out.lt; omega
  have k0_1 : w.heap.size < w2.heap.size + 1 := by have := B0.out.lt; omega
  have p1_1 := B1.out.at_ (i := 1) (v := .int .u64 (u a.c)) rfl
  have k1_0 : w.heap.size + 1 < w2.heap.size := by have := B1.out.lt; omega
  have k1_1 : w.heap.size + 1 < w2.heap.size + 1 := by have := B1.out.lt; omega
  go_wp2_with fail
  refine (less_any _ _ _).mono ?_
  rintro e w' ⟨rfl, rfl⟩
  have p0_0 := B0.out.at_ (i := 0) (v := .int .i64 cur.lv) rfl
  have p0_2 := B0.out.at_ (i := 2) (v := .int .i64 cur.ig) rfl
  have k0_0 : w.heap.size < w2.heap.size := by have := B0.out.lt; omega
  have p1_0 := B1.out.at_ (i := 0) (v := .int .i64 a.lv) rfl
  have p1_2 := B1.out.at_ (i := 2) (v := .int .i64 a.ig) rfl
  have k1_0 : w.heap.size + 1 < w2.heap.size := by have := B1.out.lt; omega
  have p2_0 := B2.out.at_ (i := 0) (v := .int .i64 0) rfl
  have p2_1 := B2.out.at_ (i := 1) (v := .int .u64 0) rfl
  have p2_2 := B2.out.at_ (i := 2) (v := .int .i64 0) rfl
  have f2_0 := B2.out.frozen 0
  have f2_1 := B2.out.frozen 1
  have f2_2 := B2.out.frozen 2
  have k2_0 : w.heap.size + 1 + 1 < w2.heap.size := by have := B2.out.lt; omega
  go_wp2_with fail
  have R2 : Blk ((((w2.setCell ⟨w.heap.size + 1 + 1, 0, none⟩ (.int .i64 botL.lv)).setCell ⟨w.heap.size + 1 + 1, 1, none⟩ (.int .u64 (u (a.c &&& ~~~cur.c)))).setCell ⟨w.heap.size + 1 + 1, 2, none⟩ (.int .i64 a.ig)).alloc (.cells #[.int .i64 botL.lv, .int .u64 (u (a.c &&& ~~~cur.c)), .int .i64 a.ig] 24)) (w.heap.size + 1 + 1) 24 #[.int .i64 botL.lv, .int .u64 (u (a.c &&& ~~~cur.c)), .int .i64 a.ig] := (Blk.alloc (Blk.set' (u := .int .i64 a.ig) (i := 2) (cs' := #[.int .i64 botL.lv, .int .u64 (u (a.c &&& ~~~cur.c)), .int .i64 a.ig]) (Blk.set' (u := .int .u64 (u (a.c &&& ~~~cur.c))) (i := 1) (cs' := #[.int .i64 botL.lv, .int .u64 (u (a.c &&& ~~~cur.c)), .int .i64 0]) (Blk.set' (u := .int .i64 botL.lv) (i := 0) (cs' := #[.int .i64 botL.lv, .int .u64 0, .int .i64 0]) B2.out rfl) rfl) rfl) _)
  have k2_0 := R2.at_ (i := 0) (v := .int .i64 botL.lv) rfl
  have k2_1 := R2.at_ (i := 1) (v := .int .u64 (u (a.c &&& ~~~cur.c))) rfl
  have k2_2 := R2.at_ (i := 2) (v := .int .i64 a.ig) rfl
  have HZ : Below w.heap.size w ((((w2.setCell ⟨w.heap.size + 1 + 1, 0, none⟩ (.int .i64 botL.lv)).setCell ⟨w.heap.size + 1 + 1, 1, none⟩ (.int .u64 (u (a.c &&& ~~~cur.c)))).setCell ⟨w.heap.size + 1 + 1, 2, none⟩ (.int .i64 a.ig)).alloc (.cells #[.int .i64 botL.lv, .int .u64 (u (a.c &&& ~~~cur.c)), .int .i64 a.ig] 24)) := (below_alloc (below_set (below_set (below_set HB.out (by omega) _) (by omega) _) (by omega) _) _)
  refine bodyPost_ret (v := .tuple #[.agg #[.int .i64 botL.lv, .int .u64 (u (a.c &&& ~~~cur.c)), .int .i64 a.ig], .int .i64 0]) (by simp [results, Tryd.results19, go_sem, k2_0, k2_1, k2_2]) rfl ⟨rfl, HZ⟩
set_option maxRecDepth 100000 in
set_option maxHeartbeats 4000000 in
theorem Gain_ff (cur a : Lab) (w : World) (h0 : rightsV [cur, a] = .nilIface) (h1 : ¬ cur.lv < a.lv) (h2 : ¬ a.ig < cur.ig) :
    Calls Tryd.prog 19 #[.agg #[.int .i64 cur.lv, .int .u64 (u cur.c), .int .i64 cur.ig], .agg #[.int .i64 a.lv, .int .u64 (u a.c), .int .i64 a.ig]] w (fun e w' => e = .returned (.tuple #[.agg #[.int .i64 botL.lv, .int .u64 (u (a.c &&& ~~~cur.c)), .int .i64 botL.ig], .int .i64 0]) ∧ Below w.heap.size w w') := by
  have H0 := Lib.hid h0
  clear h0
  have HB := Lib.hid (Below.refl w.heap.size w)
  go_enter Tryd.func19, Tryd.ntmps19
  go_wp2_with fail
  refine (areRight_is H0.out _ (LabsAt.of2 (by repeat (first | exact Blk.new' (by simp; done) | exact Blk.new' rfl | refine Blk.drew ?_ | refine Blk.alloc ?_ _)))).mono ?_
  rintro e w1 ⟨rfl, hB⟩
  replace HB := Lib.hid (below_call (w := w) (by repeat (first | exact HB.out | refine below_alloc ?_ _ | refine Below.drew ?_ | refine below_set ?_ (by omega) _)) hB)
  have z1 : w.heap.size ≤ w1.heap.size := HB.out.size
  have B0 : Hid (Blk w1 (w.heap.size) 24 #[.int .i64 cur.lv, .int .u64 (u cur.c), .int .i64 cur.ig]) := Lib.hid (Blk.after (by repeat (first | exact Blk.new' (by simp; done) | exact Blk.new' rfl | refine Blk.drew ?_ | refine Blk.alloc ?_ _)) hB)
  have B1 : Hid (Blk w1 (w.heap.size + 1) 24 #[.int .i64 a.lv, .int .u64 (u a.c), .int .i64 a.ig]) := Lib.hid (Blk.after (by repeat (first | exact Blk.new' (by simp; done) | exact Blk.new' rfl | refine Blk.drew ?_ | refine Blk.alloc ?_ _)) hB)
  have B2 : Hid (Blk w1 (w.heap.size + 1 + 1) 24 #[.int .i64 0, .int .u64 0, .int .i64 0]) := Lib.hid (Blk.after (by repeat (first | exact Blk.new' (by simp; done) | exact Blk.new' rfl | refine Blk.drew ?_ | refine Blk.alloc ?_ _)) hB)
  clear hB
  go_wp2_with fail
  refine (Bottom_any _).mono ?_
  rintro e w2 ⟨rfl, hB⟩
  replace HB := Lib.hid (below_call (w := w) (by repeat (first | exact HB.out | refine below_alloc ?_ _ | refine Below.drew ?_ | refine below_set ?_ (by omega) _)) hB)
  have z2 : w.heap.size ≤ w2.heap.size := HB.out.size
  replace B0 : Hid (Blk w2 (w.heap.size) 24 #[.int .i64 cur.lv, .int .u64 (u cur.c), .int .i64 cur.ig]) := Lib.hid (Blk.after (by repeat (first | exact B0.out | exact Blk.new' (by simp; done) | exact Blk.new' rfl | refine Blk.drew ?_ | refine Blk.alloc ?_ _)) hB)
  replace B1 : Hid (Blk w2 (w.heap.size + 1) 24 #[.int .i64 a.lv, .int .u64 (u a.c), .int .i64 a.ig]) := Lib.hid (Blk.after (by repeat (first | exact B1.out | exact Blk.new' (by simp; done) | exact Blk.new' rfl | refine Blk.drew ?_ | refine Blk.alloc ?_ _)) hB)
  replace B2 : Hid (Blk w2 (w.heap.size + 1 + 1) 24 #[.int .i64 0, .int .u64 0, .int .i64 0]) := Lib.hid (Blk.after (by repeat (first | exact B2.out | exact Blk.new' (by simp; done) | exact Blk.new' rfl | refine Blk.drew ?_ | refine Blk.alloc ?_ _)) hB)
  clear hB
  have p0_1 := B0.out.at_ (i := 1) (v := .int .u64 (u cur.c)) rfl
  have k0_0 : w.heap.size < w2.heap.size := by have := B0.out.lt; omega
  have k0_1 : w.heap.size < w2.heap.size + 1 := by have := B0.out.lt; omega
  have p1_1 := B1.out.at_ (i := 1) (v := .int .u64 (u a.c)) rfl
  have k1_0 : w.heap.size + 1 < w2.heap.size := by have := B1.out.lt; omega
  have k1_1 : w.heap.size + 1 < w2.heap.size + 1 := by have := B1.out.lt; omega
  go_wp2_with fail
  refine (less_any _ _ _).mono ?_
  rintro e w' ⟨rfl, rfl⟩
  have p0_0 := B0.out.at_ (i := 0) (v := .int .i64 cur.lv) rfl
  have p0_2 := B0.out.at_ (i := 2) (v := .int .i64 cur.ig) rfl
  have k0_0 : w.heap.size < w2.heap.size := by have := B0.out.lt; omega
  have p1_0 := B1.out.at_ (i := 0) (v := .int .i64 a.lv) rfl
  have p1_2 := B1.out.at_ (i := 2) (v := .int .i64 a.ig) rfl
  have k1_0 : w.heap.size + 1 < w2.heap.size := by have := B1.out.lt; omega
  have p2_0 := B2.out.at_ (i := 0) (v := .int .i64 0) rfl
  have p2_1 := B2.out.at_ (i := 1) (v := .int .u64 0) rfl
  have p2_2 := B2.out.at_ (i := 2) (v := .int .i64 0) rfl
  have f2_0 := B2.out.frozen 0
  have f2_1 := B2.out.frozen 1
  have f2_2 := B2.out.frozen 2
  have k2_0 : w.heap.size + 1 + 1 < w2.heap.size := by have := B2.out.lt; omega
  go_wp2_with fail
  have R2 : Blk ((((w2.setCell ⟨w.heap.size + 1 + 1, 0, none⟩ (.int .i64 botL.lv)).setCell ⟨w.heap.size + 1 + 1, 1, none⟩ (.int .u64 (u (a.c &&& ~~~cur.c)))).setCell ⟨w.heap.size + 1 + 1, 2, none⟩ (.int .i64 botL.ig)).alloc (.cells #[.int .i64 botL.lv, .int .u64 (u (a.c &&& ~~~cur.c)), .int .i64 botL.ig] 24)) (w.heap.size + 1 + 1) 24 #[.int .i64 botL.lv, .int .u64 (u (a.c &&& ~~~cur.c)), .int .i64 botL.ig] := (Blk.alloc (Blk.set' (u := .int .i64 botL.ig) (i := 2) (cs' := #[.int .i64 botL.lv, .int .u64 (u (a.c &&& ~~~cur.c)), .int .i64 botL.ig]) (Blk.set' (u := .int .u64 (u (a.c &&& ~~~cur.c))) (i := 1) (cs' := #[.int .i64 botL.lv, .int .u64 (u (a.c &&& ~~~cur.c)), .int .i64 0]) (Blk.set' (u := .int .i64 botL.lv) (i := 0) (cs' := #[.int .i64 botL.lv, .int .u64 0, .int .i64 0]) B2.out rfl) rfl) rfl) _)
  have k2_0 := R2.at_ (i := 0) (v := .int .i64 botL.lv) rfl
  have k2_1 := R2.at_ (i := 1) (v := .int .u64 (u (a.c &&& ~~~cur.c))) rfl
  have k2_2 := R2.at_ (i := 2) (v := .int .i64 botL.ig) rfl
  have HZ : Below w.heap.size w ((((w2.setCell ⟨w.heap.size + 1 + 1, 0, none⟩ (.int .i64 botL.lv)).setCell ⟨w.heap.size + 1 + 1, 1, none⟩ (.int .u64 (u (a.c &&& ~~~cur.c)))).setCell ⟨w.heap.size + 1 + 1, 2, none⟩ (.int .i64 botL.ig)).alloc (.cells #[.int .i64 botL.lv, .int .u64 (u (a.c &&& ~~~cur.c)), .int .i64 botL.ig] 24)) := (below_alloc (below_set (below_set (below_set HB.out (by omega) _) (by omega) _) (by omega) _) _)
  refine bodyPost_ret (v := .tuple #[.agg #[.int .i64 botL.lv, .int .u64 (u (a.c &&& ~~~cur.c)), .int .i64 botL.ig], .int .i64 0]) (by simp [results, Tryd.results19, go_sem, k2_0, k2_1, k2_2]) rfl ⟨rfl, HZ⟩
def gainL (cur a : Lab) : Lab := if okL cur && okL a then ⟨if cur.lv < a.lv then a.lv else 0, a.c &&& ~~~cur.c, if a.ig < cur.ig then a.ig else 7⟩ else zeroL
def gainE (cur a : Lab) : Int := if okL cur && okL a then 0 else 20
theorem Gain_any (cur a : Lab) (sa : Addr) (w : World) (hh : Env sa w) : Calls Tryd.prog 19 #[.agg #[.int .i64 cur.lv, .int .u64 (u cur.c), .int .i64 cur.ig], .agg #[.int .i64 a.lv, .int .u64 (u a.c), .int .i64 a.ig]] w fun e w' => e = .returned (.tuple #[.agg #[.int .i64 (gainL cur a).lv, .int .u64 (u (gainL cur a).c), .int .i64 (gainL cur a).ig], .int .i64 (gainE cur a)]) ∧ Below w.heap.size w w' := by
  unfold gainL gainE
  by_cases hc : okL cur = true
  · by_cases ha : okL a = true
    · rw [hc, ha]
      simp only [Bool.and_self, if_true]
      by_cases h1 : cur.lv < a.lv <;> by_cases h2 : a.ig < cur.ig
      · rw [if_pos h1, if_pos h2]; exact Gain_tt cur a w (all2 hc ha) h1 h2
      · rw [if_pos h1, if_neg h2]; exact Gain_tf cur a w (all2 hc ha) h1 h2
      · rw [if_neg h1, if_pos h2]; exact Gain_ft cur a w (all2 hc ha) h1 h2
      · rw [if_neg h1, if_neg h2]; exact Gain_ff cur a w (all2 hc ha) h1 h2
    · obtain ⟨y, hy⟩ := rightsV_no (l := [cur, a]) (fun k => ha (k a (by simp)))
      rw [hc, nbool ha]
      exact Gain_bad cur a y sa w hh hy
  · obtain ⟨y, hy⟩ := rightsV_no (l := [cur, a]) (fun k => hc (k cur (by simp)))
    rw [nbool hc]
    exact Gain_bad cur a y sa w hh hy
end Go.Proofs.YtmbafllkiofhnaaDoor
