/-
  THE WALKS OF PACKAGE ceiling, part four: Float, Reads, Writes, Send, Gain (printed by wip/genceil.py).
  THE WALKS OF PACKAGE plimsollref01 that later chapters lean on: Has, Without, Sub, Less.
  THE WALKS OF THE REFERENCES plimsollref02 (Right, Join, Under) and plimsollref12 (printed by wip/genceil.py).
  THE WALKS OF PACKAGE subject, part one: isNext; plimsollref16.is (printed by wip/gensub.py).
  THE WALKS OF PACKAGE subject, part two: plimsollref16.is (printed by wip/gensub.py).
  PACKAGE subject, part three: isNext and plimsollref16.is as a whole.
-/
import Derived.Test.YteepgbkblgcegaaDoorM1
import Derived.Test.YteepgbkblgcegaaDoorProg
import Derived.Handy
import Derived.WalkSpells
import Derived.WalkLawsBesides
import Derived.WalkSmall
import Derived.Lib.Hide
import Derived.BigQuiet
import Derived.Deep.QuietTactic
namespace Go.Proofs.YteepgbkblgcegaaDoor

section
open Go.RowKit

attribute [local go_sem] u_and u_or u_andNot u_add u_sub u_bit u_eq_zero u_beq

theorem Bottom_any (w : World) : Calls Tryd.prog 29 #[] w fun e w' => e = .returned (.agg #[.int .i64 botL.lv, .int .u64 (u botL.c), .int .i64 botL.ig]) ∧ Below w.heap.size w w' := by
  go_enter Tryd.func29, Tryd.ntmps29
  go_wp2
  go_returns
  exact ⟨rfl, by go_grown⟩
set_option maxRecDepth 100000 in
set_option maxHeartbeats 4000000 in
theorem Float_bad (cur a high y : Lab) (sa : Addr) (w : World) (hh : Env sa w) (h0 : rightsV [cur, a, high] = .iface 113 (.agg #[.nilIface, .int .i64 y.lv, .int .u64 (u y.c), .int .i64 y.ig])) :
    Calls Tryd.prog 41 #[.agg #[.int .i64 cur.lv, .int .u64 (u cur.c), .int .i64 cur.ig], .agg #[.int .i64 a.lv, .int .u64 (u a.c), .int .i64 a.ig], .agg #[.int .i64 high.lv, .int .u64 (u high.c), .int .i64 high.ig]] w (fun e w' => e = .returned (.tuple #[.agg #[.int .i64 0, .int .u64 0, .int .i64 0], .int .i64 20]) ∧ Below w.heap.size w w') := by
  have H0 := Lib.hid h0
  clear h0
  have HH := Lib.hid hh
  clear hh
  have HB := Lib.hid (Below.refl w.heap.size w)
  go_enter Tryd.func41, Tryd.ntmps41
  go_wp2_with fail
  refine (areRight_is H0.out _ (LabsAt.of3 (by repeat (first | exact Blk.new' (by simp; done) | exact Blk.new' rfl | refine Blk.drew ?_ | refine Blk.alloc ?_ _)))).mono ?_
  rintro e w1 ⟨rfl, hB⟩
  replace HB := Lib.hid (below_call (w := w) (by repeat (first | exact HB.out | refine below_alloc ?_ _ | refine Below.drew ?_ | refine below_set ?_ (by omega) _)) hB)
  have z1 : w.heap.size ≤ w1.heap.size := HB.out.size
  have B3 : Hid (Blk w1 (w.heap.size + 1 + 1 + 1) 25 #[.int .i64 0, .int .u64 0, .int .i64 0]) := Lib.hid (Blk.after (by repeat (first | exact Blk.new' (by simp; done) | exact Blk.new' rfl | refine Blk.drew ?_ | refine Blk.alloc ?_ _)) hB)
  clear hB
  go_wp2_with fail
  refine (told_stop y sa _ (HH.out.up (by repeat (first | exact HB.out | refine below_alloc ?_ _ | refine Below.drew ?_ | refine below_set ?_ (by omega) _)))).mono ?_
  rintro e w2 ⟨rfl, hB⟩
  replace HB := Lib.hid (below_call (w := w) (by repeat (first | exact HB.out | refine below_alloc ?_ _ | refine Below.drew ?_ | refine below_set ?_ (by omega) _)) hB)
  have z2 : w.heap.size ≤ w2.heap.size := HB.out.size
  replace B3 : Hid (Blk w2 (w.heap.size + 1 + 1 + 1) 25 #[.int .i64 0, .int .u64 0, .int .i64 0]) := Lib.hid (Blk.after (by repeat (first | exact B3.out | exact Blk.new' (by simp; done) | exact Blk.new' rfl | refine Blk.drew ?_ | refine Blk.alloc ?_ _)) hB)
  clear hB
  have p3_0 := B3.out.at_ (i := 0) (v := .int .i64 0) rfl
  have p3_1 := B3.out.at_ (i := 1) (v := .int .u64 0) rfl
  have p3_2 := B3.out.at_ (i := 2) (v := .int .i64 0) rfl
  have f3_0 := B3.out.frozen 0
  have f3_1 := B3.out.frozen 1
  have f3_2 := B3.out.frozen 2
  have k3_0 : w.heap.size + 1 + 1 + 1 < w2.heap.size := by have := B3.out.lt; omega
  go_wp2_with fail
  have R3 : Blk (((w2.setCell ⟨w.heap.size + 1 + 1 + 1, 0, none⟩ (.int .i64 0)).setCell ⟨w.heap.size + 1 + 1 + 1, 1, none⟩ (.int .u64 0)).setCell ⟨w.heap.size + 1 + 1 + 1, 2, none⟩ (.int .i64 0)) (w.heap.size + 1 + 1 + 1) 25 #[.int .i64 0, .int .u64 0, .int .i64 0] := (Blk.set' (u := .int .i64 0) (i := 2) (cs' := #[.int .i64 0, .int .u64 0, .int .i64 0]) (Blk.set' (u := .int .u64 0) (i := 1) (cs' := #[.int .i64 0, .int .u64 0, .int .i64 0]) (Blk.set' (u := .int .i64 0) (i := 0) (cs' := #[.int .i64 0, .int .u64 0, .int .i64 0]) B3.out rfl) rfl) rfl)
  have k3_0 := R3.at_ (i := 0) (v := .int .i64 0) rfl
  have k3_1 := R3.at_ (i := 1) (v := .int .u64 0) rfl
  have k3_2 := R3.at_ (i := 2) (v := .int .i64 0) rfl
  have HZ : Below w.heap.size w (((w2.setCell ⟨w.heap.size + 1 + 1 + 1, 0, none⟩ (.int .i64 0)).setCell ⟨w.heap.size + 1 + 1 + 1, 1, none⟩ (.int .u64 0)).setCell ⟨w.heap.size + 1 + 1 + 1, 2, none⟩ (.int .i64 0)) := (below_set (below_set (below_set HB.out (by omega) _) (by omega) _) (by omega) _)
  refine bodyPost_ret (v := .tuple #[.agg #[.int .i64 0, .int .u64 0, .int .i64 0], .int .i64 20]) (by simp [results, Tryd.results41, go_sem, k3_0, k3_1, k3_2]) rfl ⟨rfl, HZ⟩
set_option maxRecDepth 100000 in
set_option maxHeartbeats 4000000 in
theorem Float_ok (cur a high x : Lab) (sa : Addr) (w : World) (hh : Env sa w) (h0 : rightsV [cur, a, high] = .nilIface) (h1 : ∀ (fb : Nat) (W : World), Env sa W → Blk W fb 92 #[.int .i64 cur.lv, .int .u64 (u cur.c), .int .i64 cur.ig, .int .i64 high.lv, .int .u64 (u high.c), .int .i64 high.ig] → Calls Tryd.prog 55 #[.pointer (some ⟨fb, 0, none⟩), .agg #[.int .i64 a.lv, .int .u64 (u a.c), .int .i64 a.ig]] W fun e w' => e = .returned (.nilIface) ∧ Blk w' fb 92 #[.int .i64 x.lv, .int .u64 (u x.c), .int .i64 x.ig, .int .i64 high.lv, .int .u64 (u high.c), .int .i64 high.ig] ∧ Turns (· = fb) W w') :
    Calls Tryd.prog 41 #[.agg #[.int .i64 cur.lv, .int .u64 (u cur.c), .int .i64 cur.ig], .agg #[.int .i64 a.lv, .int .u64 (u a.c), .int .i64 a.ig], .agg #[.int .i64 high.lv, .int .u64 (u high.c), .int .i64 high.ig]] w (fun e w' => e = .returned (.tuple #[.agg #[.int .i64 x.lv, .int .u64 (u x.c), .int .i64 x.ig], .int .i64 0]) ∧ Below w.heap.size w w') := by
  have H0 := Lib.hid h0
  clear h0
  have H1 := Lib.hid h1
  clear h1
  have HH := Lib.hid hh
  clear hh
  have HB := Lib.hid (Below.refl w.heap.size w)
  go_enter Tryd.func41, Tryd.ntmps41
  go_wp2_with fail
  refine (areRight_is H0.out _ (LabsAt.of3 (by repeat (first | exact Blk.new' (by simp; done) | exact Blk.new' rfl | refine Blk.drew ?_ | refine Blk.alloc ?_ _)))).mono ?_
  rintro e w1 ⟨rfl, hB⟩
  replace HB := Lib.hid (below_call (w := w) (by repeat (first | exact HB.out | refine below_alloc ?_ _ | refine Below.drew ?_ | refine below_set ?_ (by omega) _)) hB)
  have z1 : w.heap.size ≤ w1.heap.size := HB.out.size
  have B1 : Hid (Blk w1 (w.heap.size + 1) 25 #[.int .i64 a.lv, .int .u64 (u a.c), .int .i64 a.ig]) := Lib.hid (Blk.after (by repeat (first | exact Blk.new' (by simp; done) | exact Blk.new' rfl | refine Blk.drew ?_ | refine Blk.alloc ?_ _)) hB)
  have B3 : Hid (Blk w1 (w.heap.size + 1 + 1 + 1) 25 #[.int .i64 0, .int .u64 0, .int .i64 0]) := Lib.hid (Blk.after (by repeat (first | exact Blk.new' (by simp; done) | exact Blk.new' rfl | refine Blk.drew ?_ | refine Blk.alloc ?_ _)) hB)
  have B4 : Hid (Blk w1 (w.heap.size + 1 + 1 + 1 + 1) 92 #[.int .i64 cur.lv, .int .u64 (u cur.c), .int .i64 cur.ig, .int .i64 high.lv, .int .u64 (u high.c), .int .i64 high.ig]) := Lib.hid (Blk.after (by repeat (first | exact Blk.new' (by simp; done) | exact Blk.new' rfl | refine Blk.drew ?_ | refine Blk.alloc ?_ _)) hB)
  clear hB
  have p1_0 := B1.out.at_ (i := 0) (v := .int .i64 a.lv) rfl
  have p1_1 := B1.out.at_ (i := 1) (v := .int .u64 (u a.c)) rfl
  have p1_2 := B1.out.at_ (i := 2) (v := .int .i64 a.ig) rfl
  have k1_0 : w.heap.size + 1 < w1.heap.size := by have := B1.out.lt; omega
  go_wp2_with fail
  refine (H1.out _ _ (HH.out.up (by repeat (first | exact HB.out | refine below_alloc ?_ _ | refine Below.drew ?_ | refine below_set ?_ (by omega) _))) (by repeat (first | exact B4.out | exact Blk.new' (by simp; done) | exact Blk.new' rfl | refine Blk.drew ?_ | refine Blk.alloc ?_ _))).mono ?_
  rintro e w2 ⟨rfl, hT, hB⟩
  replace HB := Lib.hid (below_turns (by repeat (first | exact HB.out | refine below_alloc ?_ _ | refine Below.drew ?_ | refine below_set ?_ (by omega) _)) hB (by first | omega | simp))
  have z2 : w.heap.size ≤ w2.heap.size := HB.out.size
  replace B3 : Hid (Blk w2 (w.heap.size + 1 + 1 + 1) 25 #[.int .i64 0, .int .u64 0, .int .i64 0]) := Lib.hid (Blk.turned (by repeat (first | exact B3.out | exact Blk.new' (by simp; done) | exact Blk.new' rfl | refine Blk.drew ?_ | refine Blk.alloc ?_ _)) hB (by omega))
  replace B4 : Hid (Blk w2 (w.heap.size + 1 + 1 + 1 + 1) 92 #[.int .i64 x.lv, .int .u64 (u x.c), .int .i64 x.ig, .int .i64 high.lv, .int .u64 (u high.c), .int .i64 high.ig]) := Lib.hid hT
  clear hT
  clear p1_0 p1_1 p1_2 k1_0
  clear hB
  have p3_0 := B3.out.at_ (i := 0) (v := .int .i64 0) rfl
  have p3_1 := B3.out.at_ (i := 1) (v := .int .u64 0) rfl
  have p3_2 := B3.out.at_ (i := 2) (v := .int .i64 0) rfl
  have f3_0 := B3.out.frozen 0
  have f3_1 := B3.out.frozen 1
  have f3_2 := B3.out.frozen 2
  have k3_0 : w.heap.size + 1 + 1 + 1 < w2.heap.size := by have := B3.out.lt; omega
  have p4_0 := B4.out.at_ (i := 0) (v := .int .i64 x.lv) rfl
  have p4_1 := B4.out.at_ (i := 1) (v := .int .u64 (u x.c)) rfl
  have p4_2 := B4.out.at_ (i := 2) (v := .int .i64 x.ig) rfl
  have k4_0 : w.heap.size + 1 + 1 + 1 + 1 < w2.heap.size := by have := B4.out.lt; omega
  go_wp2_with fail
  have R3 : Blk (((w2.setCell ⟨w.heap.size + 1 + 1 + 1, 0, none⟩ (.int .i64 x.lv)).setCell ⟨w.heap.size + 1 + 1 + 1, 1, none⟩ (.int .u64 (u x.c))).setCell ⟨w.heap.size + 1 + 1 + 1, 2, none⟩ (.int .i64 x.ig)) (w.heap.size + 1 + 1 + 1) 25 #[.int .i64 x.lv, .int .u64 (u x.c), .int .i64 x.ig] := (Blk.set' (u := .int .i64 x.ig) (i := 2) (cs' := #[.int .i64 x.lv, .int .u64 (u x.c), .int .i64 x.ig]) (Blk.set' (u := .int .u64 (u x.c)) (i := 1) (cs' := #[.int .i64 x.lv, .int .u64 (u x.c), .int .i64 0]) (Blk.set' (u := .int .i64 x.lv) (i := 0) (cs' := #[.int .i64 x.lv, .int .u64 0, .int .i64 0]) B3.out rfl) rfl) rfl)
  have k3_0 := R3.at_ (i := 0) (v := .int .i64 x.lv) rfl
  have k3_1 := R3.at_ (i := 1) (v := .int .u64 (u x.c)) rfl
  have k3_2 := R3.at_ (i := 2) (v := .int .i64 x.ig) rfl
  have HZ : Below w.heap.size w (((w2.setCell ⟨w.heap.size + 1 + 1 + 1, 0, none⟩ (.int .i64 x.lv)).setCell ⟨w.heap.size + 1 + 1 + 1, 1, none⟩ (.int .u64 (u x.c))).setCell ⟨w.heap.size + 1 + 1 + 1, 2, none⟩ (.int .i64 x.ig)) := (below_set (below_set (below_set HB.out (by omega) _) (by omega) _) (by omega) _)
  refine bodyPost_ret (v := .tuple #[.agg #[.int .i64 x.lv, .int .u64 (u x.c), .int .i64 x.ig], .int .i64 0]) (by simp [results, Tryd.results41, go_sem, k3_0, k3_1, k3_2]) rfl ⟨rfl, HZ⟩
set_option maxRecDepth 100000 in
set_option maxHeartbeats 4000000 in
theorem Float_high (cur a high : Lab) (sa : Addr) (w : World) (hh : Env sa w) (h0 : rightsV [cur, a, high] = .nilIface) (h1 : ∀ (fb : Nat) (W : World), Env sa W → Blk W fb 92 #[.int .i64 cur.lv, .int .u64 (u cur.c), .int .i64 cur.ig, .int .i64 high.lv, .int .u64 (u high.c), .int .i64 high.ig] → Calls Tryd.prog 55 #[.pointer (some ⟨fb, 0, none⟩), .agg #[.int .i64 a.lv, .int .u64 (u a.c), .int .i64 a.ig]] W fun e w' => e = .returned (.iface 113 (.agg #[.iface 142 (.pointer (some sa)), .int .i64 a.lv, .int .u64 (u a.c), .int .i64 a.ig])) ∧ Blk w' fb 92 #[.int .i64 cur.lv, .int .u64 (u cur.c), .int .i64 cur.ig, .int .i64 high.lv, .int .u64 (u high.c), .int .i64 high.ig] ∧ Turns (· = fb) W w') :
    Calls Tryd.prog 41 #[.agg #[.int .i64 cur.lv, .int .u64 (u cur.c), .int .i64 cur.ig], .agg #[.int .i64 a.lv, .int .u64 (u a.c), .int .i64 a.ig], .agg #[.int .i64 high.lv, .int .u64 (u high.c), .int .i64 high.ig]] w (fun e w' => e = .returned (.tuple #[.agg #[.int .i64 0, .int .u64 0, .int .i64 0], .int .i64 120]) ∧ Below w.heap.size w w') := by
  have H0 := Lib.hid h0
  clear h0
  have H1 := Lib.hid h1
  clear h1
  have HH := Lib.hid hh
  clear hh
  have HB := Lib.hid (Below.refl w.heap.size w)
  go_enter Tryd.func41, Tryd.ntmps41
  go_wp2_with fail
  refine (areRight_is H0.out _ (LabsAt.of3 (by repeat (first | exact Blk.new' (by simp; done) | exact Blk.new' rfl | refine Blk.drew ?_ | refine Blk.alloc ?_ _)))).mono ?_
  rintro e w1 ⟨rfl, hB⟩
  replace HB := Lib.hid (below_call (w := w) (by repeat (first | exact HB.out | refine below_alloc ?_ _ | refine Below.drew ?_ | refine below_set ?_ (by omega) _)) hB)
  have z1 : w.heap.size ≤ w1.heap.size := HB.out.size
  have B1 : Hid (Blk w1 (w.heap.size + 1) 25 #[.int .i64 a.lv, .int .u64 (u a.c), .int .i64 a.ig]) := Lib.hid (Blk.after (by repeat (first | exact Blk.new' (by simp; done) | exact Blk.new' rfl | refine Blk.drew ?_ | refine Blk.alloc ?_ _)) hB)
  have B3 : Hid (Blk w1 (w.heap.size + 1 + 1 + 1) 25 #[.int .i64 0, .int .u64 0, .int .i64 0]) := Lib.hid (Blk.after (by repeat (first | exact Blk.new' (by simp; done) | exact Blk.new' rfl | refine Blk.drew ?_ | refine Blk.alloc ?_ _)) hB)
  have B4 : Hid (Blk w1 (w.heap.size + 1 + 1 + 1 + 1) 92 #[.int .i64 cur.lv, .int .u64 (u cur.c), .int .i64 cur.ig, .int .i64 high.lv, .int .u64 (u high.c), .int .i64 high.ig]) := Lib.hid (Blk.after (by repeat (first | exact Blk.new' (by simp; done) | exact Blk.new' rfl | refine Blk.drew ?_ | refine Blk.alloc ?_ _)) hB)
  clear hB
  have p1_0 := B1.out.at_ (i := 0) (v := .int .i64 a.lv) rfl
  have p1_1 := B1.out.at_ (i := 1) (v := .int .u64 (u a.c)) rfl
  have p1_2 := B1.out.at_ (i := 2) (v := .int .i64 a.ig) rfl
  have k1_0 : w.heap.size + 1 < w1.heap.size := by have := B1.out.lt; omega
  go_wp2_with fail
  refine (H1.out _ _ (HH.out.up (by repeat (first | exact HB.out | refine below_alloc ?_ _ | refine Below.drew ?_ | refine below_set ?_ (by omega) _))) (by repeat (first | exact B4.out | exact Blk.new' (by simp; done) | exact Blk.new' rfl | refine Blk.drew ?_ | refine Blk.alloc ?_ _))).mono ?_
  rintro e w2 ⟨rfl, hT, hB⟩
  replace HB := Lib.hid (below_turns (by repeat (first | exact HB.out | refine below_alloc ?_ _ | refine Below.drew ?_ | refine below_set ?_ (by omega) _)) hB (by first | omega | simp))
  have z2 : w.heap.size ≤ w2.heap.size := HB.out.size
  replace B3 : Hid (Blk w2 (w.heap.size + 1 + 1 + 1) 25 #[.int .i64 0, .int .u64 0, .int .i64 0]) := Lib.hid (Blk.turned (by repeat (first | exact B3.out | exact Blk.new' (by simp; done) | exact Blk.new' rfl | refine Blk.drew ?_ | refine Blk.alloc ?_ _)) hB (by omega))
  clear hT
  clear p1_0 p1_1 p1_2 k1_0
  clear hB
  go_wp2_with fail
  refine (told_sent a sa _ (HH.out.up (by repeat (first | exact HB.out | refine below_alloc ?_ _ | refine Below.drew ?_ | refine below_set ?_ (by omega) _)))).mono ?_
  rintro e w3 ⟨rfl, hB⟩
  replace HB := Lib.hid (below_call (w := w) (by repeat (first | exact HB.out | refine below_alloc ?_ _ | refine Below.drew ?_ | refine below_set ?_ (by omega) _)) hB)
  have z3 : w.heap.size ≤ w3.heap.size := HB.out.size
  replace B3 : Hid (Blk w3 (w.heap.size + 1 + 1 + 1) 25 #[.int .i64 0, .int .u64 0, .int .i64 0]) := Lib.hid (Blk.after (by repeat (first | exact B3.out | exact Blk.new' (by simp; done) | exact Blk.new' rfl | refine Blk.drew ?_ | refine Blk.alloc ?_ _)) hB)
  clear hB
  have p3_0 := B3.out.at_ (i := 0) (v := .int .i64 0) rfl
  have p3_1 := B3.out.at_ (i := 1) (v := .int .u64 0) rfl
  have p3_2 := B3.out.at_ (i := 2) (v := .int .i64 0) rfl
  have f3_0 := B3.out.frozen 0
  have f3_1 := B3.out.frozen 1
  have f3_2 := B3.out.frozen 2
  have k3_0 : w.heap.size + 1 + 1 + 1 < w3.heap.size := by have := B3.out.lt; omega
  go_wp2_with fail
  have R3 : Blk (((w3.setCell ⟨w.heap.size + 1 + 1 + 1, 0, none⟩ (.int .i64 0)).setCell ⟨w.heap.size + 1 + 1 + 1, 1, none⟩ (.int .u64 0)).setCell ⟨w.heap.size + 1 + 1 + 1, 2, none⟩ (.int .i64 0)) (w.heap.size + 1 + 1 + 1) 25 #[.int .i64 0, .int .u64 0, .int .i64 0] := (Blk.set' (u := .int .i64 0) (i := 2) (cs' := #[.int .i64 0, .int .u64 0, .int .i64 0]) (Blk.set' (u := .int .u64 0) (i := 1) (cs' := #[.int .i64 0, .int .u64 0, .int .i64 0]) (Blk.set' (u := .int .i64 0) (i := 0) (cs' := #[.int .i64 0, .int .u64 0, .int .i64 0]) B3.out rfl) rfl) rfl)
  have k3_0 := R3.at_ (i := 0) (v := .int .i64 0) rfl
  have k3_1 := R3.at_ (i := 1) (v := .int .u64 0) rfl
  have k3_2 := R3.at_ (i := 2) (v := .int .i64 0) rfl
  have HZ : Below w.heap.size w (((w3.setCell ⟨w.heap.size + 1 + 1 + 1, 0, none⟩ (.int .i64 0)).setCell ⟨w.heap.size + 1 + 1 + 1, 1, none⟩ (.int .u64 0)).setCell ⟨w.heap.size + 1 + 1 + 1, 2, none⟩ (.int .i64 0)) := (below_set (below_set (below_set HB.out (by omega) _) (by omega) _) (by omega) _)
  refine bodyPost_ret (v := .tuple #[.agg #[.int .i64 0, .int .u64 0, .int .i64 0], .int .i64 120]) (by simp [results, Tryd.results41, go_sem, k3_0, k3_1, k3_2]) rfl ⟨rfl, HZ⟩
/-- where one floats to -/
def floatL (cur a high : Lab) : Lab := if okL cur && okL a && okL high then (if le3 (joinL cur a) high then joinL cur a else zeroL) else zeroL
def floatE (cur a high : Lab) : Int := if okL cur && okL a && okL high then (if le3 (joinL cur a) high then 0 else 120) else 20
theorem all3 {a b c : Lab} (ha : okL a = true) (hb : okL b = true) (hc : okL c = true) : rightsV [a, b, c] = .nilIface := rightsV_ok fun x hx => by
  simp only [List.mem_cons, List.not_mem_nil, or_false] at hx
  rcases hx with rfl | rfl | rfl <;> assumption
theorem all2 {a b : Lab} (ha : okL a = true) (hb : okL b = true) : rightsV [a, b] = .nilIface := rightsV_ok fun x hx => by
  simp only [List.mem_cons, List.not_mem_nil, or_false] at hx
  rcases hx with rfl | rfl <;> assumption
theorem Float_any (cur a high : Lab) (sa : Addr) (w : World) (hh : Env sa w) :
    Calls Tryd.prog 41 #[.agg #[.int .i64 cur.lv, .int .u64 (u cur.c), .int .i64 cur.ig], .agg #[.int .i64 a.lv, .int .u64 (u a.c), .int .i64 a.ig], .agg #[.int .i64 high.lv, .int .u64 (u high.c), .int .i64 high.ig]] w fun e w' => e = .returned (.tuple #[.agg #[.int .i64 (floatL cur a high).lv, .int .u64 (u (floatL cur a high).c), .int .i64 (floatL cur a high).ig], .int .i64 (floatE cur a high)]) ∧ Below w.heap.size w w' := by
  unfold floatL floatE
  by_cases hc : okL cur = true
  · by_cases ha : okL a = true
    · by_cases hg : okL high = true
      · rw [hc, ha, hg]
        simp only [Bool.and_self, if_true]
        by_cases hl : le3 (joinL cur a) high = true
        · rw [if_pos hl, if_pos hl]
          refine Float_ok cur a high _ sa w hh (all3 hc ha hg) fun fb W hW hf => (to_any cur high a sa fb W hW hf hc hg ha).mono fun e w' hp => ?_
          unfold ToPost at hp
          rw [if_pos hl, if_pos hl] at hp
          exact hp
        · rw [if_neg hl, if_neg hl]
          refine Float_high cur a high sa w hh (all3 hc ha hg) fun fb W hW hf => (to_any cur high a sa fb W hW hf hc hg ha).mono fun e w' hp => ?_
          unfold ToPost at hp
          rw [if_neg hl, if_neg hl] at hp
          exact hp
      · obtain ⟨y, hy⟩ := rightsV_no (l := [cur, a, high]) (fun k => hg (k high (by simp)))
        rw [hc, ha, nbool hg]
        exact Float_bad cur a high y sa w hh hy
    · obtain ⟨y, hy⟩ := rightsV_no (l := [cur, a, high]) (fun k => ha (k a (by simp)))
      rw [hc, nbool ha]
      exact Float_bad cur a high y sa w hh hy
  · obtain ⟨y, hy⟩ := rightsV_no (l := [cur, a, high]) (fun k => hc (k cur (by simp)))
    rw [nbool hc]
    exact Float_bad cur a high y sa w hh hy
end

section
open Go.RowKit

attribute [local go_sem] u_and u_or u_andNot u_add u_sub u_bit u_has and_bit u_eq_zero u_beq

theorem rHas_any (x : BitVec 64) (i : Int) (w : World) :
    Calls Tryd.prog 65 #[.int .u64 (u x), .int .i64 i] w fun e w' => e = .returned (.bool (has x i)) ∧ w = w' := by
  by_cases h0 : 0 ≤ i
  · by_cases h1 : i < 64
    · go_enter Tryd.func65, Tryd.ntmps65
      go_wp2
      go_ret
      exact ⟨rfl, rfl⟩
    · have HF := Lib.hid (has_out x i (by omega))
      go_enter Tryd.func65, Tryd.ntmps65
      go_wp2
      go_ret
      rw [HF.out]
      exact ⟨rfl, rfl⟩
  · have HF := Lib.hid (has_out x i (by omega))
    go_enter Tryd.func65, Tryd.ntmps65
    go_wp2
    go_ret
    rw [HF.out]
    exact ⟨rfl, rfl⟩
theorem rWithout_ok (x : BitVec 64) (i : Int) (w : World) (hi : 0 ≤ i ∧ i < 64) :
    Calls Tryd.prog 76 #[.int .u64 (u x), .int .i64 i] w fun e w' => e = .returned (.tuple #[.int .u64 (u (x &&& ~~~bit i)), .int .i64 0]) ∧ w = w' := by
  obtain ⟨h0, h1⟩ := hi
  by_cases h : has x i = true
  · have HF := Lib.hid (sub_bit x i h0 h1 h)
    go_enter Tryd.func76, Tryd.ntmps76
    go_wp2_with (go_at_call 65; refine (rHas_any x i _).mono ?_; rintro e w' ⟨rfl, rfl⟩)
    go_ret2
    rw [← HF.out]
    exact ⟨rfl, rfl⟩
  · have h' : has x i = false := by simpa using h
    have HF := Lib.hid (not_bit x i h0 h1 h')
    clear h
    go_enter Tryd.func76, Tryd.ntmps76
    go_wp2_with (go_at_call 65; refine (rHas_any x i _).mono ?_; rintro e w' ⟨rfl, rfl⟩)
    go_ret2
    rw [HF.out]
    exact ⟨rfl, rfl⟩
/-! ### two sets -/
/-- what of the first k categories is left -/
def lessTo (x y : BitVec 64) : Nat → BitVec 64
  | 0 => x
  | k + 1 => if has y (k : Int) then lessTo x y k &&& ~~~bit (k : Int) else lessTo x y k
theorem has_lessTo (x y : BitVec 64) (j : Nat) (hj : j < 64) : ∀ k, k ≤ 64 → has (lessTo x y k) (j : Int) = (has x (j : Int) && !(decide (j < k) && has y (j : Int)))
  | 0, _ => by simp [lessTo]
  | k + 1, hk => by
    have ih := has_lessTo x y j hj k (by omega)
    unfold lessTo
    by_cases h : has y (k : Int) = true
    · rw [if_pos h, has_not_bit _ _ _ (by omega) (by omega), ih]
      by_cases e : j = k
      · subst e; simp [h]
      · have e1 : ¬ ((j : Int) = (k : Int)) := by omega
        have e2 : (j < k + 1) ↔ (j < k) := by omega
        simp [e1, e2]
    · rw [if_neg h, ih]
      by_cases e : j = k
      · subst e; simp [h]
      · have e2 : (j < k + 1) ↔ (j < k) := by omega
        simp [e2]
theorem lessTo_all (x y : BitVec 64) : lessTo x y 64 = x &&& ~~~y := by
  refine has_ext fun k hk => ?_
  rw [has_lessTo x y k hk 64 (by omega), has_less]
  simp [hk]
theorem rLess_any (x y : BitVec 64) (w : World) :
    Calls Tryd.prog 68 #[.int .u64 (u x), .int .u64 (u y)] w fun e w' => e = .returned (.int .u64 (u (x &&& ~~~y))) ∧ w = w' := by
  go_enter Tryd.func68, Tryd.ntmps68
  go_wp2
  go_loop [0, 5] (fun s i => ∃ k : Nat, k ≤ 64 ∧ i = .int .i64 k ∧ s = .int .u64 (u (lessTo x y k))) (fun _ i => 64 - (intOf i).toNat)
  case atStart => exact ⟨0, by omega, rfl, rfl⟩
  case round =>
    obtain ⟨k, hk, rfl, rfl⟩ := hrel
    by_cases hlt : k < 64
    · by_cases hy : has y (k : Int) = true
      · have HX : Hid (lessTo x y (k + 1) = lessTo x y k &&& ~~~bit (k : Int)) := by
          show lessTo x y (k + 1) = _
          rw [lessTo, if_pos hy]
        generalize lessTo x y k = z at *
        go_wp2_with (first | (go_at_call 65; refine (rHas_any y k _).mono ?_; rintro e w' ⟨rfl, rfl⟩) | (go_at_call 76; refine (rWithout_ok z k _ (by omega)).mono ?_; rintro e w' ⟨rfl, rfl⟩))
        go_round
        case rel => exact ⟨k + 1, by omega, by go_num, by rw [HX.out]⟩
        case measure => simp [intOf]; omega
      · have hy' : has y (k : Int) = false := by simpa using hy
        have HX : Hid (lessTo x y (k + 1) = lessTo x y k) := by
          show lessTo x y (k + 1) = _
          rw [lessTo, if_neg hy]
        clear hy
        generalize lessTo x y k = z at *
        go_wp2_with (go_at_call 65; refine (rHas_any y k _).mono ?_; rintro e w' ⟨rfl, rfl⟩)
        go_round
        case rel => exact ⟨k + 1, by omega, by go_num, by rw [HX.out]⟩
        case measure => simp [intOf]; omega
    · obtain rfl : k = 64 := by omega
      have HX := Lib.hid (lessTo_all x y)
      generalize lessTo x y 64 = z at *
      go_wp2
      go_ret
      rw [HX.out]
      exact ⟨rfl, rfl⟩
theorem rSub_any (x y : BitVec 64) (w : World) :
    Calls Tryd.prog 53 #[.int .u64 (u x), .int .u64 (u y)] w fun e w' => e = .returned (.bool (sub x y)) ∧ w = w' := by
  go_enter Tryd.func53, Tryd.ntmps53
  go_wp2
  go_loop [5] (fun i => ∃ k : Nat, k ≤ 64 ∧ i = .int .i64 k ∧ ∀ j : Nat, j < k → has x (j : Int) = true → has y (j : Int) = true) (fun i => 64 - (intOf i).toNat)
  case atStart => exact ⟨0, by omega, rfl, fun j hj => by omega⟩
  case round =>
    obtain ⟨k, hk, rfl, hall⟩ := hrel
    have HA := Lib.hid hall
    clear hall
    by_cases hlt : k < 64
    · by_cases hx : has x (k : Int) = true
      · by_cases hy : has y (k : Int) = true
        · go_wp2_with (go_at_call 65; refine (rHas_any _ k _).mono ?_; rintro e w' ⟨rfl, rfl⟩)
          go_round
          case rel =>
            exact ⟨k + 1, by omega, by go_num, fun j hj hx' => by
              by_cases e : j = k
              · subst e; exact hy
              · exact HA.out j (by omega) hx'⟩
          case measure => simp [intOf]; omega
        · have hy' : has y (k : Int) = false := by simpa using hy
          clear hy
          go_wp2_with (go_at_call 65; refine (rHas_any _ k _).mono ?_; rintro e w' ⟨rfl, rfl⟩)
          go_ret
          have : sub x y = false := by
            rw [← Bool.not_eq_true, sub_iff]
            intro h
            rw [h k hlt hx] at hy'
            cases hy'
          rw [this]
          exact ⟨rfl, rfl⟩
      · have hx' : has x (k : Int) = false := by simpa using hx
        clear hx
        go_wp2_with (go_at_call 65; refine (rHas_any _ k _).mono ?_; rintro e w' ⟨rfl, rfl⟩)
        go_round
        case rel =>
          exact ⟨k + 1, by omega, by go_num, fun j hj hj' => by
            by_cases e : j = k
            · subst e; rw [hx'] at hj'; cases hj'
            · exact HA.out j (by omega) hj'⟩
        case measure => simp [intOf]; omega
    · obtain rfl : k = 64 := by omega
      have HX := Lib.hid (sub_iff.2 HA.out)
      go_wp2
      go_ret
      rw [HX.out]
      exact ⟨rfl, rfl⟩
end

section
open Go.RowKit

attribute [local go_sem] u_and u_or u_andNot u_add u_sub u_bit u_eq_zero u_beq

theorem or_add (x y : BitVec 64) : x + (y &&& ~~~x) = x ||| y := by
  rw [BitVec.add_eq_or_of_and_eq_zero _ _ (by ext k hk; simp; intro h _; simp [h])]
  ext k hk; simp; cases x[k] <;> simp
theorem rRight_any (a : Lab) (w : World) :
    Calls Tryd.prog 52 #[.agg #[.int .i64 a.lv, .int .u64 (u a.c), .int .i64 a.ig]] w fun e w' => e = .returned (.bool (okL a)) ∧ Below w.heap.size w w' := by
  by_cases h1 : 0 ≤ a.lv
  · by_cases h2 : a.lv ≤ 15
    · by_cases h3 : 0 ≤ a.ig
      · by_cases h4 : a.ig ≤ 7
        · have HK := Lib.hid (okL_iff.2 ⟨h1, h2, h3, h4⟩)
          go_enter Tryd.func52, Tryd.ntmps52
          go_wp2
          go_ret
          rw [HK.out]
          exact ⟨rfl, (Below.refl _ _).alloc (Nat.le_refl _) _⟩
        · have HK := Lib.hid (okL_no (a := a) (by omega))
          go_enter Tryd.func52, Tryd.ntmps52
          go_wp2
          go_ret
          rw [HK.out]
          exact ⟨rfl, (Below.refl _ _).alloc (Nat.le_refl _) _⟩
      · have HK := Lib.hid (okL_no (a := a) (by omega))
        go_enter Tryd.func52, Tryd.ntmps52
        go_wp2
        go_ret
        rw [HK.out]
        exact ⟨rfl, (Below.refl _ _).alloc (Nat.le_refl _) _⟩
    · have HK := Lib.hid (okL_no (a := a) (by omega))
      go_enter Tryd.func52, Tryd.ntmps52
      go_wp2
      go_ret
      rw [HK.out]
      exact ⟨rfl, (Below.refl _ _).alloc (Nat.le_refl _) _⟩
  · have HK := Lib.hid (okL_no (a := a) (by omega))
    go_enter Tryd.func52, Tryd.ntmps52
    go_wp2
    go_ret
    rw [HK.out]
    exact ⟨rfl, (Below.refl _ _).alloc (Nat.le_refl _) _⟩
def RRightIs (a : Lab) (r : Bool) : Prop := ∀ W, Calls Tryd.prog 52 #[.agg #[.int .i64 a.lv, .int .u64 (u a.c), .int .i64 a.ig]] W fun e w' => e = .returned (.bool r) ∧ Below W.heap.size W w'
theorem rRightIs {a : Lab} {r : Bool} (h : okL a = r) : RRightIs a r := fun W => by rw [← h]; exact rRight_any a W
set_option maxRecDepth 100000 in
set_option maxHeartbeats 4000000 in
theorem rJoin_1 (a b : Lab) (w : World) (h0 : RRightIs a false) :
    Calls Tryd.prog 57 #[.agg #[.int .i64 a.lv, .int .u64 (u a.c), .int .i64 a.ig], .agg #[.int .i64 b.lv, .int .u64 (u b.c), .int .i64 b.ig]] w (fun e w' => e = .returned (.tuple #[.agg #[.int .i64 0, .int .u64 0, .int .i64 0], .int .i64 20]) ∧ Below w.heap.size w w') := by
  have H0 := Lib.hid h0
  clear h0
  have HB := Lib.hid (Below.refl w.heap.size w)
  go_enter Tryd.func57, Tryd.ntmps57
  go_wp2_with fail
  refine (H0.out _).mono ?_
  rintro e w1 ⟨rfl, hB⟩
  replace HB := Lib.hid (below_call (w := w) (by repeat (first | exact HB.out | refine below_alloc ?_ _ | refine Below.drew ?_ | refine below_set ?_ (by omega) _)) hB)
  have z1 : w.heap.size ≤ w1.heap.size := HB.out.size
  have B2 : Hid (Blk w1 (w.heap.size + 1 + 1) 25 #[.int .i64 0, .int .u64 0, .int .i64 0]) := Lib.hid (Blk.after (by repeat (first | exact Blk.new' (by simp; done) | exact Blk.new' rfl | refine Blk.drew ?_ | refine Blk.alloc ?_ _)) hB)
  clear hB
  have p2_0 := B2.out.at_ (i := 0) (v := .int .i64 0) rfl
  have p2_1 := B2.out.at_ (i := 1) (v := .int .u64 0) rfl
  have p2_2 := B2.out.at_ (i := 2) (v := .int .i64 0) rfl
  have f2_0 := B2.out.frozen 0
  have f2_1 := B2.out.frozen 1
  have f2_2 := B2.out.frozen 2
  have k2_0 : w.heap.size + 1 + 1 < w1.heap.size := by have := B2.out.lt; omega
  go_wp2_with fail
  have R2 : Blk (((w1.setCell ⟨w.heap.size + 1 + 1, 0, none⟩ (.int .i64 0)).setCell ⟨w.heap.size + 1 + 1, 1, none⟩ (.int .u64 0)).setCell ⟨w.heap.size + 1 + 1, 2, none⟩ (.int .i64 0)) (w.heap.size + 1 + 1) 25 #[.int .i64 0, .int .u64 0, .int .i64 0] := (Blk.set' (u := .int .i64 0) (i := 2) (cs' := #[.int .i64 0, .int .u64 0, .int .i64 0]) (Blk.set' (u := .int .u64 0) (i := 1) (cs' := #[.int .i64 0, .int .u64 0, .int .i64 0]) (Blk.set' (u := .int .i64 0) (i := 0) (cs' := #[.int .i64 0, .int .u64 0, .int .i64 0]) B2.out rfl) rfl) rfl)
  have k2_0 := R2.at_ (i := 0) (v := .int .i64 0) rfl
  have k2_1 := R2.at_ (i := 1) (v := .int .u64 0) rfl
  have k2_2 := R2.at_ (i := 2) (v := .int .i64 0) rfl
  have HZ : Below w.heap.size w (((w1.setCell ⟨w.heap.size + 1 + 1, 0, none⟩ (.int .i64 0)).setCell ⟨w.heap.size + 1 + 1, 1, none⟩ (.int .u64 0)).setCell ⟨w.heap.size + 1 + 1, 2, none⟩ (.int .i64 0)) := (below_set (below_set (below_set HB.out (by omega) _) (by omega) _) (by omega) _)
  refine bodyPost_ret (v := .tuple #[.agg #[.int .i64 0, .int .u64 0, .int .i64 0], .int .i64 20]) (by simp [results, Tryd.results57, go_sem, k2_0, k2_1, k2_2]) rfl ⟨rfl, HZ⟩
set_option maxRecDepth 100000 in
set_option maxHeartbeats 4000000 in
theorem rJoin_2 (a b : Lab) (w : World) (h0 : RRightIs a true) (h1 : RRightIs b false) :
    Calls Tryd.prog 57 #[.agg #[.int .i64 a.lv, .int .u64 (u a.c), .int .i64 a.ig], .agg #[.int .i64 b.lv, .int .u64 (u b.c), .int .i64 b.ig]] w (fun e w' => e = .returned (.tuple #[.agg #[.int .i64 0, .int .u64 0, .int .i64 0], .int .i64 20]) ∧ Below w.heap.size w w') := by
  have H0 := Lib.hid h0
  clear h0
  have H1 := Lib.hid h1
  clear h1
  have HB := Lib.hid (Below.refl w.heap.size w)
  go_enter Tryd.func57, Tryd.ntmps57
  go_wp2_with fail
  refine (H0.out _).mono ?_
  rintro e w1 ⟨rfl, hB⟩
  replace HB := Lib.hid (below_call (w := w) (by repeat (first | exact HB.out | refine below_alloc ?_ _ | refine Below.drew ?_ | refine below_set ?_ (by omega) _)) hB)
  have z1 : w.heap.size ≤ w1.heap.size := HB.out.size
  have B1 : Hid (Blk w1 (w.heap.size + 1) 25 #[.int .i64 b.lv, .int .u64 (u b.c), .int .i64 b.ig]) := Lib.hid (Blk.after (by repeat (first | exact Blk.new' (by simp; done) | exact Blk.new' rfl | refine Blk.drew ?_ | refine Blk.alloc ?_ _)) hB)
  have B2 : Hid (Blk w1 (w.heap.size + 1 + 1) 25 #[.int .i64 0, .int .u64 0, .int .i64 0]) := Lib.hid (Blk.after (by repeat (first | exact Blk.new' (by simp; done) | exact Blk.new' rfl | refine Blk.drew ?_ | refine Blk.alloc ?_ _)) hB)
  clear hB
  have p1_0 := B1.out.at_ (i := 0) (v := .int .i64 b.lv) rfl
  have p1_1 := B1.out.at_ (i := 1) (v := .int .u64 (u b.c)) rfl
  have p1_2 := B1.out.at_ (i := 2) (v := .int .i64 b.ig) rfl
  have k1_0 : w.heap.size + 1 < w1.heap.size := by have := B1.out.lt; omega
  go_wp2_with fail
  refine (H1.out _).mono ?_
  rintro e w2 ⟨rfl, hB⟩
  replace HB := Lib.hid (below_call (w := w) (by repeat (first | exact HB.out | refine below_alloc ?_ _ | refine Below.drew ?_ | refine below_set ?_ (by omega) _)) hB)
  have z2 : w.heap.size ≤ w2.heap.size := HB.out.size
  replace B2 : Hid (Blk w2 (w.heap.size + 1 + 1) 25 #[.int .i64 0, .int .u64 0, .int .i64 0]) := Lib.hid (Blk.after (by repeat (first | exact B2.out | exact Blk.new' (by simp; done) | exact Blk.new' rfl | refine Blk.drew ?_ | refine Blk.alloc ?_ _)) hB)
  clear p1_0 p1_1 p1_2 k1_0
  clear hB
  have p2_0 := B2.out.at_ (i := 0) (v := .int .i64 0) rfl
  have p2_1 := B2.out.at_ (i := 1) (v := .int .u64 0) rfl
  have p2_2 := B2.out.at_ (i := 2) (v := .int .i64 0) rfl
  have f2_0 := B2.out.frozen 0
  have f2_1 := B2.out.frozen 1
  have f2_2 := B2.out.frozen 2
  have k2_0 : w.heap.size + 1 + 1 < w2.heap.size := by have := B2.out.lt; omega
  go_wp2_with fail
  have R2 : Blk (((w2.setCell ⟨w.heap.size + 1 + 1, 0, none⟩ (.int .i64 0)).setCell ⟨w.heap.size + 1 + 1, 1, none⟩ (.int .u64 0)).setCell ⟨w.heap.size + 1 + 1, 2, none⟩ (.int .i64 0)) (w.heap.size + 1 + 1) 25 #[.int .i64 0, .int .u64 0, .int .i64 0] := (Blk.set' (u := .int .i64 0) (i := 2) (cs' := #[.int .i64 0, .int .u64 0, .int .i64 0]) (Blk.set' (u := .int .u64 0) (i := 1) (cs' := #[.int .i64 0, .int .u64 0, .int .i64 0]) (Blk.set' (u := .int .i64 0) (i := 0) (cs' := #[.int .i64 0, .int .u64 0, .int .i64 0]) B2.out rfl) rfl) rfl)
  have k2_0 := R2.at_ (i := 0) (v := .int .i64 0) rfl
  have k2_1 := R2.at_ (i := 1) (v := .int .u64 0) rfl
  have k2_2 := R2.at_ (i := 2) (v := .int .i64 0) rfl
  have HZ : Below w.heap.size w (((w2.setCell ⟨w.heap.size + 1 + 1, 0, none⟩ (.int .i64 0)).setCell ⟨w.heap.size + 1 + 1, 1, none⟩ (.int .u64 0)).setCell ⟨w.heap.size + 1 + 1, 2, none⟩ (.int .i64 0)) := (below_set (below_set (below_set HB.out (by omega) _) (by omega) _) (by omega) _)
  refine bodyPost_ret (v := .tuple #[.agg #[.int .i64 0, .int .u64 0, .int .i64 0], .int .i64 20]) (by simp [results, Tryd.results57, go_sem, k2_0, k2_1, k2_2]) rfl ⟨rfl, HZ⟩
set_option maxRecDepth 100000 in
set_option maxHeartbeats 4000000 in
theorem rJoin_3 (a b : Lab) (m n : Int) (w : World) (h0 : RRightIs a true) (h1 : RRightIs b true) (h2 : (if a.lv < b.lv then b.lv else a.lv) = m) (h3 : (if b.ig < a.ig then b.ig else a.ig) = n) :
    Calls Tryd.prog 57 #[.agg #[.int .i64 a.lv, .int .u64 (u a.c), .int .i64 a.ig], .agg #[.int .i64 b.lv, .int .u64 (u b.c), .int .i64 b.ig]] w (fun e w' => e = .returned (.tuple #[.agg #[.int .i64 m, .int .u64 (u (a.c + (b.c &&& ~~~a.c))), .int .i64 n], .int .i64 0]) ∧ Below w.heap.size w w') := by
  have H0 := Lib.hid h0
  clear h0
  have H1 := Lib.hid h1
  clear h1
  have HB := Lib.hid (Below.refl w.heap.size w)
  go_enter Tryd.func57, Tryd.ntmps57
  go_wp2_with fail
  refine (H0.out _).mono ?_
  rintro e w1 ⟨rfl, hB⟩
  replace HB := Lib.hid (below_call (w := w) (by repeat (first | exact HB.out | refine below_alloc ?_ _ | refine Below.drew ?_ | refine below_set ?_ (by omega) _)) hB)
  have z1 : w.heap.size ≤ w1.heap.size := HB.out.size
  have B0 : Hid (Blk w1 (w.heap.size) 25 #[.int .i64 a.lv, .int .u64 (u a.c), .int .i64 a.ig]) := Lib.hid (Blk.after (by repeat (first | exact Blk.new' (by simp; done) | exact Blk.new' rfl | refine Blk.drew ?_ | refine Blk.alloc ?_ _)) hB)
  have B1 : Hid (Blk w1 (w.heap.size + 1) 25 #[.int .i64 b.lv, .int .u64 (u b.c), .int .i64 b.ig]) := Lib.hid (Blk.after (by repeat (first | exact Blk.new' (by simp; done) | exact Blk.new' rfl | refine Blk.drew ?_ | refine Blk.alloc ?_ _)) hB)
  have B2 : Hid (Blk w1 (w.heap.size + 1 + 1) 25 #[.int .i64 0, .int .u64 0, .int .i64 0]) := Lib.hid (Blk.after (by repeat (first | exact Blk.new' (by simp; done) | exact Blk.new' rfl | refine Blk.drew ?_ | refine Blk.alloc ?_ _)) hB)
  clear hB
  have p1_0 := B1.out.at_ (i := 0) (v := .int .i64 b.lv) rfl
  have p1_1 := B1.out.at_ (i := 1) (v := .int .u64 (u b.c)) rfl
  have p1_2 := B1.out.at_ (i := 2) (v := .int .i64 b.ig) rfl
  have k1_0 : w.heap.size + 1 < w1.heap.size := by have := B1.out.lt; omega
  go_wp2_with fail
  refine (H1.out _).mono ?_
  rintro e w2 ⟨rfl, hB⟩
  replace HB := Lib.hid (below_call (w := w) (by repeat (first | exact HB.out | refine below_alloc ?_ _ | refine Below.drew ?_ | refine below_set ?_ (by omega) _)) hB)
  have z2 : w.heap.size ≤ w2.heap.size := HB.out.size
  replace B0 : Hid (Blk w2 (w.heap.size) 25 #[.int .i64 a.lv, .int .u64 (u a.c), .int .i64 a.ig]) := Lib.hid (Blk.after (by repeat (first | exact B0.out | exact Blk.new' (by simp; done) | exact Blk.new' rfl | refine Blk.drew ?_ | refine Blk.alloc ?_ _)) hB)
  replace B1 : Hid (Blk w2 (w.heap.size + 1) 25 #[.int .i64 b.lv, .int .u64 (u b.c), .int .i64 b.ig]) := Lib.hid (Blk.after (by repeat (first | exact B1.out | exact Blk.new' (by simp; done) | exact Blk.new' rfl | refine Blk.drew ?_ | refine Blk.alloc ?_ _)) hB)
  replace B2 : Hid (Blk w2 (w.heap.size + 1 + 1) 25 #[.int .i64 0, .int .u64 0, .int .i64 0]) := Lib.hid (Blk.after (by repeat (first | exact B2.out | exact Blk.new' (by simp; done) | exact Blk.new' rfl | refine Blk.drew ?_ | refine Blk.alloc ?_ _)) hB)
  clear p1_0 p1_1 p1_2 k1_0
  clear hB
  go_wp2_with fail
  refine wp_region_gen2 (S := (fun W' => Blk W' (w.heap.size) 25 #[.int .i64 a.lv, .int .u64 (u a.c), .int .i64 a.ig] ∧ Blk W' (w.heap.size + 1) 25 #[.int .i64 b.lv, .int .u64 (u b.c), .int .i64 b.ig] ∧ Below w.heap.size w W')) (N := (fun W' => Blk W' (w.heap.size + 1 + 1) 25 #[.int .i64 0, .int .u64 0, .int .i64 0])) (by kernel_rfl) ⟨(by repeat (first | exact B0.out | exact Blk.new' (by simp; done) | exact Blk.new' rfl | refine Blk.drew ?_ | refine Blk.alloc ?_ _)), (by repeat (first | exact B1.out | exact Blk.new' (by simp; done) | exact Blk.new' rfl | refine Blk.drew ?_ | refine Blk.alloc ?_ _)), (by repeat (first | exact HB.out | refine below_alloc ?_ _ | refine Below.drew ?_ | refine below_set ?_ (by omega) _))⟩ (by repeat (first | exact B2.out | exact Blk.new' (by simp; done) | exact Blk.new' rfl | refine Blk.drew ?_ | refine Blk.alloc ?_ _)) (fun w3 hS hN => ?_)
  have n0 := hN
  have N0 := Lib.hid n0
  have d0_N0 : w.heap.size ≠ w.heap.size + 1 + 1 := by omega
  have d1_N0 : w.heap.size + 1 ≠ w.heap.size + 1 + 1 := by omega
  have dd_N0 : w.heap.size ≤ w.heap.size + 1 + 1 := by omega
  clear n0 hN
  refine wpAnyH_take (i := 0) (v := ?_) (op_at rfl) (by kernel_rfl) (by kernel_rfl) (by kernel_rfl) (fun _ _ _ h => h) (Or.inl ⟨by rfl, ?_⟩) hS ?_; rotate_left; focus ((intro w' hSw; clear hSw; go_simp) <;> with_reducible rfl)
  try simp only [Act.put, List.setIfInBounds_toArray, List.set_cons_zero, List.set_cons_succ]
  refine wpAnyH_take (i := 1) (v := ?_) (op_at rfl) (by kernel_rfl) (by kernel_rfl) (by kernel_rfl) (fun _ _ _ h => h) (Or.inl ⟨by rfl, ?_⟩) hS ?_; rotate_left; focus ((intro w' hSw; obtain ⟨q, -⟩ := hSw; have c0 := q.at_ (i := 0) (v := .int .i64 a.lv) rfl; clear q; go_simp) <;> with_reducible rfl)
  try simp only [Act.put, List.setIfInBounds_toArray, List.set_cons_zero, List.set_cons_succ]
  refine wpAnyH_take (i := 2) (v := ?_) (op_at rfl) (by kernel_rfl) (by kernel_rfl) (by kernel_rfl) (fun _ _ _ h => h) (Or.inl ⟨by rfl, ?_⟩) hS ?_; rotate_left; focus ((intro w' hSw; clear hSw; go_simp) <;> with_reducible rfl)
  try simp only [Act.put, List.setIfInBounds_toArray, List.set_cons_zero, List.set_cons_succ]
  refine wpAnyH_take (i := 3) (v := ?_) (op_at rfl) (by kernel_rfl) (by kernel_rfl) (by kernel_rfl) (fun _ _ _ h => h) (Or.inl ⟨by rfl, ?_⟩) hS ?_; rotate_left; focus ((intro w' hSw; obtain ⟨-, q, -⟩ := hSw; have c0 := q.at_ (i := 0) (v := .int .i64 b.lv) rfl; clear q; go_simp) <;> with_reducible rfl)
  try simp only [Act.put, List.setIfInBounds_toArray, List.set_cons_zero, List.set_cons_succ]
  refine wpAnyH_take (i := 4) (v := ?_) (op_at rfl) (by kernel_rfl) (by kernel_rfl) (by kernel_rfl) (fun _ _ _ h => h) (Or.inl ⟨by rfl, ?_⟩) hS ?_; rotate_left; focus ((intro w' hSw; clear hSw; go_simp) <;> with_reducible rfl)
  try simp only [Act.put, List.setIfInBounds_toArray, List.set_cons_zero, List.set_cons_succ]
  refine wpAnyH_take (i := 5) (v := ?_) (op_at rfl) (by kernel_rfl) (by kernel_rfl) (by kernel_rfl) (fun _ _ _ h => h) (Or.inl ⟨by rfl, ?_⟩) hS ?_; rotate_left; focus ((intro w' hSw; clear hSw; go_simp) <;> with_reducible rfl)
  try simp only [Act.put, List.setIfInBounds_toArray, List.set_cons_zero, List.set_cons_succ]
  refine wpAnyH_take (i := 6) (v := ?_) (op_at rfl) (by kernel_rfl) (by kernel_rfl) (by kernel_rfl) (fun _ _ _ h => h) (Or.inl ⟨by rfl, ?_⟩) hS ?_; rotate_left; focus ((intro w' hSw; obtain ⟨q, -⟩ := hSw; have c1 := q.at_ (i := 1) (v := .int .u64 (u a.c)) rfl; clear q; go_simp) <;> with_reducible rfl)
  try simp only [Act.put, List.setIfInBounds_toArray, List.set_cons_zero, List.set_cons_succ]
  refine wpAnyH_take (i := 7) (v := ?_) (op_at rfl) (by kernel_rfl) (by kernel_rfl) (by kernel_rfl) (fun _ _ _ h => h) (Or.inl ⟨by rfl, ?_⟩) hS ?_; rotate_left; focus ((intro w' hSw; clear hSw; go_simp) <;> with_reducible rfl)
  try simp only [Act.put, List.setIfInBounds_toArray, List.set_cons_zero, List.set_cons_succ]
  refine wpAnyH_take (i := 8) (v := ?_) (op_at rfl) (by kernel_rfl) (by kernel_rfl) (by kernel_rfl) (fun _ _ _ h => h) (Or.inl ⟨by rfl, ?_⟩) hS ?_; rotate_left; focus ((intro w' hSw; obtain ⟨-, q, -⟩ := hSw; have c1 := q.at_ (i := 1) (v := .int .u64 (u b.c)) rfl; clear q; go_simp) <;> with_reducible rfl)
  try simp only [Act.put, List.setIfInBounds_toArray, List.set_cons_zero, List.set_cons_succ]
  refine wpAnyH_take (i := 9) (v := ?_) (op_at rfl) (by kernel_rfl) (by kernel_rfl) (by kernel_rfl) (fun _ _ _ h => h) (Or.inl ⟨by rfl, ?_⟩) hS ?_; rotate_left; focus ((intro w' hSw; clear hSw; go_simp) <;> with_reducible rfl)
  try simp only [Act.put, List.setIfInBounds_toArray, List.set_cons_zero, List.set_cons_succ]
  refine wpAnyH_take (i := 10) (v := ?_) (op_at rfl) (by kernel_rfl) (by kernel_rfl) (by kernel_rfl) (fun _ _ _ h => h) (Or.inl ⟨by rfl, ?_⟩) hS ?_; rotate_left; focus ((intro w' hSw; obtain ⟨q, -⟩ := hSw; have c1 := q.at_ (i := 1) (v := .int .u64 (u a.c)) rfl; clear q; go_simp) <;> with_reducible rfl)
  try simp only [Act.put, List.setIfInBounds_toArray, List.set_cons_zero, List.set_cons_succ]
  refine wpAnyH_take (i := 13) (v := ?_) (op_at rfl) (by kernel_rfl) (by kernel_rfl) (by kernel_rfl) (fun _ _ _ h => h) (Or.inl ⟨by rfl, ?_⟩) hS ?_; rotate_left; focus ((intro w' hSw; clear hSw; go_simp) <;> with_reducible rfl)
  try simp only [Act.put, List.setIfInBounds_toArray, List.set_cons_zero, List.set_cons_succ]
  refine wpAnyH_take (i := 14) (v := ?_) (op_at rfl) (by kernel_rfl) (by kernel_rfl) (by kernel_rfl) (fun _ _ _ h => h) (Or.inl ⟨by rfl, ?_⟩) hS ?_; rotate_left; focus ((intro w' hSw; obtain ⟨q, -⟩ := hSw; have c2 := q.at_ (i := 2) (v := .int .i64 a.ig) rfl; clear q; go_simp) <;> with_reducible rfl)
  try simp only [Act.put, List.setIfInBounds_toArray, List.set_cons_zero, List.set_cons_succ]
  refine wpAnyH_take (i := 15) (v := ?_) (op_at rfl) (by kernel_rfl) (by kernel_rfl) (by kernel_rfl) (fun _ _ _ h => h) (Or.inl ⟨by rfl, ?_⟩) hS ?_; rotate_left; focus ((intro w' hSw; clear hSw; go_simp) <;> with_reducible rfl)
  try simp only [Act.put, List.setIfInBounds_toArray, List.set_cons_zero, List.set_cons_succ]
  refine wpAnyH_take (i := 16) (v := ?_) (op_at rfl) (by kernel_rfl) (by kernel_rfl) (by kernel_rfl) (fun _ _ _ h => h) (Or.inl ⟨by rfl, ?_⟩) hS ?_; rotate_left; focus ((intro w' hSw; obtain ⟨-, q, -⟩ := hSw; have c2 := q.at_ (i := 2) (v := .int .i64 b.ig) rfl; clear q; go_simp) <;> with_reducible rfl)
  try simp only [Act.put, List.setIfInBounds_toArray, List.set_cons_zero, List.set_cons_succ]
  refine wpAnyH_take (i := 17) (v := ?_) (op_at rfl) (by kernel_rfl) (by kernel_rfl) (by kernel_rfl) (fun _ _ _ h => h) (Or.inl ⟨by rfl, ?_⟩) hS ?_; rotate_left; focus ((intro w' hSw; clear hSw; go_simp) <;> with_reducible rfl)
  try simp only [Act.put, List.setIfInBounds_toArray, List.set_cons_zero, List.set_cons_succ]
  refine wpAnyH_ready (rs := [11]) (by kernel_rfl) (by simp) ?_
  refine (AllReadyH.cons (op_at rfl) (fun K hK => ?_) AllReadyH.nil)
  go_simp
  obtain ⟨b0, b1, hb⟩ := hS
  refine (rLess_any _ _ _).mono ?_
  rintro e w' ⟨rfl, rfl⟩
  refine hK.out _ _ ⟨b0, b1, hb⟩ (fun hS => ?_)
  clear hK K b0 b1 hb
  try simp only [Act.put, List.setIfInBounds_toArray, List.set_cons_zero, List.set_cons_succ]
  refine wpAnyH_take (i := 12) (v := ?_) (op_at rfl) (by kernel_rfl) (by kernel_rfl) (by kernel_rfl) (fun _ _ _ h => h) (Or.inl ⟨by rfl, ?_⟩) hS ?_; rotate_left; focus ((intro w' hSw; clear hSw; go_simp) <;> with_reducible rfl)
  try simp only [Act.put, List.setIfInBounds_toArray, List.set_cons_zero, List.set_cons_succ]
  refine wpAnyH_take (i := 18) (v := ?_) (op_at rfl) (by kernel_rfl) (by kernel_rfl) (by kernel_rfl) (fun _ _ _ h => h) (Or.inl ⟨by rfl, ?_⟩) hS ?_; rotate_left; focus ((intro w' hSw; clear hSw; go_simp) <;> with_reducible rfl)
  try simp only [Act.put, List.setIfInBounds_toArray, List.set_cons_zero, List.set_cons_succ]
  refine wpAnyH_ready (rs := [19]) (by kernel_rfl) (by simp) ?_
  refine (AllReadyH.cons (op_at rfl) (fun K hK => ?_) AllReadyH.nil)
  have p_0 := N0.out.at_ (i := 0) (v := .int .i64 0) rfl
  have f_0 := N0.out.frozen 0
  have p_1 := N0.out.at_ (i := 1) (v := .int .u64 0) rfl
  have f_1 := N0.out.frozen 1
  have p_2 := N0.out.at_ (i := 2) (v := .int .i64 0) rfl
  have f_2 := N0.out.frozen 2
  go_simp
  clear p_0 f_0 p_1 f_1 p_2 f_2
  obtain ⟨b0, b1, hb⟩ := hS
  refine hK.out _ _ ⟨(Blk.far (Blk.far (Blk.far b0 d0_N0 _) d0_N0 _) d0_N0 _), (Blk.far (Blk.far (Blk.far b1 d1_N0 _) d1_N0 _) d1_N0 _), (below_set (below_set (below_set hb dd_N0 _) dd_N0 _) dd_N0 _)⟩ (fun hS => ?_)
  replace N0 := Lib.hid (Blk.set' (u := .int .i64 n) (i := 2) (cs' := #[.int .i64 m, .int .u64 (u (a.c + (b.c &&& ~~~a.c))), .int .i64 n]) (Blk.set' (u := .int .u64 (u (a.c + (b.c &&& ~~~a.c)))) (i := 1) (cs' := #[.int .i64 m, .int .u64 (u (a.c + (b.c &&& ~~~a.c))), .int .i64 0]) (Blk.set' (u := .int .i64 m) (i := 0) (cs' := #[.int .i64 m, .int .u64 0, .int .i64 0]) N0.out rfl) rfl) rfl)
  clear hK K b0 b1 hb
  try simp only [Act.put, List.setIfInBounds_toArray, List.set_cons_zero, List.set_cons_succ]
  refine wpAnyH_take (i := 20) (v := ?_) (op_at rfl) (by kernel_rfl) (by kernel_rfl) (by kernel_rfl) (fun _ _ _ h => h) (Or.inl ⟨by rfl, ?_⟩) hS ?_; rotate_left; focus ((intro w' hSw; clear hSw; go_simp) <;> with_reducible rfl)
  try simp only [Act.put, List.setIfInBounds_toArray, List.set_cons_zero, List.set_cons_succ]
  refine wpAnyH_done (by kernel_rfl) ?_ _
  obtain ⟨b0, b1, hb⟩ := hS
  replace B0 := Lib.hid b0
  clear b0
  replace B1 := Lib.hid b1
  clear b1
  replace B2 := N0
  clear N0
  replace HB := Lib.hid hb
  clear hb
  go_wp2_with fail
  have R2 : Blk (((w3.setCell ⟨w.heap.size + 1 + 1, 0, none⟩ (.int .i64 m)).setCell ⟨w.heap.size + 1 + 1, 1, none⟩ (.int .u64 (u (a.c + (b.c &&& ~~~a.c))))).setCell ⟨w.heap.size + 1 + 1, 2, none⟩ (.int .i64 n)) (w.heap.size + 1 + 1) 25 #[.int .i64 m, .int .u64 (u (a.c + (b.c &&& ~~~a.c))), .int .i64 n] := B2.out
  have k2_0 := R2.at_ (i := 0) (v := .int .i64 m) rfl
  have k2_1 := R2.at_ (i := 1) (v := .int .u64 (u (a.c + (b.c &&& ~~~a.c)))) rfl
  have k2_2 := R2.at_ (i := 2) (v := .int .i64 n) rfl
  have HZ : Below w.heap.size w (((w3.setCell ⟨w.heap.size + 1 + 1, 0, none⟩ (.int .i64 m)).setCell ⟨w.heap.size + 1 + 1, 1, none⟩ (.int .u64 (u (a.c + (b.c &&& ~~~a.c))))).setCell ⟨w.heap.size + 1 + 1, 2, none⟩ (.int .i64 n)) := HB.out
  refine bodyPost_ret (v := .tuple #[.agg #[.int .i64 m, .int .u64 (u (a.c + (b.c &&& ~~~a.c))), .int .i64 n], .int .i64 0]) (by simp [results, Tryd.results57, go_sem, k2_0, k2_1, k2_2]) rfl ⟨rfl, HZ⟩
theorem rJoin_ok {a b : Lab} (ha : okL a = true) (hb : okL b = true) (W : World) : Calls Tryd.prog 57 #[.agg #[.int .i64 a.lv, .int .u64 (u a.c), .int .i64 a.ig], .agg #[.int .i64 b.lv, .int .u64 (u b.c), .int .i64 b.ig]] W fun e w' => e = .returned (.tuple #[.agg #[.int .i64 (joinL a b).lv, .int .u64 (u (joinL a b).c), .int .i64 (joinL a b).ig], .int .i64 0]) ∧ Below W.heap.size W w' := by
  have h := rJoin_3 a b (max a.lv b.lv) (min a.ig b.ig) W (rRightIs ha) (rRightIs hb) (by split <;> omega) (by split <;> omega)
  rw [or_add] at h
  exact h
theorem rJoin_no {a b : Lab} (h : ¬ (okL a = true ∧ okL b = true)) (W : World) : Calls Tryd.prog 57 #[.agg #[.int .i64 a.lv, .int .u64 (u a.c), .int .i64 a.ig], .agg #[.int .i64 b.lv, .int .u64 (u b.c), .int .i64 b.ig]] W fun e w' => e = .returned (.tuple #[.agg #[.int .i64 zeroL.lv, .int .u64 (u zeroL.c), .int .i64 zeroL.ig], .int .i64 20]) ∧ Below W.heap.size W w' := by
  by_cases ha : okL a = true
  · exact rJoin_2 a b W (rRightIs ha) (rRightIs (nbool fun k => h ⟨ha, k⟩))
  · exact rJoin_1 a b W (rRightIs (nbool ha))
def RJoinIs (a b x : Lab) (n : Int) : Prop := ∀ W, Calls Tryd.prog 57 #[.agg #[.int .i64 a.lv, .int .u64 (u a.c), .int .i64 a.ig], .agg #[.int .i64 b.lv, .int .u64 (u b.c), .int .i64 b.ig]] W fun e w' => e = .returned (.tuple #[.agg #[.int .i64 x.lv, .int .u64 (u x.c), .int .i64 x.ig], .int .i64 n]) ∧ Below W.heap.size W w'
def RUnderIs (a b : Lab) (r : Bool) : Prop := ∀ W, Calls Tryd.prog 38 #[.agg #[.int .i64 a.lv, .int .u64 (u a.c), .int .i64 a.ig], .agg #[.int .i64 b.lv, .int .u64 (u b.c), .int .i64 b.ig]] W fun e w' => e = .returned (.bool r) ∧ Below W.heap.size W w'
set_option maxRecDepth 100000 in
set_option maxHeartbeats 4000000 in
theorem rUnder_1 (a b : Lab) (w : World) (h0 : RRightIs a false) :
    Calls Tryd.prog 38 #[.agg #[.int .i64 a.lv, .int .u64 (u a.c), .int .i64 a.ig], .agg #[.int .i64 b.lv, .int .u64 (u b.c), .int .i64 b.ig]] w (fun e w' => e = .returned (.bool false) ∧ Below w.heap.size w w') := by
  have H0 := Lib.hid h0
  clear h0
  have HB := Lib.hid (Below.refl w.heap.size w)
  go_enter Tryd.func38, Tryd.ntmps38
  go_wp2_with fail
  refine (H0.out _).mono ?_
  rintro e w1 ⟨rfl, hB⟩
  replace HB := Lib.hid (below_call (w := w) (by repeat (first | exact HB.out | refine below_alloc ?_ _ | refine Below.drew ?_ | refine below_set ?_ (by omega) _)) hB)
  have z1 : w.heap.size ≤ w1.heap.size := HB.out.size
  clear hB
  go_wp2_with fail
  go_ret
  exact ⟨rfl, (by repeat (first | exact HB.out | refine below_alloc ?_ _ | refine Below.drew ?_ | refine below_set ?_ (by omega) _))⟩
set_option maxRecDepth 100000 in
set_option maxHeartbeats 4000000 in
theorem rUnder_2 (a b : Lab) (w : World) (h0 : RRightIs a true) (h1 : RRightIs b false) :
    Calls Tryd.prog 38 #[.agg #[.int .i64 a.lv, .int .u64 (u a.c), .int .i64 a.ig], .agg #[.int .i64 b.lv, .int .u64 (u b.c), .int .i64 b.ig]] w (fun e w' => e = .returned (.bool false) ∧ Below w.heap.size w w') := by
  have H0 := Lib.hid h0
  clear h0
  have H1 := Lib.hid h1
  clear h1
  have HB := Lib.hid (Below.refl w.heap.size w)
  go_enter Tryd.func38, Tryd.ntmps38
  go_wp2_with fail
  refine (H0.out _).mono ?_
  rintro e w1 ⟨rfl, hB⟩
  replace HB := Lib.hid (below_call (w := w) (by repeat (first | exact HB.out | refine below_alloc ?_ _ | refine Below.drew ?_ | refine below_set ?_ (by omega) _)) hB)
  have z1 : w.heap.size ≤ w1.heap.size := HB.out.size
  have B1 : Hid (Blk w1 (w.heap.size + 1) 25 #[.int .i64 b.lv, .int .u64 (u b.c), .int .i64 b.ig]) := Lib.hid (Blk.after (by repeat (first | exact Blk.new' (by simp; done) | exact Blk.new' rfl | refine Blk.drew ?_ | refine Blk.alloc ?_ _)) hB)
  clear hB
  have p1_0 := B1.out.at_ (i := 0) (v := .int .i64 b.lv) rfl
  have p1_1 := B1.out.at_ (i := 1) (v := .int .u64 (u b.c)) rfl
  have p1_2 := B1.out.at_ (i := 2) (v := .int .i64 b.ig) rfl
  have k1_0 : w.heap.size + 1 < w1.heap.size := by have := B1.out.lt; omega
  go_wp2_with fail
  refine (H1.out _).mono ?_
  rintro e w2 ⟨rfl, hB⟩
  replace HB := Lib.hid (below_call (w := w) (by repeat (first | exact HB.out | refine below_alloc ?_ _ | refine Below.drew ?_ | refine below_set ?_ (by omega) _)) hB)
  have z2 : w.heap.size ≤ w2.heap.size := HB.out.size
  clear p1_0 p1_1 p1_2 k1_0
  clear hB
  go_wp2_with fail
  go_ret
  exact ⟨rfl, (by repeat (first | exact HB.out | refine below_alloc ?_ _ | refine Below.drew ?_ | refine below_set ?_ (by omega) _))⟩
set_option maxRecDepth 100000 in
set_option maxHeartbeats 4000000 in
theorem rUnder_3 (a b : Lab) (w : World) (h0 : RRightIs a true) (h1 : RRightIs b true) (h2 : ¬ a.lv ≤ b.lv) :
    Calls Tryd.prog 38 #[.agg #[.int .i64 a.lv, .int .u64 (u a.c), .int .i64 a.ig], .agg #[.int .i64 b.lv, .int .u64 (u b.c), .int .i64 b.ig]] w (fun e w' => e = .returned (.bool false) ∧ Below w.heap.size w w') := by
  have H0 := Lib.hid h0
  clear h0
  have H1 := Lib.hid h1
  clear h1
  have HB := Lib.hid (Below.refl w.heap.size w)
  go_enter Tryd.func38, Tryd.ntmps38
  go_wp2_with fail
  refine (H0.out _).mono ?_
  rintro e w1 ⟨rfl, hB⟩
  replace HB := Lib.hid (below_call (w := w) (by repeat (first | exact HB.out | refine below_alloc ?_ _ | refine Below.drew ?_ | refine below_set ?_ (by omega) _)) hB)
  have z1 : w.heap.size ≤ w1.heap.size := HB.out.size
  have B0 : Hid (Blk w1 (w.heap.size) 25 #[.int .i64 a.lv, .int .u64 (u a.c), .int .i64 a.ig]) := Lib.hid (Blk.after (by repeat (first | exact Blk.new' (by simp; done) | exact Blk.new' rfl | refine Blk.drew ?_ | refine Blk.alloc ?_ _)) hB)
  have B1 : Hid (Blk w1 (w.heap.size + 1) 25 #[.int .i64 b.lv, .int .u64 (u b.c), .int .i64 b.ig]) := Lib.hid (Blk.after (by repeat (first | exact Blk.new' (by simp; done) | exact Blk.new' rfl | refine Blk.drew ?_ | refine Blk.alloc ?_ _)) hB)
  clear hB
  have p1_0 := B1.out.at_ (i := 0) (v := .int .i64 b.lv) rfl
  have p1_1 := B1.out.at_ (i := 1) (v := .int .u64 (u b.c)) rfl
  have p1_2 := B1.out.at_ (i := 2) (v := .int .i64 b.ig) rfl
  have k1_0 : w.heap.size + 1 < w1.heap.size := by have := B1.out.lt; omega
  go_wp2_with fail
  refine (H1.out _).mono ?_
  rintro e w2 ⟨rfl, hB⟩
  replace HB := Lib.hid (below_call (w := w) (by repeat (first | exact HB.out | refine below_alloc ?_ _ | refine Below.drew ?_ | refine below_set ?_ (by omega) _)) hB)
  have z2 : w.heap.size ≤ w2.heap.size := HB.out.size
  replace B0 : Hid (Blk w2 (w.heap.size) 25 #[.int .i64 a.lv, .int .u64 (u a.c), .int .i64 a.ig]) := Lib.hid (Blk.after (by repeat (first | exact B0.out | exact Blk.new' (by simp; done) | exact Blk.new' rfl | refine Blk.drew ?_ | refine Blk.alloc ?_ _)) hB)
  replace B1 : Hid (Blk w2 (w.heap.size + 1) 25 #[.int .i64 b.lv, .int .u64 (u b.c), .int .i64 b.ig]) := Lib.hid (Blk.after (by repeat (first | exact B1.out | exact Blk.new' (by simp; done) | exact Blk.new' rfl | refine Blk.drew ?_ | refine Blk.alloc ?_ _)) hB)
  clear p1_0 p1_1 p1_2 k1_0
  clear hB
  have p0_0 := B0.out.at_ (i := 0) (v := .int .i64 a.lv) rfl
  have k0_0 : w.heap.size < w2.heap.size := by have := B0.out.lt; omega
  have p1_0 := B1.out.at_ (i := 0) (v := .int .i64 b.lv) rfl
  have k1_0 : w.heap.size + 1 < w2.heap.size := by have := B1.out.lt; omega
  go_wp2_with fail
  go_ret
  exact ⟨rfl, (by repeat (first | exact HB.out | refine below_alloc ?_ _ | refine Below.drew ?_ | refine below_set ?_ (by omega) _))⟩
set_option maxRecDepth 100000 in
set_option maxHeartbeats 4000000 in
theorem rUnder_4 (a b : Lab) (w : World) (h0 : RRightIs a true) (h1 : RRightIs b true) (h2 : a.lv ≤ b.lv) (h3 : ∀ W, Calls Tryd.prog 53 #[.int .u64 (u a.c), .int .u64 (u b.c)] W fun e w' => e = .returned (.bool false) ∧ W = w') :
    Calls Tryd.prog 38 #[.agg #[.int .i64 a.lv, .int .u64 (u a.c), .int .i64 a.ig], .agg #[.int .i64 b.lv, .int .u64 (u b.c), .int .i64 b.ig]] w (fun e w' => e = .returned (.bool false) ∧ Below w.heap.size w w') := by
  have H0 := Lib.hid h0
  clear h0
  have H1 := Lib.hid h1
  clear h1
  have H3 := Lib.hid h3
  clear h3
  have HB := Lib.hid (Below.refl w.heap.size w)
  go_enter Tryd.func38, Tryd.ntmps38
  go_wp2_with fail
  refine (H0.out _).mono ?_
  rintro e w1 ⟨rfl, hB⟩
  replace HB := Lib.hid (below_call (w := w) (by repeat (first | exact HB.out | refine below_alloc ?_ _ | refine Below.drew ?_ | refine below_set ?_ (by omega) _)) hB)
  have z1 : w.heap.size ≤ w1.heap.size := HB.out.size
  have B0 : Hid (Blk w1 (w.heap.size) 25 #[.int .i64 a.lv, .int .u64 (u a.c), .int .i64 a.ig]) := Lib.hid (Blk.after (by repeat (first | exact Blk.new' (by simp; done) | exact Blk.new' rfl | refine Blk.drew ?_ | refine Blk.alloc ?_ _)) hB)
  have B1 : Hid (Blk w1 (w.heap.size + 1) 25 #[.int .i64 b.lv, .int .u64 (u b.c), .int .i64 b.ig]) := Lib.hid (Blk.after (by repeat (first | exact Blk.new' (by simp; done) | exact Blk.new' rfl | refine Blk.drew ?_ | refine Blk.alloc ?_ _)) hB)
  clear hB
  have p1_0 := B1.out.at_ (i := 0) (v := .int .i64 b.lv) rfl
  have p1_1 := B1.out.at_ (i := 1) (v := .int .u64 (u b.c)) rfl
  have p1_2 := B1.out.at_ (i := 2) (v := .int .i64 b.ig) rfl
  have k1_0 : w.heap.size + 1 < w1.heap.size := by have := B1.out.lt; omega
  go_wp2_with fail
  refine (H1.out _).mono ?_
  rintro e w2 ⟨rfl, hB⟩
  replace HB := Lib.hid (below_call (w := w) (by repeat (first | exact HB.out | refine below_alloc ?_ _ | refine Below.drew ?_ | refine below_set ?_ (by omega) _)) hB)
  have z2 : w.heap.size ≤ w2.heap.size := HB.out.size
  replace B0 : Hid (Blk w2 (w.heap.size) 25 #[.int .i64 a.lv, .int .u64 (u a.c), .int .i64 a.ig]) := Lib.hid (Blk.after (by repeat (first | exact B0.out | exact Blk.new' (by simp; done) | exact Blk.new' rfl | refine Blk.drew ?_ | refine Blk.alloc ?_ _)) hB)
  replace B1 : Hid (Blk w2 (w.heap.size + 1) 25 #[.int .i64 b.lv, .int .u64 (u b.c), .int .i64 b.ig]) := Lib.hid (Blk.after (by repeat (first | exact B1.out | exact Blk.new' (by simp; done) | exact Blk.new' rfl | refine Blk.drew ?_ | refine Blk.alloc ?_ _)) hB)
  clear p1_0 p1_1 p1_2 k1_0
  clear hB
  have p0_0 := B0.out.at_ (i := 0) (v := .int .i64 a.lv) rfl
  have p0_1 := B0.out.at_ (i := 1) (v := .int .u64 (u a.c)) rfl
  have k0_0 : w.heap.size < w2.heap.size := by have := B0.out.lt; omega
  have p1_0 := B1.out.at_ (i := 0) (v := .int .i64 b.lv) rfl
  have p1_1 := B1.out.at_ (i := 1) (v := .int .u64 (u b.c)) rfl
  have k1_0 : w.heap.size + 1 < w2.heap.size := by have := B1.out.lt; omega
  go_wp2_with fail
  refine (H3.out _).mono ?_
  rintro e w' ⟨rfl, rfl⟩
  go_wp2_with fail
  go_ret
  exact ⟨rfl, (by repeat (first | exact HB.out | refine below_alloc ?_ _ | refine Below.drew ?_ | refine below_set ?_ (by omega) _))⟩
set_option maxRecDepth 100000 in
set_option maxHeartbeats 4000000 in
theorem rUnder_5 (a b : Lab) (w : World) (h0 : RRightIs a true) (h1 : RRightIs b true) (h2 : a.lv ≤ b.lv) (h3 : ∀ W, Calls Tryd.prog 53 #[.int .u64 (u a.c), .int .u64 (u b.c)] W fun e w' => e = .returned (.bool true) ∧ W = w') (h4 : decide (b.ig ≤ a.ig) = false) :
    Calls Tryd.prog 38 #[.agg #[.int .i64 a.lv, .int .u64 (u a.c), .int .i64 a.ig], .agg #[.int .i64 b.lv, .int .u64 (u b.c), .int .i64 b.ig]] w (fun e w' => e = .returned (.bool false) ∧ Below w.heap.size w w') := by
  have H0 := Lib.hid h0
  clear h0
  have H1 := Lib.hid h1
  clear h1
  have H3 := Lib.hid h3
  clear h3
  have HB := Lib.hid (Below.refl w.heap.size w)
  go_enter Tryd.func38, Tryd.ntmps38
  go_wp2_with fail
  refine (H0.out _).mono ?_
  rintro e w1 ⟨rfl, hB⟩
  replace HB := Lib.hid (below_call (w := w) (by repeat (first | exact HB.out | refine below_alloc ?_ _ | refine Below.drew ?_ | refine below_set ?_ (by omega) _)) hB)
  have z1 : w.heap.size ≤ w1.heap.size := HB.out.size
  have B0 : Hid (Blk w1 (w.heap.size) 25 #[.int .i64 a.lv, .int .u64 (u a.c), .int .i64 a.ig]) := Lib.hid (Blk.after (by repeat (first | exact Blk.new' (by simp; done) | exact Blk.new' rfl | refine Blk.drew ?_ | refine Blk.alloc ?_ _)) hB)
  have B1 : Hid (Blk w1 (w.heap.size + 1) 25 #[.int .i64 b.lv, .int .u64 (u b.c), .int .i64 b.ig]) := Lib.hid (Blk.after (by repeat (first | exact Blk.new' (by simp; done) | exact Blk.new' rfl | refine Blk.drew ?_ | refine Blk.alloc ?_ _)) hB)
  clear hB
  have p1_0 := B1.out.at_ (i := 0) (v := .int .i64 b.lv) rfl
  have p1_1 := B1.out.at_ (i := 1) (v := .int .u64 (u b.c)) rfl
  have p1_2 := B1.out.at_ (i := 2) (v := .int .i64 b.ig) rfl
  have k1_0 : w.heap.size + 1 < w1.heap.size := by have := B1.out.lt; omega
  go_wp2_with fail
  refine (H1.out _).mono ?_
  rintro e w2 ⟨rfl, hB⟩
  replace HB := Lib.hid (below_call (w := w) (by repeat (first | exact HB.out | refine below_alloc ?_ _ | refine Below.drew ?_ | refine below_set ?_ (by omega) _)) hB)
  have z2 : w.heap.size ≤ w2.heap.size := HB.out.size
  replace B0 : Hid (Blk w2 (w.heap.size) 25 #[.int .i64 a.lv, .int .u64 (u a.c), .int .i64 a.ig]) := Lib.hid (Blk.after (by repeat (first | exact B0.out | exact Blk.new' (by simp; done) | exact Blk.new' rfl | refine Blk.drew ?_ | refine Blk.alloc ?_ _)) hB)
  replace B1 : Hid (Blk w2 (w.heap.size + 1) 25 #[.int .i64 b.lv, .int .u64 (u b.c), .int .i64 b.ig]) := Lib.hid (Blk.after (by repeat (first | exact B1.out | exact Blk.new' (by simp; done) | exact Blk.new' rfl | refine Blk.drew ?_ | refine Blk.alloc ?_ _)) hB)
  clear p1_0 p1_1 p1_2 k1_0
  clear hB
  have p0_0 := B0.out.at_ (i := 0) (v := .int .i64 a.lv) rfl
  have p0_1 := B0.out.at_ (i := 1) (v := .int .u64 (u a.c)) rfl
  have k0_0 : w.heap.size < w2.heap.size := by have := B0.out.lt; omega
  have p1_0 := B1.out.at_ (i := 0) (v := .int .i64 b.lv) rfl
  have p1_1 := B1.out.at_ (i := 1) (v := .int .u64 (u b.c)) rfl
  have k1_0 : w.heap.size + 1 < w2.heap.size := by have := B1.out.lt; omega
  go_wp2_with fail
  refine (H3.out _).mono ?_
  rintro e w' ⟨rfl, rfl⟩
  have p0_2 := B0.out.at_ (i := 2) (v := .int .i64 a.ig) rfl
  have k0_0 : w.heap.size < w2.heap.size := by have := B0.out.lt; omega
  have p1_2 := B1.out.at_ (i := 2) (v := .int .i64 b.ig) rfl
  have k1_0 : w.heap.size + 1 < w2.heap.size := by have := B1.out.lt; omega
  go_wp2_with fail
  go_ret
  exact ⟨rfl, (by repeat (first | exact HB.out | refine below_alloc ?_ _ | refine Below.drew ?_ | refine below_set ?_ (by omega) _))⟩
set_option maxRecDepth 100000 in
set_option maxHeartbeats 4000000 in
theorem rUnder_6 (a b : Lab) (w : World) (h0 : RRightIs a true) (h1 : RRightIs b true) (h2 : a.lv ≤ b.lv) (h3 : ∀ W, Calls Tryd.prog 53 #[.int .u64 (u a.c), .int .u64 (u b.c)] W fun e w' => e = .returned (.bool true) ∧ W = w') (h4 : b.ig ≤ a.ig) :
    Calls Tryd.prog 38 #[.agg #[.int .i64 a.lv, .int .u64 (u a.c), .int .i64 a.ig], .agg #[.int .i64 b.lv, .int .u64 (u b.c), .int .i64 b.ig]] w (fun e w' => e = .returned (.bool true) ∧ Below w.heap.size w w') := by
  have H0 := Lib.hid h0
  clear h0
  have H1 := Lib.hid h1
  clear h1
  have H3 := Lib.hid h3
  clear h3
  have HB := Lib.hid (Below.refl w.heap.size w)
  go_enter Tryd.func38, Tryd.ntmps38
  go_wp2_with fail
  refine (H0.out _).mono ?_
  rintro e w1 ⟨rfl, hB⟩
  replace HB := Lib.hid (below_call (w := w) (by repeat (first | exact HB.out | refine below_alloc ?_ _ | refine Below.drew ?_ | refine below_set ?_ (by omega) _)) hB)
  have z1 : w.heap.size ≤ w1.heap.size := HB.out.size
  have B0 : Hid (Blk w1 (w.heap.size) 25 #[.int .i64 a.lv, .int .u64 (u a.c), .int .i64 a.ig]) := Lib.hid (Blk.after (by repeat (first | exact Blk.new' (by simp; done) | exact Blk.new' rfl | refine Blk.drew ?_ | refine Blk.alloc ?_ _)) hB)
  have B1 : Hid (Blk w1 (w.heap.size + 1) 25 #[.int .i64 b.lv, .int .u64 (u b.c), .int .i64 b.ig]) := Lib.hid (Blk.after (by repeat (first | exact Blk.new' (by simp; done) | exact Blk.new' rfl | refine Blk.drew ?_ | refine Blk.alloc ?_ _)) hB)
  clear hB
  have p1_0 := B1.out.at_ (i := 0) (v := .int .i64 b.lv) rfl
  have p1_1 := B1.out.at_ (i := 1) (v := .int .u64 (u b.c)) rfl
  have p1_2 := B1.out.at_ (i := 2) (v := .int .i64 b.ig) rfl
  have k1_0 : w.heap.size + 1 < w1.heap.size := by have := B1.out.lt; omega
  go_wp2_with fail
  refine (H1.out _).mono ?_
  rintro e w2 ⟨rfl, hB⟩
  replace HB := Lib.hid (below_call (w := w) (by repeat (first | exact HB.out | refine below_alloc ?_ _ | refine Below.drew ?_ | refine below_set ?_ (by omega) _)) hB)
  have z2 : w.heap.size ≤ w2.heap.size := HB.out.size
  replace B0 : Hid (Blk w2 (w.heap.size) 25 #[.int .i64 a.lv, .int .u64 (u a.c), .int .i64 a.ig]) := Lib.hid (Blk.after (by repeat (first | exact B0.out | exact Blk.new' (by simp; done) | exact Blk.new' rfl | refine Blk.drew ?_ | refine Blk.alloc ?_ _)) hB)
  replace B1 : Hid (Blk w2 (w.heap.size + 1) 25 #[.int .i64 b.lv, .int .u64 (u b.c), .int .i64 b.ig]) := Lib.hid (Blk.after (by repeat (first | exact B1.out | exact Blk.new' (by simp; done) | exact Blk.new' rfl | refine Blk.drew ?_ | refine Blk.alloc ?_ _)) hB)
  clear p1_0 p1_1 p1_2 k1_0
  clear hB
  have p0_0 := B0.out.at_ (i := 0) (v := .int .i64 a.lv) rfl
  have p0_1 := B0.out.at_ (i := 1) (v := .int .u64 (u a.c)) rfl
  have k0_0 : w.heap.size < w2.heap.size := by have := B0.out.lt; omega
  have p1_0 := B1.out.at_ (i := 0) (v := .int .i64 b.lv) rfl
  have p1_1 := B1.out.at_ (i := 1) (v := .int .u64 (u b.c)) rfl
  have k1_0 : w.heap.size + 1 < w2.heap.size := by have := B1.out.lt; omega
  go_wp2_with fail
  refine (H3.out _).mono ?_
  rintro e w' ⟨rfl, rfl⟩
  have p0_2 := B0.out.at_ (i := 2) (v := .int .i64 a.ig) rfl
  have k0_0 : w.heap.size < w2.heap.size := by have := B0.out.lt; omega
  have p1_2 := B1.out.at_ (i := 2) (v := .int .i64 b.ig) rfl
  have k1_0 : w.heap.size + 1 < w2.heap.size := by have := B1.out.lt; omega
  go_wp2_with fail
  go_ret
  exact ⟨rfl, (by repeat (first | exact HB.out | refine below_alloc ?_ _ | refine Below.drew ?_ | refine below_set ?_ (by omega) _))⟩
theorem rUnder_any (a b : Lab) (w : World) : Calls Tryd.prog 38 #[.agg #[.int .i64 a.lv, .int .u64 (u a.c), .int .i64 a.ig], .agg #[.int .i64 b.lv, .int .u64 (u b.c), .int .i64 b.ig]] w fun e w' => e = .returned (.bool (underL a b)) ∧ Below w.heap.size w w' := by
  have no : ∀ {p : Prop}, (underL a b = true → p) → ¬ p → underL a b = false := fun h k => nbool fun e => k (h e)
  have sb : ∀ {r : Bool}, sub a.c b.c = r → ∀ W, Calls Tryd.prog 53 #[.int .u64 (u a.c), .int .u64 (u b.c)] W fun e w' => e = .returned (.bool r) ∧ W = w' := fun h W => by rw [← h]; exact rSub_any a.c b.c W
  by_cases ha : okL a = true
  · by_cases hb : okL b = true
    · by_cases hl : a.lv ≤ b.lv
      · by_cases hs : sub a.c b.c = true
        · by_cases hg : b.ig ≤ a.ig
          · rw [underL_iff.2 ⟨ha, hb, le3_iff.2 ⟨hl, hg, hs⟩⟩]
            exact rUnder_6 a b w (rRightIs ha) (rRightIs hb) hl (sb hs) hg
          · rw [no (fun e => (le3_iff.1 (underL_iff.1 e).2.2).2.1) hg]
            exact rUnder_5 a b w (rRightIs ha) (rRightIs hb) hl (sb hs) (decide_eq_false hg)
        · rw [no (fun e => (le3_iff.1 (underL_iff.1 e).2.2).2.2) hs]
          exact rUnder_4 a b w (rRightIs ha) (rRightIs hb) hl (sb (nbool hs))
      · rw [no (fun e => (le3_iff.1 (underL_iff.1 e).2.2).1) hl]
        exact rUnder_3 a b w (rRightIs ha) (rRightIs hb) hl
    · rw [no (fun e => (underL_iff.1 e).2.1) hb]
      exact rUnder_2 a b w (rRightIs ha) (rRightIs (nbool hb))
  · rw [no (fun e => (underL_iff.1 e).1) ha]
    exact rUnder_1 a b w (rRightIs (nbool ha))
theorem rUnderIs {a b : Lab} {r : Bool} (h : underL a b = r) : RUnderIs a b r := fun W => by rw [← h]; exact rUnder_any a b W
set_option maxRecDepth 100000 in
set_option maxHeartbeats 4000000 in
theorem rFloat_1 (cur a high : Lab) (w : World) (h0 : RJoinIs cur a zeroL 20) :
    Calls Tryd.prog 42 #[.agg #[.int .i64 cur.lv, .int .u64 (u cur.c), .int .i64 cur.ig], .agg #[.int .i64 a.lv, .int .u64 (u a.c), .int .i64 a.ig], .agg #[.int .i64 high.lv, .int .u64 (u high.c), .int .i64 high.ig]] w (fun e w' => e = .returned (.tuple #[.agg #[.int .i64 0, .int .u64 0, .int .i64 0], .int .i64 20]) ∧ Below w.heap.size w w') := by
  have H0 := Lib.hid h0
  clear h0
  have HB := Lib.hid (Below.refl w.heap.size w)
  go_enter Tryd.func42, Tryd.ntmps42
  go_wp2_with fail
  refine (H0.out _).mono ?_
  rintro e w1 ⟨rfl, hB⟩
  replace HB := Lib.hid (below_call (w := w) (by repeat (first | exact HB.out | refine below_alloc ?_ _ | refine Below.drew ?_ | refine below_set ?_ (by omega) _)) hB)
  have z1 : w.heap.size ≤ w1.heap.size := HB.out.size
  have B3 : Hid (Blk w1 (w.heap.size + 1 + 1 + 1) 25 #[.int .i64 0, .int .u64 0, .int .i64 0]) := Lib.hid (Blk.after (by repeat (first | exact Blk.new' (by simp; done) | exact Blk.new' rfl | refine Blk.drew ?_ | refine Blk.alloc ?_ _)) hB)
  clear hB
  have p3_0 := B3.out.at_ (i := 0) (v := .int .i64 0) rfl
  have p3_1 := B3.out.at_ (i := 1) (v := .int .u64 0) rfl
  have p3_2 := B3.out.at_ (i := 2) (v := .int .i64 0) rfl
  have f3_0 := B3.out.frozen 0
  have f3_1 := B3.out.frozen 1
  have f3_2 := B3.out.frozen 2
  have k3_0 : w.heap.size + 1 + 1 + 1 < w1.heap.size := by have := B3.out.lt; omega
  have k3_1 : w.heap.size + 1 + 1 + 1 < w1.heap.size + 1 := by have := B3.out.lt; omega
  go_wp2_with fail
  have R3 : Blk ((((w1.setCell ⟨w.heap.size + 1 + 1 + 1, 0, none⟩ (.int .i64 0)).setCell ⟨w.heap.size + 1 + 1 + 1, 1, none⟩ (.int .u64 0)).setCell ⟨w.heap.size + 1 + 1 + 1, 2, none⟩ (.int .i64 0)).alloc (.cells #[.int .i64 zeroL.lv, .int .u64 (u zeroL.c), .int .i64 zeroL.ig] 25)) (w.heap.size + 1 + 1 + 1) 25 #[.int .i64 0, .int .u64 0, .int .i64 0] := (Blk.alloc (Blk.set' (u := .int .i64 0) (i := 2) (cs' := #[.int .i64 0, .int .u64 0, .int .i64 0]) (Blk.set' (u := .int .u64 0) (i := 1) (cs' := #[.int .i64 0, .int .u64 0, .int .i64 0]) (Blk.set' (u := .int .i64 0) (i := 0) (cs' := #[.int .i64 0, .int .u64 0, .int .i64 0]) B3.out rfl) rfl) rfl) _)
  have k3_0 := R3.at_ (i := 0) (v := .int .i64 0) rfl
  have k3_1 := R3.at_ (i := 1) (v := .int .u64 0) rfl
  have k3_2 := R3.at_ (i := 2) (v := .int .i64 0) rfl
  have HZ : Below w.heap.size w ((((w1.setCell ⟨w.heap.size + 1 + 1 + 1, 0, none⟩ (.int .i64 0)).setCell ⟨w.heap.size + 1 + 1 + 1, 1, none⟩ (.int .u64 0)).setCell ⟨w.heap.size + 1 + 1 + 1, 2, none⟩ (.int .i64 0)).alloc (.cells #[.int .i64 zeroL.lv, .int .u64 (u zeroL.c), .int .i64 zeroL.ig] 25)) := (below_alloc (below_set (below_set (below_set HB.out (by omega) _) (by omega) _) (by omega) _) _)
  refine bodyPost_ret (v := .tuple #[.agg #[.int .i64 0, .int .u64 0, .int .i64 0], .int .i64 20]) (by simp [results, Tryd.results42, go_sem, k3_0, k3_1, k3_2]) rfl ⟨rfl, HZ⟩
set_option maxRecDepth 100000 in
set_option maxHeartbeats 4000000 in
theorem rFloat_2 (cur a high x : Lab) (w : World) (h0 : RJoinIs cur a x 0) (h1 : RRightIs high false) :
    Calls Tryd.prog 42 #[.agg #[.int .i64 cur.lv, .int .u64 (u cur.c), .int .i64 cur.ig], .agg #[.int .i64 a.lv, .int .u64 (u a.c), .int .i64 a.ig], .agg #[.int .i64 high.lv, .int .u64 (u high.c), .int .i64 high.ig]] w (fun e w' => e = .returned (.tuple #[.agg #[.int .i64 0, .int .u64 0, .int .i64 0], .int .i64 20]) ∧ Below w.heap.size w w') := by
  have H0 := Lib.hid h0
  clear h0
  have H1 := Lib.hid h1
  clear h1
  have HB := Lib.hid (Below.refl w.heap.size w)
  go_enter Tryd.func42, Tryd.ntmps42
  go_wp2_with fail
  refine (H0.out _).mono ?_
  rintro e w1 ⟨rfl, hB⟩
  replace HB := Lib.hid (below_call (w := w) (by repeat (first | exact HB.out | refine below_alloc ?_ _ | refine Below.drew ?_ | refine below_set ?_ (by omega) _)) hB)
  have z1 : w.heap.size ≤ w1.heap.size := HB.out.size
  have B2 : Hid (Blk w1 (w.heap.size + 1 + 1) 25 #[.int .i64 high.lv, .int .u64 (u high.c), .int .i64 high.ig]) := Lib.hid (Blk.after (by repeat (first | exact Blk.new' (by simp; done) | exact Blk.new' rfl | refine Blk.drew ?_ | refine Blk.alloc ?_ _)) hB)
  have B3 : Hid (Blk w1 (w.heap.size + 1 + 1 + 1) 25 #[.int .i64 0, .int .u64 0, .int .i64 0]) := Lib.hid (Blk.after (by repeat (first | exact Blk.new' (by simp; done) | exact Blk.new' rfl | refine Blk.drew ?_ | refine Blk.alloc ?_ _)) hB)
  clear hB
  have p2_0 := B2.out.at_ (i := 0) (v := .int .i64 high.lv) rfl
  have p2_1 := B2.out.at_ (i := 1) (v := .int .u64 (u high.c)) rfl
  have p2_2 := B2.out.at_ (i := 2) (v := .int .i64 high.ig) rfl
  have k2_0 : w.heap.size + 1 + 1 < w1.heap.size := by have := B2.out.lt; omega
  have k2_1 : w.heap.size + 1 + 1 < w1.heap.size + 1 := by have := B2.out.lt; omega
  go_wp2_with fail
  refine (H1.out _).mono ?_
  rintro e w2 ⟨rfl, hB⟩
  replace HB := Lib.hid (below_call (w := w) (by repeat (first | exact HB.out | refine below_alloc ?_ _ | refine Below.drew ?_ | refine below_set ?_ (by omega) _)) hB)
  have z2 : w.heap.size ≤ w2.heap.size := HB.out.size
  replace B3 : Hid (Blk w2 (w.heap.size + 1 + 1 + 1) 25 #[.int .i64 0, .int .u64 0, .int .i64 0]) := Lib.hid (Blk.after (by repeat (first | exact B3.out | exact Blk.new' (by simp; done) | exact Blk.new' rfl | refine Blk.drew ?_ | refine Blk.alloc ?_ _)) hB)
  clear p2_0 p2_1 p2_2 k2_0 k2_1
  clear hB
  have p3_0 := B3.out.at_ (i := 0) (v := .int .i64 0) rfl
  have p3_1 := B3.out.at_ (i := 1) (v := .int .u64 0) rfl
  have p3_2 := B3.out.at_ (i := 2) (v := .int .i64 0) rfl
  have f3_0 := B3.out.frozen 0
  have f3_1 := B3.out.frozen 1
  have f3_2 := B3.out.frozen 2
  have k3_0 : w.heap.size + 1 + 1 + 1 < w2.heap.size := by have := B3.out.lt; omega
  go_wp2_with fail
  have R3 : Blk (((w2.setCell ⟨w.heap.size + 1 + 1 + 1, 0, none⟩ (.int .i64 0)).setCell ⟨w.heap.size + 1 + 1 + 1, 1, none⟩ (.int .u64 0)).setCell ⟨w.heap.size + 1 + 1 + 1, 2, none⟩ (.int .i64 0)) (w.heap.size + 1 + 1 + 1) 25 #[.int .i64 0, .int .u64 0, .int .i64 0] := (Blk.set' (u := .int .i64 0) (i := 2) (cs' := #[.int .i64 0, .int .u64 0, .int .i64 0]) (Blk.set' (u := .int .u64 0) (i := 1) (cs' := #[.int .i64 0, .int .u64 0, .int .i64 0]) (Blk.set' (u := .int .i64 0) (i := 0) (cs' := #[.int .i64 0, .int .u64 0, .int .i64 0]) B3.out rfl) rfl) rfl)
  have k3_0 := R3.at_ (i := 0) (v := .int .i64 0) rfl
  have k3_1 := R3.at_ (i := 1) (v := .int .u64 0) rfl
  have k3_2 := R3.at_ (i := 2) (v := .int .i64 0) rfl
  have HZ : Below w.heap.size w (((w2.setCell ⟨w.heap.size + 1 + 1 + 1, 0, none⟩ (.int .i64 0)).setCell ⟨w.heap.size + 1 + 1 + 1, 1, none⟩ (.int .u64 0)).setCell ⟨w.heap.size + 1 + 1 + 1, 2, none⟩ (.int .i64 0)) := (below_set (below_set (below_set HB.out (by omega) _) (by omega) _) (by omega) _)
  refine bodyPost_ret (v := .tuple #[.agg #[.int .i64 0, .int .u64 0, .int .i64 0], .int .i64 20]) (by simp [results, Tryd.results42, go_sem, k3_0, k3_1, k3_2]) rfl ⟨rfl, HZ⟩
set_option maxRecDepth 100000 in
set_option maxHeartbeats 4000000 in
theorem rFloat_3 (cur a high x : Lab) (w : World) (h0 : RJoinIs cur a x 0) (h1 : RRightIs high true) (h2 : RUnderIs x high false) :
    Calls Tryd.prog 42 #[.agg #[.int .i64 cur.lv, .int .u64 (u cur.c), .int .i64 cur.ig], .agg #[.int .i64 a.lv, .int .u64 (u a.c), .int .i64 a.ig], .agg #[.int .i64 high.lv, .int .u64 (u high.c), .int .i64 high.ig]] w (fun e w' => e = .returned (.tuple #[.agg #[.int .i64 0, .int .u64 0, .int .i64 0], .int .i64 120]) ∧ Below w.heap.size w w') := by
  have H0 := Lib.hid h0
  clear h0
  have H1 := Lib.hid h1
  clear h1
  have H2 := Lib.hid h2
  clear h2
  have HB := Lib.hid (Below.refl w.heap.size w)
  go_enter Tryd.func42, Tryd.ntmps42
  go_wp2_with fail
  refine (H0.out _).mono ?_
  rintro e w1 ⟨rfl, hB⟩
  replace HB := Lib.hid (below_call (w := w) (by repeat (first | exact HB.out | refine below_alloc ?_ _ | refine Below.drew ?_ | refine below_set ?_ (by omega) _)) hB)
  have z1 : w.heap.size ≤ w1.heap.size := HB.out.size
  have B2 : Hid (Blk w1 (w.heap.size + 1 + 1) 25 #[.int .i64 high.lv, .int .u64 (u high.c), .int .i64 high.ig]) := Lib.hid (Blk.after (by repeat (first | exact Blk.new' (by simp; done) | exact Blk.new' rfl | refine Blk.drew ?_ | refine Blk.alloc ?_ _)) hB)
  have B3 : Hid (Blk w1 (w.heap.size + 1 + 1 + 1) 25 #[.int .i64 0, .int .u64 0, .int .i64 0]) := Lib.hid (Blk.after (by repeat (first | exact Blk.new' (by simp; done) | exact Blk.new' rfl | refine Blk.drew ?_ | refine Blk.alloc ?_ _)) hB)
  clear hB
  have p2_0 := B2.out.at_ (i := 0) (v := .int .i64 high.lv) rfl
  have p2_1 := B2.out.at_ (i := 1) (v := .int .u64 (u high.c)) rfl
  have p2_2 := B2.out.at_ (i := 2) (v := .int .i64 high.ig) rfl
  have k2_0 : w.heap.size + 1 + 1 < w1.heap.size := by have := B2.out.lt; omega
  have k2_1 : w.heap.size + 1 + 1 < w1.heap.size + 1 := by have := B2.out.lt; omega
  go_wp2_with fail
  refine (H1.out _).mono ?_
  rintro e w2 ⟨rfl, hB⟩
  replace HB := Lib.hid (below_call (w := w) (by repeat (first | exact HB.out | refine below_alloc ?_ _ | refine Below.drew ?_ | refine below_set ?_ (by omega) _)) hB)
  have z2 : w.heap.size ≤ w2.heap.size := HB.out.size
  replace B2 : Hid (Blk w2 (w.heap.size + 1 + 1) 25 #[.int .i64 high.lv, .int .u64 (u high.c), .int .i64 high.ig]) := Lib.hid (Blk.after (by repeat (first | exact B2.out | exact Blk.new' (by simp; done) | exact Blk.new' rfl | refine Blk.drew ?_ | refine Blk.alloc ?_ _)) hB)
  replace B3 : Hid (Blk w2 (w.heap.size + 1 + 1 + 1) 25 #[.int .i64 0, .int .u64 0, .int .i64 0]) := Lib.hid (Blk.after (by repeat (first | exact B3.out | exact Blk.new' (by simp; done) | exact Blk.new' rfl | refine Blk.drew ?_ | refine Blk.alloc ?_ _)) hB)
  have B4 : Hid (Blk w2 (w1.heap.size) 25 #[.int .i64 x.lv, .int .u64 (u x.c), .int .i64 x.ig]) := Lib.hid (Blk.after (by repeat (first | exact Blk.new' (by simp; done) | exact Blk.new' rfl | refine Blk.drew ?_ | refine Blk.alloc ?_ _)) hB)
  clear p2_0 p2_1 p2_2 k2_0 k2_1
  clear hB
  have p2_0 := B2.out.at_ (i := 0) (v := .int .i64 high.lv) rfl
  have p2_1 := B2.out.at_ (i := 1) (v := .int .u64 (u high.c)) rfl
  have p2_2 := B2.out.at_ (i := 2) (v := .int .i64 high.ig) rfl
  have k2_0 : w.heap.size + 1 + 1 < w2.heap.size := by have := B2.out.lt; omega
  have p4_0 := B4.out.at_ (i := 0) (v := .int .i64 x.lv) rfl
  have p4_1 := B4.out.at_ (i := 1) (v := .int .u64 (u x.c)) rfl
  have p4_2 := B4.out.at_ (i := 2) (v := .int .i64 x.ig) rfl
  have k4_0 : w1.heap.size < w2.heap.size := by have := B4.out.lt; omega
  go_wp2_with fail
  refine (H2.out _).mono ?_
  rintro e w3 ⟨rfl, hB⟩
  replace HB := Lib.hid (below_call (w := w) (by repeat (first | exact HB.out | refine below_alloc ?_ _ | refine Below.drew ?_ | refine below_set ?_ (by omega) _)) hB)
  have z3 : w.heap.size ≤ w3.heap.size := HB.out.size
  replace B3 : Hid (Blk w3 (w.heap.size + 1 + 1 + 1) 25 #[.int .i64 0, .int .u64 0, .int .i64 0]) := Lib.hid (Blk.after (by repeat (first | exact B3.out | exact Blk.new' (by simp; done) | exact Blk.new' rfl | refine Blk.drew ?_ | refine Blk.alloc ?_ _)) hB)
  clear p2_0 p2_1 p2_2 k2_0 p4_0 p4_1 p4_2 k4_0
  clear hB
  have p3_0 := B3.out.at_ (i := 0) (v := .int .i64 0) rfl
  have p3_1 := B3.out.at_ (i := 1) (v := .int .u64 0) rfl
  have p3_2 := B3.out.at_ (i := 2) (v := .int .i64 0) rfl
  have f3_0 := B3.out.frozen 0
  have f3_1 := B3.out.frozen 1
  have f3_2 := B3.out.frozen 2
  have k3_0 : w.heap.size + 1 + 1 + 1 < w3.heap.size := by have := B3.out.lt; omega
  go_wp2_with fail
  have R3 : Blk (((w3.setCell ⟨w.heap.size + 1 + 1 + 1, 0, none⟩ (.int .i64 0)).setCell ⟨w.heap.size + 1 + 1 + 1, 1, none⟩ (.int .u64 0)).setCell ⟨w.heap.size + 1 + 1 + 1, 2, none⟩ (.int .i64 0)) (w.heap.size + 1 + 1 + 1) 25 #[.int .i64 0, .int .u64 0, .int .i64 0] := (Blk.set' (u := .int .i64 0) (i := 2) (cs' := #[.int .i64 0, .int .u64 0, .int .i64 0]) (Blk.set' (u := .int .u64 0) (i := 1) (cs' := #[.int .i64 0, .int .u64 0, .int .i64 0]) (Blk.set' (u := .int .i64 0) (i := 0) (cs' := #[.int .i64 0, .int .u64 0, .int .i64 0]) B3.out rfl) rfl) rfl)
  have k3_0 := R3.at_ (i := 0) (v := .int .i64 0) rfl
  have k3_1 := R3.at_ (i := 1) (v := .int .u64 0) rfl
  have k3_2 := R3.at_ (i := 2) (v := .int .i64 0) rfl
  have HZ : Below w.heap.size w (((w3.setCell ⟨w.heap.size + 1 + 1 + 1, 0, none⟩ (.int .i64 0)).setCell ⟨w.heap.size + 1 + 1 + 1, 1, none⟩ (.int .u64 0)).setCell ⟨w.heap.size + 1 + 1 + 1, 2, none⟩ (.int .i64 0)) := (below_set (below_set (below_set HB.out (by omega) _) (by omega) _) (by omega) _)
  refine bodyPost_ret (v := .tuple #[.agg #[.int .i64 0, .int .u64 0, .int .i64 0], .int .i64 120]) (by simp [results, Tryd.results42, go_sem, k3_0, k3_1, k3_2]) rfl ⟨rfl, HZ⟩
set_option maxRecDepth 100000 in
set_option maxHeartbeats 4000000 in
theorem rFloat_4 (cur a high x : Lab) (w : World) (h0 : RJoinIs cur a x 0) (h1 : RRightIs high true) (h2 : RUnderIs x high true) :
    Calls Tryd.prog 42 #[.agg #[.int .i64 cur.lv, .int .u64 (u cur.c), .int .i64 cur.ig], .agg #[.int .i64 a.lv, .int .u64 (u a.c), .int .i64 a.ig], .agg #[.int .i64 high.lv, .int .u64 (u high.c), .int .i64 high.ig]] w (fun e w' => e = .returned (.tuple #[.agg #[.int .i64 x.lv, .int .u64 (u x.c), .int .i64 x.ig], .int .i64 0]) ∧ Below w.heap.size w w') := by
  have H0 := Lib.hid h0
  clear h0
  have H1 := Lib.hid h1
  clear h1
  have H2 := Lib.hid h2
  clear h2
  have HB := Lib.hid (Below.refl w.heap.size w)
  go_enter Tryd.func42, Tryd.ntmps42
  go_wp2_with fail
  refine (H0.out _).mono ?_
  rintro e w1 ⟨rfl, hB⟩
  replace HB := Lib.hid (below_call (w := w) (by repeat (first | exact HB.out | refine below_alloc ?_ _ | refine Below.drew ?_ | refine below_set ?_ (by omega) _)) hB)
  have z1 : w.heap.size ≤ w1.heap.size := HB.out.size
  have B2 : Hid (Blk w1 (w.heap.size + 1 + 1) 25 #[.int .i64 high.lv, .int .u64 (u high.c), .int .i64 high.ig]) := Lib.hid (Blk.after (by repeat (first | exact Blk.new' (by simp; done) | exact Blk.new' rfl | refine Blk.drew ?_ | refine Blk.alloc ?_ _)) hB)
  have B3 : Hid (Blk w1 (w.heap.size + 1 + 1 + 1) 25 #[.int .i64 0, .int .u64 0, .int .i64 0]) := Lib.hid (Blk.after (by repeat (first | exact Blk.new' (by simp; done) | exact Blk.new' rfl | refine Blk.drew ?_ | refine Blk.alloc ?_ _)) hB)
  clear hB
  have p2_0 := B2.out.at_ (i := 0) (v := .int .i64 high.lv) rfl
  have p2_1 := B2.out.at_ (i := 1) (v := .int .u64 (u high.c)) rfl
  have p2_2 := B2.out.at_ (i := 2) (v := .int .i64 high.ig) rfl
  have k2_0 : w.heap.size + 1 + 1 < w1.heap.size := by have := B2.out.lt; omega
  have k2_1 : w.heap.size + 1 + 1 < w1.heap.size + 1 := by have := B2.out.lt; omega
  go_wp2_with fail
  refine (H1.out _).mono ?_
  rintro e w2 ⟨rfl, hB⟩
  replace HB := Lib.hid (below_call (w := w) (by repeat (first | exact HB.out | refine below_alloc ?_ _ | refine Below.drew ?_ | refine below_set ?_ (by omega) _)) hB)
  have z2 : w.heap.size ≤ w2.heap.size := HB.out.size
  replace B2 : Hid (Blk w2 (w.heap.size + 1 + 1) 25 #[.int .i64 high.lv, .int .u64 (u high.c), .int .i64 high.ig]) := Lib.hid (Blk.after (by repeat (first | exact B2.out | exact Blk.new' (by simp; done) | exact Blk.new' rfl | refine Blk.drew ?_ | refine Blk.alloc ?_ _)) hB)
  replace B3 : Hid (Blk w2 (w.heap.size + 1 + 1 + 1) 25 #[.int .i64 0, .int .u64 0, .int .i64 0]) := Lib.hid (Blk.after (by repeat (first | exact B3.out | exact Blk.new' (by simp; done) | exact Blk.new' rfl | refine Blk.drew ?_ | refine Blk.alloc ?_ _)) hB)
  have B4 : Hid (Blk w2 (w1.heap.size) 25 #[.int .i64 x.lv, .int .u64 (u x.c), .int .i64 x.ig]) := Lib.hid (Blk.after (by repeat (first | exact Blk.new' (by simp; done) | exact Blk.new' rfl | refine Blk.drew ?_ | refine Blk.alloc ?_ _)) hB)
  clear p2_0 p2_1 p2_2 k2_0 k2_1
  clear hB
  have p2_0 := B2.out.at_ (i := 0) (v := .int .i64 high.lv) rfl
  have p2_1 := B2.out.at_ (i := 1) (v := .int .u64 (u high.c)) rfl
  have p2_2 := B2.out.at_ (i := 2) (v := .int .i64 high.ig) rfl
  have k2_0 : w.heap.size + 1 + 1 < w2.heap.size := by have := B2.out.lt; omega
  have p4_0 := B4.out.at_ (i := 0) (v := .int .i64 x.lv) rfl
  have p4_1 := B4.out.at_ (i := 1) (v := .int .u64 (u x.c)) rfl
  have p4_2 := B4.out.at_ (i := 2) (v := .int .i64 x.ig) rfl
  have k4_0 : w1.heap.size < w2.heap.size := by have := B4.out.lt; omega
  go_wp2_with fail
  refine (H2.out _).mono ?_
  rintro e w3 ⟨rfl, hB⟩
  replace HB := Lib.hid (below_call (w := w) (by repeat (first | exact HB.out | refine below_alloc ?_ _ | refine Below.drew ?_ | refine below_set ?_ (by omega) _)) hB)
  have z3 : w.heap.size ≤ w3.heap.size := HB.out.size
  replace B3 : Hid (Blk w3 (w.heap.size + 1 + 1 + 1) 25 #[.int .i64 0, .int .u64 0, .int .i64 0]) := Lib.hid (Blk.after (by repeat (first | exact B3.out | exact Blk.new' (by simp; done) | exact Blk.new' rfl | refine Blk.drew ?_ | refine Blk.alloc ?_ _)) hB)
  replace B4 : Hid (Blk w3 (w1.heap.size) 25 #[.int .i64 x.lv, .int .u64 (u x.c), .int .i64 x.ig]) := Lib.hid (Blk.after (by repeat (first | exact B4.out | exact Blk.new' (by simp; done) | exact Blk.new' rfl | refine Blk.drew ?_ | refine Blk.alloc ?_ _)) hB)
  clear p2_0 p2_1 p2_2 k2_0 p4_0 p4_1 p4_2 k4_0
  clear hB
  have p3_0 := B3.out.at_ (i := 0) (v := .int .i64 0) rfl
  have p3_1 := B3.out.at_ (i := 1) (v := .int .u64 0) rfl
  have p3_2 := B3.out.at_ (i := 2) (v := .int .i64 0) rfl
  have f3_0 := B3.out.frozen 0
  have f3_1 := B3.out.frozen 1
  have f3_2 := B3.out.frozen 2
  have k3_0 : w.heap.size + 1 + 1 + 1 < w3.heap.size := by have := B3.out.lt; omega
  have p4_0 := B4.out.at_ (i := 0) (v := .int .i64 x.lv) rfl
  have p4_1 := B4.out.at_ (i := 1) (v := .int .u64 (u x.c)) rfl
  have p4_2 := B4.out.at_ (i := 2) (v := .int .i64 x.ig) rfl
  have k4_0 : w1.heap.size < w3.heap.size := by have := B4.out.lt; omega
  go_wp2_with fail
  have R3 : Blk (((w3.setCell ⟨w.heap.size + 1 + 1 + 1, 0, none⟩ (.int .i64 x.lv)).setCell ⟨w.heap.size + 1 + 1 + 1, 1, none⟩ (.int .u64 (u x.c))).setCell ⟨w.heap.size + 1 + 1 + 1, 2, none⟩ (.int .i64 x.ig)) (w.heap.size + 1 + 1 + 1) 25 #[.int .i64 x.lv, .int .u64 (u x.c), .int .i64 x.ig] := (Blk.set' (u := .int .i64 x.ig) (i := 2) (cs' := #[.int .i64 x.lv, .int .u64 (u x.c), .int .i64 x.ig]) (Blk.set' (u := .int .u64 (u x.c)) (i := 1) (cs' := #[.int .i64 x.lv, .int .u64 (u x.c), .int .i64 0]) (Blk.set' (u := .int .i64 x.lv) (i := 0) (cs' := #[.int .i64 x.lv, .int .u64 0, .int .i64 0]) B3.out rfl) rfl) rfl)
  have k3_0 := R3.at_ (i := 0) (v := .int .i64 x.lv) rfl
  have k3_1 := R3.at_ (i := 1) (v := .int .u64 (u x.c)) rfl
  have k3_2 := R3.at_ (i := 2) (v := .int .i64 x.ig) rfl
  have HZ : Below w.heap.size w (((w3.setCell ⟨w.heap.size + 1 + 1 + 1, 0, none⟩ (.int .i64 x.lv)).setCell ⟨w.heap.size + 1 + 1 + 1, 1, none⟩ (.int .u64 (u x.c))).setCell ⟨w.heap.size + 1 + 1 + 1, 2, none⟩ (.int .i64 x.ig)) := (below_set (below_set (below_set HB.out (by omega) _) (by omega) _) (by omega) _)
  refine bodyPost_ret (v := .tuple #[.agg #[.int .i64 x.lv, .int .u64 (u x.c), .int .i64 x.ig], .int .i64 0]) (by simp [results, Tryd.results42, go_sem, k3_0, k3_1, k3_2]) rfl ⟨rfl, HZ⟩
theorem rFloat_any (cur a high : Lab) (w : World) :
    Calls Tryd.prog 42 #[.agg #[.int .i64 cur.lv, .int .u64 (u cur.c), .int .i64 cur.ig], .agg #[.int .i64 a.lv, .int .u64 (u a.c), .int .i64 a.ig], .agg #[.int .i64 high.lv, .int .u64 (u high.c), .int .i64 high.ig]] w fun e w' => e = .returned (.tuple #[.agg #[.int .i64 (floatL cur a high).lv, .int .u64 (u (floatL cur a high).c), .int .i64 (floatL cur a high).ig], .int .i64 (floatE cur a high)]) ∧ Below w.heap.size w w' := by
  unfold floatL floatE
  by_cases hc : okL cur = true ∧ okL a = true
  · obtain ⟨hc, ha⟩ := hc
    have hj := fun W => rJoin_ok hc ha W
    by_cases hg : okL high = true
    · rw [hc, ha, hg]
      simp only [Bool.and_self, if_true]
      by_cases hl : le3 (joinL cur a) high = true
      · rw [if_pos hl, if_pos hl]
        exact rFloat_4 cur a high _ w hj (rRightIs hg) (rUnderIs (underL_iff.2 ⟨okL_join hc ha, hg, hl⟩))
      · rw [if_neg hl, if_neg hl]
        exact rFloat_3 cur a high _ w hj (rRightIs hg) (rUnderIs (nbool fun k => hl (underL_iff.1 k).2.2))
    · rw [nbool hg, Bool.and_false]
      exact rFloat_2 cur a high _ w hj (rRightIs (nbool hg))
  · have he : (okL cur && okL a) = false := nbool fun k => hc (by simpa using k)
    rw [he]
    exact rFloat_1 cur a high w (fun W => rJoin_no hc W)
end

section
open Go.RowKit

attribute [local go_sem] u_and u_or u_andNot u_add u_sub u_bit u_eq_zero u_beq

set_option maxRecDepth 100000 in
set_option maxHeartbeats 4000000 in
theorem next_lo (l : List Sub) (sA : Option Addr) (sc : Nat) (par : Int) (st : Int) (cur high : Lab) (w : World) (_h0 : (par == -1) = false) (_h1 : ¬ 0 ≤ par) (_h2 : par < -1) :
    Calls Tryd.prog 44 #[.slice sA l.length sc, .agg #[.int .i64 par, .int .i64 st, .int .i64 cur.lv, .int .u64 (u cur.c), .int .i64 cur.ig, .int .i64 high.lv, .int .u64 (u high.c), .int .i64 high.ig]] w (fun e w' => e = .returned (.bool false) ∧ Below w.heap.size w w') := by
  have HB := Lib.hid (Below.refl w.heap.size w)
  go_enter Tryd.func44, Tryd.ntmps44
  go_wp2_with fail
  go_ret
  exact ⟨rfl, (by repeat (first | exact HB.out | refine below_alloc ?_ _ | refine Below.drew ?_ | refine below_set ?_ (by omega) _))⟩
set_option maxRecDepth 100000 in
set_option maxHeartbeats 4000000 in
theorem next_hi (l : List Sub) (sA : Option Addr) (sc : Nat) (par : Int) (st : Int) (cur high : Lab) (w : World) (_h0 : (par == -1) = false) (_h1 : 0 ≤ par) (_h2 : ¬ par < (l.length : Int)) (_h3 : ¬ par < -1) (_h4 : (l.length : Int) ≤ par) :
    Calls Tryd.prog 44 #[.slice sA l.length sc, .agg #[.int .i64 par, .int .i64 st, .int .i64 cur.lv, .int .u64 (u cur.c), .int .i64 cur.ig, .int .i64 high.lv, .int .u64 (u high.c), .int .i64 high.ig]] w (fun e w' => e = .returned (.bool false) ∧ Below w.heap.size w w') := by
  have HB := Lib.hid (Below.refl w.heap.size w)
  go_enter Tryd.func44, Tryd.ntmps44
  go_wp2_with fail
  go_ret
  exact ⟨rfl, (by repeat (first | exact HB.out | refine below_alloc ?_ _ | refine Below.drew ?_ | refine below_set ?_ (by omega) _))⟩
set_option maxRecDepth 100000 in
set_option maxHeartbeats 4000000 in
theorem next_m_bad (l : List Sub) (sA : Option Addr) (sc : Nat) (st : Int) (cur high : Lab) (w : World) (_h0 : ¬ (l.length : Int) ≤ -1) (h1 : RightIs high false) :
    Calls Tryd.prog 44 #[.slice sA l.length sc, .agg #[.int .i64 (-1), .int .i64 st, .int .i64 cur.lv, .int .u64 (u cur.c), .int .i64 cur.ig, .int .i64 high.lv, .int .u64 (u high.c), .int .i64 high.ig]] w (fun e w' => e = .returned (.bool false) ∧ Below w.heap.size w w') := by
  have H1 := Lib.hid h1
  clear h1
  have HB := Lib.hid (Below.refl w.heap.size w)
  go_enter Tryd.func44, Tryd.ntmps44
  go_wp2_with fail
  refine (H1.out _).mono ?_
  rintro e w1 ⟨rfl, hB⟩
  replace HB := Lib.hid (below_call (w := w) (by repeat (first | exact HB.out | refine below_alloc ?_ _ | refine Below.drew ?_ | refine below_set ?_ (by omega) _)) hB)
  have z1 : w.heap.size ≤ w1.heap.size := HB.out.size
  clear hB
  go_wp2_with fail
  go_ret
  exact ⟨rfl, (by repeat (first | exact HB.out | refine below_alloc ?_ _ | refine Below.drew ?_ | refine below_set ?_ (by omega) _))⟩
set_option maxRecDepth 100000 in
set_option maxHeartbeats 4000000 in
theorem next_m_x (l : List Sub) (sA : Option Addr) (sc : Nat) (st : Int) (cur high : Lab) (w : World) (_h0 : ¬ (l.length : Int) ≤ -1) (h1 : RightIs high true) (_h2 : (st == 0) = false) (_h3 : (st == 1) = false) (_h4 : (st == 2) = false) :
    Calls Tryd.prog 44 #[.slice sA l.length sc, .agg #[.int .i64 (-1), .int .i64 st, .int .i64 cur.lv, .int .u64 (u cur.c), .int .i64 cur.ig, .int .i64 high.lv, .int .u64 (u high.c), .int .i64 high.ig]] w (fun e w' => e = .returned (.bool false) ∧ Below w.heap.size w w') := by
  have H1 := Lib.hid h1
  clear h1
  have HB := Lib.hid (Below.refl w.heap.size w)
  go_enter Tryd.func44, Tryd.ntmps44
  go_wp2_with fail
  refine (H1.out _).mono ?_
  rintro e w1 ⟨rfl, hB⟩
  replace HB := Lib.hid (below_call (w := w) (by repeat (first | exact HB.out | refine below_alloc ?_ _ | refine Below.drew ?_ | refine below_set ?_ (by omega) _)) hB)
  have z1 : w.heap.size ≤ w1.heap.size := HB.out.size
  have B0 : Hid (Blk w1 (w.heap.size) 41 #[.int .i64 (-1), .int .i64 st, .int .i64 cur.lv, .int .u64 (u cur.c), .int .i64 cur.ig, .int .i64 high.lv, .int .u64 (u high.c), .int .i64 high.ig]) := Lib.hid (Blk.after (by repeat (first | exact Blk.new' (by simp; done) | exact Blk.new' rfl | refine Blk.drew ?_ | refine Blk.alloc ?_ _)) hB)
  clear hB
  have p0_1 := B0.out.at_ (i := 1) (v := .int .i64 st) rfl
  have k0_0 : w.heap.size < w1.heap.size := by have := B0.out.lt; omega
  go_wp2_with fail
  go_ret
  exact ⟨rfl, (by repeat (first | exact HB.out | refine below_alloc ?_ _ | refine Below.drew ?_ | refine below_set ?_ (by omega) _))⟩
set_option maxRecDepth 100000 in
set_option maxHeartbeats 4000000 in
theorem next_m_0 (l : List Sub) (sA : Option Addr) (sc : Nat) (cur high : Lab) (w : World) (_h0 : ¬ (l.length : Int) ≤ -1) (h1 : RightIs high true) :
    Calls Tryd.prog 44 #[.slice sA l.length sc, .agg #[.int .i64 (-1), .int .i64 0, .int .i64 cur.lv, .int .u64 (u cur.c), .int .i64 cur.ig, .int .i64 high.lv, .int .u64 (u high.c), .int .i64 high.ig]] w (fun e w' => e = .returned (.bool false) ∧ Below w.heap.size w w') := by
  have H1 := Lib.hid h1
  clear h1
  have HB := Lib.hid (Below.refl w.heap.size w)
  go_enter Tryd.func44, Tryd.ntmps44
  go_wp2_with fail
  refine (H1.out _).mono ?_
  rintro e w1 ⟨rfl, hB⟩
  replace HB := Lib.hid (below_call (w := w) (by repeat (first | exact HB.out | refine below_alloc ?_ _ | refine Below.drew ?_ | refine below_set ?_ (by omega) _)) hB)
  have z1 : w.heap.size ≤ w1.heap.size := HB.out.size
  have B0 : Hid (Blk w1 (w.heap.size) 41 #[.int .i64 (-1), .int .i64 0, .int .i64 cur.lv, .int .u64 (u cur.c), .int .i64 cur.ig, .int .i64 high.lv, .int .u64 (u high.c), .int .i64 high.ig]) := Lib.hid (Blk.after (by repeat (first | exact Blk.new' (by simp; done) | exact Blk.new' rfl | refine Blk.drew ?_ | refine Blk.alloc ?_ _)) hB)
  clear hB
  have p0_0 := B0.out.at_ (i := 0) (v := .int .i64 (-1)) rfl
  have p0_1 := B0.out.at_ (i := 1) (v := .int .i64 0) rfl
  have k0_0 : w.heap.size < w1.heap.size := by have := B0.out.lt; omega
  go_wp2_with fail
  go_ret
  exact ⟨rfl, (by repeat (first | exact HB.out | refine below_alloc ?_ _ | refine Below.drew ?_ | refine below_set ?_ (by omega) _))⟩
set_option maxRecDepth 100000 in
set_option maxHeartbeats 4000000 in
theorem next_m_1t (l : List Sub) (sA : Option Addr) (sc : Nat) (cur high : Lab) (w : World) (_h0 : ¬ (l.length : Int) ≤ -1) (h1 : RightIs high true) (h2 : UnderIs cur high true) :
    Calls Tryd.prog 44 #[.slice sA l.length sc, .agg #[.int .i64 (-1), .int .i64 1, .int .i64 cur.lv, .int .u64 (u cur.c), .int .i64 cur.ig, .int .i64 high.lv, .int .u64 (u high.c), .int .i64 high.ig]] w (fun e w' => e = .returned (.bool true) ∧ Below w.heap.size w w') := by
  have H1 := Lib.hid h1
  clear h1
  have H2 := Lib.hid h2
  clear h2
  have HB := Lib.hid (Below.refl w.heap.size w)
  go_enter Tryd.func44, Tryd.ntmps44
  go_wp2_with fail
  refine (H1.out _).mono ?_
  rintro e w1 ⟨rfl, hB⟩
  replace HB := Lib.hid (below_call (w := w) (by repeat (first | exact HB.out | refine below_alloc ?_ _ | refine Below.drew ?_ | refine below_set ?_ (by omega) _)) hB)
  have z1 : w.heap.size ≤ w1.heap.size := HB.out.size
  have B0 : Hid (Blk w1 (w.heap.size) 41 #[.int .i64 (-1), .int .i64 1, .int .i64 cur.lv, .int .u64 (u cur.c), .int .i64 cur.ig, .int .i64 high.lv, .int .u64 (u high.c), .int .i64 high.ig]) := Lib.hid (Blk.after (by repeat (first | exact Blk.new' (by simp; done) | exact Blk.new' rfl | refine Blk.drew ?_ | refine Blk.alloc ?_ _)) hB)
  clear hB
  have p0_1 := B0.out.at_ (i := 1) (v := .int .i64 1) rfl
  have p0_2 := B0.out.at_ (i := 2) (v := .int .i64 cur.lv) rfl
  have p0_3 := B0.out.at_ (i := 3) (v := .int .u64 (u cur.c)) rfl
  have p0_4 := B0.out.at_ (i := 4) (v := .int .i64 cur.ig) rfl
  have p0_5 := B0.out.at_ (i := 5) (v := .int .i64 high.lv) rfl
  have p0_6 := B0.out.at_ (i := 6) (v := .int .u64 (u high.c)) rfl
  have p0_7 := B0.out.at_ (i := 7) (v := .int .i64 high.ig) rfl
  have k0_0 : w.heap.size < w1.heap.size := by have := B0.out.lt; omega
  go_wp2_with fail
  refine (H2.out _).mono ?_
  rintro e w2 ⟨rfl, hB⟩
  replace HB := Lib.hid (below_call (w := w) (by repeat (first | exact HB.out | refine below_alloc ?_ _ | refine Below.drew ?_ | refine below_set ?_ (by omega) _)) hB)
  have z2 : w.heap.size ≤ w2.heap.size := HB.out.size
  clear p0_1 p0_2 p0_3 p0_4 p0_5 p0_6 p0_7 k0_0
  clear hB
  go_wp2_with fail
  go_ret
  exact ⟨rfl, (by repeat (first | exact HB.out | refine below_alloc ?_ _ | refine Below.drew ?_ | refine below_set ?_ (by omega) _))⟩
set_option maxRecDepth 100000 in
set_option maxHeartbeats 4000000 in
theorem next_m_1f (l : List Sub) (sA : Option Addr) (sc : Nat) (cur high : Lab) (w : World) (_h0 : ¬ (l.length : Int) ≤ -1) (h1 : RightIs high true) (h2 : UnderIs cur high false) :
    Calls Tryd.prog 44 #[.slice sA l.length sc, .agg #[.int .i64 (-1), .int .i64 1, .int .i64 cur.lv, .int .u64 (u cur.c), .int .i64 cur.ig, .int .i64 high.lv, .int .u64 (u high.c), .int .i64 high.ig]] w (fun e w' => e = .returned (.bool false) ∧ Below w.heap.size w w') := by
  have H1 := Lib.hid h1
  clear h1
  have H2 := Lib.hid h2
  clear h2
  have HB := Lib.hid (Below.refl w.heap.size w)
  go_enter Tryd.func44, Tryd.ntmps44
  go_wp2_with fail
  refine (H1.out _).mono ?_
  rintro e w1 ⟨rfl, hB⟩
  replace HB := Lib.hid (below_call (w := w) (by repeat (first | exact HB.out | refine below_alloc ?_ _ | refine Below.drew ?_ | refine below_set ?_ (by omega) _)) hB)
  have z1 : w.heap.size ≤ w1.heap.size := HB.out.size
  have B0 : Hid (Blk w1 (w.heap.size) 41 #[.int .i64 (-1), .int .i64 1, .int .i64 cur.lv, .int .u64 (u cur.c), .int .i64 cur.ig, .int .i64 high.lv, .int .u64 (u high.c), .int .i64 high.ig]) := Lib.hid (Blk.after (by repeat (first | exact Blk.new' (by simp; done) | exact Blk.new' rfl | refine Blk.drew ?_ | refine Blk.alloc ?_ _)) hB)
  clear hB
  have p0_1 := B0.out.at_ (i := 1) (v := .int .i64 1) rfl
  have p0_2 := B0.out.at_ (i := 2) (v := .int .i64 cur.lv) rfl
  have p0_3 := B0.out.at_ (i := 3) (v := .int .u64 (u cur.c)) rfl
  have p0_4 := B0.out.at_ (i := 4) (v := .int .i64 cur.ig) rfl
  have p0_5 := B0.out.at_ (i := 5) (v := .int .i64 high.lv) rfl
  have p0_6 := B0.out.at_ (i := 6) (v := .int .u64 (u high.c)) rfl
  have p0_7 := B0.out.at_ (i := 7) (v := .int .i64 high.ig) rfl
  have k0_0 : w.heap.size < w1.heap.size := by have := B0.out.lt; omega
  go_wp2_with fail
  refine (H2.out _).mono ?_
  rintro e w2 ⟨rfl, hB⟩
  replace HB := Lib.hid (below_call (w := w) (by repeat (first | exact HB.out | refine below_alloc ?_ _ | refine Below.drew ?_ | refine below_set ?_ (by omega) _)) hB)
  have z2 : w.heap.size ≤ w2.heap.size := HB.out.size
  clear p0_1 p0_2 p0_3 p0_4 p0_5 p0_6 p0_7 k0_0
  clear hB
  go_wp2_with fail
  go_ret
  exact ⟨rfl, (by repeat (first | exact HB.out | refine below_alloc ?_ _ | refine Below.drew ?_ | refine below_set ?_ (by omega) _))⟩
set_option maxRecDepth 100000 in
set_option maxHeartbeats 4000000 in
theorem next_m_2t (l : List Sub) (sA : Option Addr) (sc : Nat) (cur high : Lab) (w : World) (_h0 : ¬ (l.length : Int) ≤ -1) (h1 : RightIs high true) (h2 : UnderIs cur high true) :
    Calls Tryd.prog 44 #[.slice sA l.length sc, .agg #[.int .i64 (-1), .int .i64 2, .int .i64 cur.lv, .int .u64 (u cur.c), .int .i64 cur.ig, .int .i64 high.lv, .int .u64 (u high.c), .int .i64 high.ig]] w (fun e w' => e = .returned (.bool true) ∧ Below w.heap.size w w') := by
  have H1 := Lib.hid h1
  clear h1
  have H2 := Lib.hid h2
  clear h2
  have HB := Lib.hid (Below.refl w.heap.size w)
  go_enter Tryd.func44, Tryd.ntmps44
  go_wp2_with fail
  refine (H1.out _).mono ?_
  rintro e w1 ⟨rfl, hB⟩
  replace HB := Lib.hid (below_call (w := w) (by repeat (first | exact HB.out | refine below_alloc ?_ _ | refine Below.drew ?_ | refine below_set ?_ (by omega) _)) hB)
  have z1 : w.heap.size ≤ w1.heap.size := HB.out.size
  have B0 : Hid (Blk w1 (w.heap.size) 41 #[.int .i64 (-1), .int .i64 2, .int .i64 cur.lv, .int .u64 (u cur.c), .int .i64 cur.ig, .int .i64 high.lv, .int .u64 (u high.c), .int .i64 high.ig]) := Lib.hid (Blk.after (by repeat (first | exact Blk.new' (by simp; done) | exact Blk.new' rfl | refine Blk.drew ?_ | refine Blk.alloc ?_ _)) hB)
  clear hB
  have p0_1 := B0.out.at_ (i := 1) (v := .int .i64 2) rfl
  have p0_2 := B0.out.at_ (i := 2) (v := .int .i64 cur.lv) rfl
  have p0_3 := B0.out.at_ (i := 3) (v := .int .u64 (u cur.c)) rfl
  have p0_4 := B0.out.at_ (i := 4) (v := .int .i64 cur.ig) rfl
  have p0_5 := B0.out.at_ (i := 5) (v := .int .i64 high.lv) rfl
  have p0_6 := B0.out.at_ (i := 6) (v := .int .u64 (u high.c)) rfl
  have p0_7 := B0.out.at_ (i := 7) (v := .int .i64 high.ig) rfl
  have k0_0 : w.heap.size < w1.heap.size := by have := B0.out.lt; omega
  go_wp2_with fail
  refine (H2.out _).mono ?_
  rintro e w2 ⟨rfl, hB⟩
  replace HB := Lib.hid (below_call (w := w) (by repeat (first | exact HB.out | refine below_alloc ?_ _ | refine Below.drew ?_ | refine below_set ?_ (by omega) _)) hB)
  have z2 : w.heap.size ≤ w2.heap.size := HB.out.size
  clear p0_1 p0_2 p0_3 p0_4 p0_5 p0_6 p0_7 k0_0
  clear hB
  go_wp2_with fail
  go_ret
  exact ⟨rfl, (by repeat (first | exact HB.out | refine below_alloc ?_ _ | refine Below.drew ?_ | refine below_set ?_ (by omega) _))⟩
set_option maxRecDepth 100000 in
set_option maxHeartbeats 4000000 in
theorem next_m_2f (l : List Sub) (sA : Option Addr) (sc : Nat) (cur high : Lab) (w : World) (_h0 : ¬ (l.length : Int) ≤ -1) (h1 : RightIs high true) (h2 : UnderIs cur high false) :
    Calls Tryd.prog 44 #[.slice sA l.length sc, .agg #[.int .i64 (-1), .int .i64 2, .int .i64 cur.lv, .int .u64 (u cur.c), .int .i64 cur.ig, .int .i64 high.lv, .int .u64 (u high.c), .int .i64 high.ig]] w (fun e w' => e = .returned (.bool false) ∧ Below w.heap.size w w') := by
  have H1 := Lib.hid h1
  clear h1
  have H2 := Lib.hid h2
  clear h2
  have HB := Lib.hid (Below.refl w.heap.size w)
  go_enter Tryd.func44, Tryd.ntmps44
  go_wp2_with fail
  refine (H1.out _).mono ?_
  rintro e w1 ⟨rfl, hB⟩
  replace HB := Lib.hid (below_call (w := w) (by repeat (first | exact HB.out | refine below_alloc ?_ _ | refine Below.drew ?_ | refine below_set ?_ (by omega) _)) hB)
  have z1 : w.heap.size ≤ w1.heap.size := HB.out.size
  have B0 : Hid (Blk w1 (w.heap.size) 41 #[.int .i64 (-1), .int .i64 2, .int .i64 cur.lv, .int .u64 (u cur.c), .int .i64 cur.ig, .int .i64 high.lv, .int .u64 (u high.c), .int .i64 high.ig]) := Lib.hid (Blk.after (by repeat (first | exact Blk.new' (by simp; done) | exact Blk.new' rfl | refine Blk.drew ?_ | refine Blk.alloc ?_ _)) hB)
  clear hB
  have p0_1 := B0.out.at_ (i := 1) (v := .int .i64 2) rfl
  have p0_2 := B0.out.at_ (i := 2) (v := .int .i64 cur.lv) rfl
  have p0_3 := B0.out.at_ (i := 3) (v := .int .u64 (u cur.c)) rfl
  have p0_4 := B0.out.at_ (i := 4) (v := .int .i64 cur.ig) rfl
  have p0_5 := B0.out.at_ (i := 5) (v := .int .i64 high.lv) rfl
  have p0_6 := B0.out.at_ (i := 6) (v := .int .u64 (u high.c)) rfl
  have p0_7 := B0.out.at_ (i := 7) (v := .int .i64 high.ig) rfl
  have k0_0 : w.heap.size < w1.heap.size := by have := B0.out.lt; omega
  go_wp2_with fail
  refine (H2.out _).mono ?_
  rintro e w2 ⟨rfl, hB⟩
  replace HB := Lib.hid (below_call (w := w) (by repeat (first | exact HB.out | refine below_alloc ?_ _ | refine Below.drew ?_ | refine below_set ?_ (by omega) _)) hB)
  have z2 : w.heap.size ≤ w2.heap.size := HB.out.size
  clear p0_1 p0_2 p0_3 p0_4 p0_5 p0_6 p0_7 k0_0
  clear hB
  go_wp2_with fail
  go_ret
  exact ⟨rfl, (by repeat (first | exact HB.out | refine below_alloc ?_ _ | refine Below.drew ?_ | refine below_set ?_ (by omega) _))⟩
set_option maxRecDepth 100000 in
set_option maxHeartbeats 4000000 in
theorem next_i_bad (l : List Sub) (b off cap k : Nat) (p : Sub) (st : Int) (cur high : Lab) (w : World) (he : Els w b (off + k * 8) #[.int .i64 p.par, .int .i64 0, .int .i64 p.cur.lv, .int .u64 (u p.cur.c), .int .i64 p.cur.ig, .int .i64 p.high.lv, .int .u64 (u p.high.c), .int .i64 p.high.ig]) (_h0 : ((k : Int) == -1) = false) (_h1 : (0 : Int) ≤ (k : Int)) (_h2 : (k : Int) < (l.length : Int)) (_h3 : ¬ (k : Int) < -1) (_h4 : ¬ (l.length : Int) ≤ (k : Int)) (h5 : RightIs high false) :
    Calls Tryd.prog 44 #[.slice (some ⟨b, off, none⟩) l.length cap, .agg #[.int .i64 k, .int .i64 st, .int .i64 cur.lv, .int .u64 (u cur.c), .int .i64 cur.ig, .int .i64 high.lv, .int .u64 (u high.c), .int .i64 high.ig]] w (fun e w' => e = .returned (.bool false) ∧ Below w.heap.size w w') := by
  have H5 := Lib.hid h5
  clear h5
  have HB := Lib.hid (Below.refl w.heap.size w)
  go_enter Tryd.func44, Tryd.ntmps44
  have B0 := Lib.hid he
  clear he
  have p0_1 : w.cell? ⟨b, off + k * 8 + 1, none⟩ = some (.int .i64 0) := B0.out.at_ (i := 1) (v := .int .i64 0) rfl
  have k0_0 : b < w.heap.size := by have := B0.out.lt; omega
  have k0_1 : b < w.heap.size + 1 := by have := B0.out.lt; omega
  go_wp2_with fail
  refine (H5.out _).mono ?_
  rintro e w1 ⟨rfl, hB⟩
  replace HB := Lib.hid (below_call (w := w) (by repeat (first | exact HB.out | refine below_alloc ?_ _ | refine Below.drew ?_ | refine below_set ?_ (by omega) _)) hB)
  have z1 : w.heap.size ≤ w1.heap.size := HB.out.size
  clear p0_1 k0_0 k0_1
  clear hB
  go_wp2_with fail
  go_ret
  exact ⟨rfl, (by repeat (first | exact HB.out | refine below_alloc ?_ _ | refine Below.drew ?_ | refine below_set ?_ (by omega) _))⟩
set_option maxRecDepth 100000 in
set_option maxHeartbeats 4000000 in
theorem next_i_x (l : List Sub) (b off cap k : Nat) (p : Sub) (st : Int) (cur high : Lab) (w : World) (he : Els w b (off + k * 8) #[.int .i64 p.par, .int .i64 0, .int .i64 p.cur.lv, .int .u64 (u p.cur.c), .int .i64 p.cur.ig, .int .i64 p.high.lv, .int .u64 (u p.high.c), .int .i64 p.high.ig]) (_h0 : ((k : Int) == -1) = false) (_h1 : (0 : Int) ≤ (k : Int)) (_h2 : (k : Int) < (l.length : Int)) (_h3 : ¬ (k : Int) < -1) (_h4 : ¬ (l.length : Int) ≤ (k : Int)) (h5 : RightIs high true) (_h6 : (st == 0) = false) (_h7 : (st == 1) = false) (_h8 : (st == 2) = false) :
    Calls Tryd.prog 44 #[.slice (some ⟨b, off, none⟩) l.length cap, .agg #[.int .i64 k, .int .i64 st, .int .i64 cur.lv, .int .u64 (u cur.c), .int .i64 cur.ig, .int .i64 high.lv, .int .u64 (u high.c), .int .i64 high.ig]] w (fun e w' => e = .returned (.bool false) ∧ Below w.heap.size w w') := by
  have H5 := Lib.hid h5
  clear h5
  have HB := Lib.hid (Below.refl w.heap.size w)
  go_enter Tryd.func44, Tryd.ntmps44
  have B0 := Lib.hid he
  clear he
  have p0_1 : w.cell? ⟨b, off + k * 8 + 1, none⟩ = some (.int .i64 0) := B0.out.at_ (i := 1) (v := .int .i64 0) rfl
  have k0_0 : b < w.heap.size := by have := B0.out.lt; omega
  have k0_1 : b < w.heap.size + 1 := by have := B0.out.lt; omega
  go_wp2_with fail
  refine (H5.out _).mono ?_
  rintro e w1 ⟨rfl, hB⟩
  replace HB := Lib.hid (below_call (w := w) (by repeat (first | exact HB.out | refine below_alloc ?_ _ | refine Below.drew ?_ | refine below_set ?_ (by omega) _)) hB)
  have z1 : w.heap.size ≤ w1.heap.size := HB.out.size
  have B1 : Hid (Blk w1 (w.heap.size) 41 #[.int .i64 k, .int .i64 st, .int .i64 cur.lv, .int .u64 (u cur.c), .int .i64 cur.ig, .int .i64 high.lv, .int .u64 (u high.c), .int .i64 high.ig]) := Lib.hid (Blk.after (by repeat (first | exact Blk.new' (by simp; done) | exact Blk.new' rfl | refine Blk.drew ?_ | refine Blk.alloc ?_ _)) hB)
  clear p0_1 k0_0 k0_1
  clear hB
  have p1_1 := B1.out.at_ (i := 1) (v := .int .i64 st) rfl
  have k1_0 : w.heap.size < w1.heap.size := by have := B1.out.lt; omega
  go_wp2_with fail
  go_ret
  exact ⟨rfl, (by repeat (first | exact HB.out | refine below_alloc ?_ _ | refine Below.drew ?_ | refine below_set ?_ (by omega) _))⟩
set_option maxRecDepth 100000 in
set_option maxHeartbeats 4000000 in
theorem next_i_0t (l : List Sub) (b off cap k : Nat) (p : Sub) (cur high : Lab) (w : World) (he : Els w b (off + k * 8) #[.int .i64 p.par, .int .i64 0, .int .i64 p.cur.lv, .int .u64 (u p.cur.c), .int .i64 p.cur.ig, .int .i64 p.high.lv, .int .u64 (u p.high.c), .int .i64 p.high.ig]) (_h0 : ((k : Int) == -1) = false) (_h1 : (0 : Int) ≤ (k : Int)) (_h2 : (k : Int) < (l.length : Int)) (_h3 : ¬ (k : Int) < -1) (_h4 : ¬ (l.length : Int) ≤ (k : Int)) (h5 : RightIs high true) (_h6 : ∀ W, (binOp .eql 25 (.agg #[.int .i64 cur.lv, .int .u64 (u cur.c), .int .i64 cur.ig]) (.agg #[.int .i64 0, .int .u64 0, .int .i64 0])).run Tryd.prog W = .ok (.bool true) W) :
    Calls Tryd.prog 44 #[.slice (some ⟨b, off, none⟩) l.length cap, .agg #[.int .i64 k, .int .i64 0, .int .i64 cur.lv, .int .u64 (u cur.c), .int .i64 cur.ig, .int .i64 high.lv, .int .u64 (u high.c), .int .i64 high.ig]] w (fun e w' => e = .returned (.bool true) ∧ Below w.heap.size w w') := by
  have H5 := Lib.hid h5
  clear h5
  have HB := Lib.hid (Below.refl w.heap.size w)
  go_enter Tryd.func44, Tryd.ntmps44
  have B0 := Lib.hid he
  clear he
  have p0_1 : w.cell? ⟨b, off + k * 8 + 1, none⟩ = some (.int .i64 0) := B0.out.at_ (i := 1) (v := .int .i64 0) rfl
  have k0_0 : b < w.heap.size := by have := B0.out.lt; omega
  have k0_1 : b < w.heap.size + 1 := by have := B0.out.lt; omega
  go_wp2_with fail
  refine (H5.out _).mono ?_
  rintro e w1 ⟨rfl, hB⟩
  replace HB := Lib.hid (below_call (w := w) (by repeat (first | exact HB.out | refine below_alloc ?_ _ | refine Below.drew ?_ | refine below_set ?_ (by omega) _)) hB)
  have z1 : w.heap.size ≤ w1.heap.size := HB.out.size
  have B1 : Hid (Blk w1 (w.heap.size) 41 #[.int .i64 k, .int .i64 0, .int .i64 cur.lv, .int .u64 (u cur.c), .int .i64 cur.ig, .int .i64 high.lv, .int .u64 (u high.c), .int .i64 high.ig]) := Lib.hid (Blk.after (by repeat (first | exact Blk.new' (by simp; done) | exact Blk.new' rfl | refine Blk.drew ?_ | refine Blk.alloc ?_ _)) hB)
  clear p0_1 k0_0 k0_1
  clear hB
  have p1_0 := B1.out.at_ (i := 0) (v := .int .i64 k) rfl
  have p1_1 := B1.out.at_ (i := 1) (v := .int .i64 0) rfl
  have p1_2 := B1.out.at_ (i := 2) (v := .int .i64 cur.lv) rfl
  have p1_3 := B1.out.at_ (i := 3) (v := .int .u64 (u cur.c)) rfl
  have p1_4 := B1.out.at_ (i := 4) (v := .int .i64 cur.ig) rfl
  have k1_0 : w.heap.size < w1.heap.size := by have := B1.out.lt; omega
  go_wp2_with fail
  go_ret
  exact ⟨rfl, (by repeat (first | exact HB.out | refine below_alloc ?_ _ | refine Below.drew ?_ | refine below_set ?_ (by omega) _))⟩
set_option maxRecDepth 100000 in
set_option maxHeartbeats 4000000 in
theorem next_i_0f (l : List Sub) (b off cap k : Nat) (p : Sub) (cur high : Lab) (w : World) (he : Els w b (off + k * 8) #[.int .i64 p.par, .int .i64 0, .int .i64 p.cur.lv, .int .u64 (u p.cur.c), .int .i64 p.cur.ig, .int .i64 p.high.lv, .int .u64 (u p.high.c), .int .i64 p.high.ig]) (_h0 : ((k : Int) == -1) = false) (_h1 : (0 : Int) ≤ (k : Int)) (_h2 : (k : Int) < (l.length : Int)) (_h3 : ¬ (k : Int) < -1) (_h4 : ¬ (l.length : Int) ≤ (k : Int)) (h5 : RightIs high true) (_h6 : ∀ W, (binOp .eql 25 (.agg #[.int .i64 cur.lv, .int .u64 (u cur.c), .int .i64 cur.ig]) (.agg #[.int .i64 0, .int .u64 0, .int .i64 0])).run Tryd.prog W = .ok (.bool false) W) :
    Calls Tryd.prog 44 #[.slice (some ⟨b, off, none⟩) l.length cap, .agg #[.int .i64 k, .int .i64 0, .int .i64 cur.lv, .int .u64 (u cur.c), .int .i64 cur.ig, .int .i64 high.lv, .int .u64 (u high.c), .int .i64 high.ig]] w (fun e w' => e = .returned (.bool false) ∧ Below w.heap.size w w') := by
  have H5 := Lib.hid h5
  clear h5
  have HB := Lib.hid (Below.refl w.heap.size w)
  go_enter Tryd.func44, Tryd.ntmps44
  have B0 := Lib.hid he
  clear he
  have p0_1 : w.cell? ⟨b, off + k * 8 + 1, none⟩ = some (.int .i64 0) := B0.out.at_ (i := 1) (v := .int .i64 0) rfl
  have k0_0 : b < w.heap.size := by have := B0.out.lt; omega
  have k0_1 : b < w.heap.size + 1 := by have := B0.out.lt; omega
  go_wp2_with fail
  refine (H5.out _).mono ?_
  rintro e w1 ⟨rfl, hB⟩
  replace HB := Lib.hid (below_call (w := w) (by repeat (first | exact HB.out | refine below_alloc ?_ _ | refine Below.drew ?_ | refine below_set ?_ (by omega) _)) hB)
  have z1 : w.heap.size ≤ w1.heap.size := HB.out.size
  have B1 : Hid (Blk w1 (w.heap.size) 41 #[.int .i64 k, .int .i64 0, .int .i64 cur.lv, .int .u64 (u cur.c), .int .i64 cur.ig, .int .i64 high.lv, .int .u64 (u high.c), .int .i64 high.ig]) := Lib.hid (Blk.after (by repeat (first | exact Blk.new' (by simp; done) | exact Blk.new' rfl | refine Blk.drew ?_ | refine Blk.alloc ?_ _)) hB)
  clear p0_1 k0_0 k0_1
  clear hB
  have p1_0 := B1.out.at_ (i := 0) (v := .int .i64 k) rfl
  have p1_1 := B1.out.at_ (i := 1) (v := .int .i64 0) rfl
  have p1_2 := B1.out.at_ (i := 2) (v := .int .i64 cur.lv) rfl
  have p1_3 := B1.out.at_ (i := 3) (v := .int .u64 (u cur.c)) rfl
  have p1_4 := B1.out.at_ (i := 4) (v := .int .i64 cur.ig) rfl
  have k1_0 : w.heap.size < w1.heap.size := by have := B1.out.lt; omega
  go_wp2_with fail
  go_ret
  exact ⟨rfl, (by repeat (first | exact HB.out | refine below_alloc ?_ _ | refine Below.drew ?_ | refine below_set ?_ (by omega) _))⟩
set_option maxRecDepth 100000 in
set_option maxHeartbeats 4000000 in
theorem next_i_1 (l : List Sub) (b off cap k : Nat) (p : Sub) (cur high : Lab) (w : World) (he : Els w b (off + k * 8) #[.int .i64 p.par, .int .i64 0, .int .i64 p.cur.lv, .int .u64 (u p.cur.c), .int .i64 p.cur.ig, .int .i64 p.high.lv, .int .u64 (u p.high.c), .int .i64 p.high.ig]) (_h0 : ((k : Int) == -1) = false) (_h1 : (0 : Int) ≤ (k : Int)) (_h2 : (k : Int) < (l.length : Int)) (_h3 : ¬ (k : Int) < -1) (_h4 : ¬ (l.length : Int) ≤ (k : Int)) (h5 : RightIs high true) :
    Calls Tryd.prog 44 #[.slice (some ⟨b, off, none⟩) l.length cap, .agg #[.int .i64 k, .int .i64 1, .int .i64 cur.lv, .int .u64 (u cur.c), .int .i64 cur.ig, .int .i64 high.lv, .int .u64 (u high.c), .int .i64 high.ig]] w (fun e w' => e = .returned (.bool false) ∧ Below w.heap.size w w') := by
  have H5 := Lib.hid h5
  clear h5
  have HB := Lib.hid (Below.refl w.heap.size w)
  go_enter Tryd.func44, Tryd.ntmps44
  have B0 := Lib.hid he
  clear he
  have p0_1 : w.cell? ⟨b, off + k * 8 + 1, none⟩ = some (.int .i64 0) := B0.out.at_ (i := 1) (v := .int .i64 0) rfl
  have k0_0 : b < w.heap.size := by have := B0.out.lt; omega
  have k0_1 : b < w.heap.size + 1 := by have := B0.out.lt; omega
  go_wp2_with fail
  refine (H5.out _).mono ?_
  rintro e w1 ⟨rfl, hB⟩
  replace HB := Lib.hid (below_call (w := w) (by repeat (first | exact HB.out | refine below_alloc ?_ _ | refine Below.drew ?_ | refine below_set ?_ (by omega) _)) hB)
  have z1 : w.heap.size ≤ w1.heap.size := HB.out.size
  have B1 : Hid (Blk w1 (w.heap.size) 41 #[.int .i64 k, .int .i64 1, .int .i64 cur.lv, .int .u64 (u cur.c), .int .i64 cur.ig, .int .i64 high.lv, .int .u64 (u high.c), .int .i64 high.ig]) := Lib.hid (Blk.after (by repeat (first | exact Blk.new' (by simp; done) | exact Blk.new' rfl | refine Blk.drew ?_ | refine Blk.alloc ?_ _)) hB)
  clear p0_1 k0_0 k0_1
  clear hB
  have p1_1 := B1.out.at_ (i := 1) (v := .int .i64 1) rfl
  have k1_0 : w.heap.size < w1.heap.size := by have := B1.out.lt; omega
  go_wp2_with fail
  go_ret
  exact ⟨rfl, (by repeat (first | exact HB.out | refine below_alloc ?_ _ | refine Below.drew ?_ | refine below_set ?_ (by omega) _))⟩
set_option maxRecDepth 100000 in
set_option maxHeartbeats 4000000 in
theorem next_i_2 (l : List Sub) (b off cap k : Nat) (p : Sub) (cur high : Lab) (w : World) (he : Els w b (off + k * 8) #[.int .i64 p.par, .int .i64 0, .int .i64 p.cur.lv, .int .u64 (u p.cur.c), .int .i64 p.cur.ig, .int .i64 p.high.lv, .int .u64 (u p.high.c), .int .i64 p.high.ig]) (_h0 : ((k : Int) == -1) = false) (_h1 : (0 : Int) ≤ (k : Int)) (_h2 : (k : Int) < (l.length : Int)) (_h3 : ¬ (k : Int) < -1) (_h4 : ¬ (l.length : Int) ≤ (k : Int)) (h5 : RightIs high true) :
    Calls Tryd.prog 44 #[.slice (some ⟨b, off, none⟩) l.length cap, .agg #[.int .i64 k, .int .i64 2, .int .i64 cur.lv, .int .u64 (u cur.c), .int .i64 cur.ig, .int .i64 high.lv, .int .u64 (u high.c), .int .i64 high.ig]] w (fun e w' => e = .returned (.bool false) ∧ Below w.heap.size w w') := by
  have H5 := Lib.hid h5
  clear h5
  have HB := Lib.hid (Below.refl w.heap.size w)
  go_enter Tryd.func44, Tryd.ntmps44
  have B0 := Lib.hid he
  clear he
  have p0_1 : w.cell? ⟨b, off + k * 8 + 1, none⟩ = some (.int .i64 0) := B0.out.at_ (i := 1) (v := .int .i64 0) rfl
  have k0_0 : b < w.heap.size := by have := B0.out.lt; omega
  have k0_1 : b < w.heap.size + 1 := by have := B0.out.lt; omega
  go_wp2_with fail
  refine (H5.out _).mono ?_
  rintro e w1 ⟨rfl, hB⟩
  replace HB := Lib.hid (below_call (w := w) (by repeat (first | exact HB.out | refine below_alloc ?_ _ | refine Below.drew ?_ | refine below_set ?_ (by omega) _)) hB)
  have z1 : w.heap.size ≤ w1.heap.size := HB.out.size
  have B1 : Hid (Blk w1 (w.heap.size) 41 #[.int .i64 k, .int .i64 2, .int .i64 cur.lv, .int .u64 (u cur.c), .int .i64 cur.ig, .int .i64 high.lv, .int .u64 (u high.c), .int .i64 high.ig]) := Lib.hid (Blk.after (by repeat (first | exact Blk.new' (by simp; done) | exact Blk.new' rfl | refine Blk.drew ?_ | refine Blk.alloc ?_ _)) hB)
  clear p0_1 k0_0 k0_1
  clear hB
  have p1_1 := B1.out.at_ (i := 1) (v := .int .i64 2) rfl
  have k1_0 : w.heap.size < w1.heap.size := by have := B1.out.lt; omega
  go_wp2_with fail
  go_ret
  exact ⟨rfl, (by repeat (first | exact HB.out | refine below_alloc ?_ _ | refine Below.drew ?_ | refine below_set ?_ (by omega) _))⟩
set_option maxRecDepth 100000 in
set_option maxHeartbeats 4000000 in
theorem next_n_bad (l : List Sub) (b off cap k : Nat) (p : Sub) (st : Int) (cur high : Lab) (w : World) (he : Els w b (off + k * 8) #[.int .i64 p.par, .int .i64 p.st, .int .i64 p.cur.lv, .int .u64 (u p.cur.c), .int .i64 p.cur.ig, .int .i64 p.high.lv, .int .u64 (u p.high.c), .int .i64 p.high.ig]) (_h0 : ((k : Int) == -1) = false) (_h1 : (0 : Int) ≤ (k : Int)) (_h2 : (k : Int) < (l.length : Int)) (_h3 : (p.st != 0) = true) (_h4 : ¬ (k : Int) < -1) (_h5 : ¬ (l.length : Int) ≤ (k : Int)) (h6 : RightIs high false) :
    Calls Tryd.prog 44 #[.slice (some ⟨b, off, none⟩) l.length cap, .agg #[.int .i64 k, .int .i64 st, .int .i64 cur.lv, .int .u64 (u cur.c), .int .i64 cur.ig, .int .i64 high.lv, .int .u64 (u high.c), .int .i64 high.ig]] w (fun e w' => e = .returned (.bool false) ∧ Below w.heap.size w w') := by
  have H6 := Lib.hid h6
  clear h6
  have HB := Lib.hid (Below.refl w.heap.size w)
  go_enter Tryd.func44, Tryd.ntmps44
  have B0 := Lib.hid he
  clear he
  have p0_1 : w.cell? ⟨b, off + k * 8 + 1, none⟩ = some (.int .i64 p.st) := B0.out.at_ (i := 1) (v := .int .i64 p.st) rfl
  have k0_0 : b < w.heap.size := by have := B0.out.lt; omega
  have k0_1 : b < w.heap.size + 1 := by have := B0.out.lt; omega
  go_wp2_with fail
  refine (H6.out _).mono ?_
  rintro e w1 ⟨rfl, hB⟩
  replace HB := Lib.hid (below_call (w := w) (by repeat (first | exact HB.out | refine below_alloc ?_ _ | refine Below.drew ?_ | refine below_set ?_ (by omega) _)) hB)
  have z1 : w.heap.size ≤ w1.heap.size := HB.out.size
  clear p0_1 k0_0 k0_1
  clear hB
  go_wp2_with fail
  go_ret
  exact ⟨rfl, (by repeat (first | exact HB.out | refine below_alloc ?_ _ | refine Below.drew ?_ | refine below_set ?_ (by omega) _))⟩
set_option maxRecDepth 100000 in
set_option maxHeartbeats 4000000 in
theorem next_n_x (l : List Sub) (b off cap k : Nat) (p : Sub) (st : Int) (cur high : Lab) (w : World) (he : Els w b (off + k * 8) #[.int .i64 p.par, .int .i64 p.st, .int .i64 p.cur.lv, .int .u64 (u p.cur.c), .int .i64 p.cur.ig, .int .i64 p.high.lv, .int .u64 (u p.high.c), .int .i64 p.high.ig]) (_h0 : ((k : Int) == -1) = false) (_h1 : (0 : Int) ≤ (k : Int)) (_h2 : (k : Int) < (l.length : Int)) (_h3 : (p.st != 0) = true) (_h4 : ¬ (k : Int) < -1) (_h5 : ¬ (l.length : Int) ≤ (k : Int)) (h6 : RightIs high true) (_h7 : (st == 0) = false) (_h8 : (st == 1) = false) (_h9 : (st == 2) = false) :
    Calls Tryd.prog 44 #[.slice (some ⟨b, off, none⟩) l.length cap, .agg #[.int .i64 k, .int .i64 st, .int .i64 cur.lv, .int .u64 (u cur.c), .int .i64 cur.ig, .int .i64 high.lv, .int .u64 (u high.c), .int .i64 high.ig]] w (fun e w' => e = .returned (.bool false) ∧ Below w.heap.size w w') := by
  have H6 := Lib.hid h6
  clear h6
  have HB := Lib.hid (Below.refl w.heap.size w)
  go_enter Tryd.func44, Tryd.ntmps44
  have B0 := Lib.hid he
  clear he
  have p0_1 : w.cell? ⟨b, off + k * 8 + 1, none⟩ = some (.int .i64 p.st) := B0.out.at_ (i := 1) (v := .int .i64 p.st) rfl
  have k0_0 : b < w.heap.size := by have := B0.out.lt; omega
  have k0_1 : b < w.heap.size + 1 := by have := B0.out.lt; omega
  go_wp2_with fail
  refine (H6.out _).mono ?_
  rintro e w1 ⟨rfl, hB⟩
  replace HB := Lib.hid (below_call (w := w) (by repeat (first | exact HB.out | refine below_alloc ?_ _ | refine Below.drew ?_ | refine below_set ?_ (by omega) _)) hB)
  have z1 : w.heap.size ≤ w1.heap.size := HB.out.size
  have B1 : Hid (Blk w1 (w.heap.size) 41 #[.int .i64 k, .int .i64 st, .int .i64 cur.lv, .int .u64 (u cur.c), .int .i64 cur.ig, .int .i64 high.lv, .int .u64 (u high.c), .int .i64 high.ig]) := Lib.hid (Blk.after (by repeat (first | exact Blk.new' (by simp; done) | exact Blk.new' rfl | refine Blk.drew ?_ | refine Blk.alloc ?_ _)) hB)
  clear p0_1 k0_0 k0_1
  clear hB
  have p1_1 := B1.out.at_ (i := 1) (v := .int .i64 st) rfl
  have k1_0 : w.heap.size < w1.heap.size := by have := B1.out.lt; omega
  go_wp2_with fail
  go_ret
  exact ⟨rfl, (by repeat (first | exact HB.out | refine below_alloc ?_ _ | refine Below.drew ?_ | refine below_set ?_ (by omega) _))⟩
set_option maxRecDepth 100000 in
set_option maxHeartbeats 4000000 in
theorem next_n_0t (l : List Sub) (b off cap k : Nat) (p : Sub) (cur high : Lab) (w : World) (he : Els w b (off + k * 8) #[.int .i64 p.par, .int .i64 p.st, .int .i64 p.cur.lv, .int .u64 (u p.cur.c), .int .i64 p.cur.ig, .int .i64 p.high.lv, .int .u64 (u p.high.c), .int .i64 p.high.ig]) (_h0 : ((k : Int) == -1) = false) (_h1 : (0 : Int) ≤ (k : Int)) (_h2 : (k : Int) < (l.length : Int)) (_h3 : (p.st != 0) = true) (_h4 : ¬ (k : Int) < -1) (_h5 : ¬ (l.length : Int) ≤ (k : Int)) (h6 : RightIs high true) (_h7 : ∀ W, (binOp .eql 25 (.agg #[.int .i64 cur.lv, .int .u64 (u cur.c), .int .i64 cur.ig]) (.agg #[.int .i64 0, .int .u64 0, .int .i64 0])).run Tryd.prog W = .ok (.bool true) W) :
    Calls Tryd.prog 44 #[.slice (some ⟨b, off, none⟩) l.length cap, .agg #[.int .i64 k, .int .i64 0, .int .i64 cur.lv, .int .u64 (u cur.c), .int .i64 cur.ig, .int .i64 high.lv, .int .u64 (u high.c), .int .i64 high.ig]] w (fun e w' => e = .returned (.bool true) ∧ Below w.heap.size w w') := by
  have H6 := Lib.hid h6
  clear h6
  have HB := Lib.hid (Below.refl w.heap.size w)
  go_enter Tryd.func44, Tryd.ntmps44
  have B0 := Lib.hid he
  clear he
  have p0_1 : w.cell? ⟨b, off + k * 8 + 1, none⟩ = some (.int .i64 p.st) := B0.out.at_ (i := 1) (v := .int .i64 p.st) rfl
  have k0_0 : b < w.heap.size := by have := B0.out.lt; omega
  have k0_1 : b < w.heap.size + 1 := by have := B0.out.lt; omega
  go_wp2_with fail
  refine (H6.out _).mono ?_
  rintro e w1 ⟨rfl, hB⟩
  replace HB := Lib.hid (below_call (w := w) (by repeat (first | exact HB.out | refine below_alloc ?_ _ | refine Below.drew ?_ | refine below_set ?_ (by omega) _)) hB)
  have z1 : w.heap.size ≤ w1.heap.size := HB.out.size
  have B1 : Hid (Blk w1 (w.heap.size) 41 #[.int .i64 k, .int .i64 0, .int .i64 cur.lv, .int .u64 (u cur.c), .int .i64 cur.ig, .int .i64 high.lv, .int .u64 (u high.c), .int .i64 high.ig]) := Lib.hid (Blk.after (by repeat (first | exact Blk.new' (by simp; done) | exact Blk.new' rfl | refine Blk.drew ?_ | refine Blk.alloc ?_ _)) hB)
  clear p0_1 k0_0 k0_1
  clear hB
  have p1_0 := B1.out.at_ (i := 0) (v := .int .i64 k) rfl
  have p1_1 := B1.out.at_ (i := 1) (v := .int .i64 0) rfl
  have p1_2 := B1.out.at_ (i := 2) (v := .int .i64 cur.lv) rfl
  have p1_3 := B1.out.at_ (i := 3) (v := .int .u64 (u cur.c)) rfl
  have p1_4 := B1.out.at_ (i := 4) (v := .int .i64 cur.ig) rfl
  have k1_0 : w.heap.size < w1.heap.size := by have := B1.out.lt; omega
  go_wp2_with fail
  go_ret
  exact ⟨rfl, (by repeat (first | exact HB.out | refine below_alloc ?_ _ | refine Below.drew ?_ | refine below_set ?_ (by omega) _))⟩
set_option maxRecDepth 100000 in
set_option maxHeartbeats 4000000 in
theorem next_n_0f (l : List Sub) (b off cap k : Nat) (p : Sub) (cur high : Lab) (w : World) (he : Els w b (off + k * 8) #[.int .i64 p.par, .int .i64 p.st, .int .i64 p.cur.lv, .int .u64 (u p.cur.c), .int .i64 p.cur.ig, .int .i64 p.high.lv, .int .u64 (u p.high.c), .int .i64 p.high.ig]) (_h0 : ((k : Int) == -1) = false) (_h1 : (0 : Int) ≤ (k : Int)) (_h2 : (k : Int) < (l.length : Int)) (_h3 : (p.st != 0) = true) (_h4 : ¬ (k : Int) < -1) (_h5 : ¬ (l.length : Int) ≤ (k : Int)) (h6 : RightIs high true) (_h7 : ∀ W, (binOp .eql 25 (.agg #[.int .i64 cur.lv, .int .u64 (u cur.c), .int .i64 cur.ig]) (.agg #[.int .i64 0, .int .u64 0, .int .i64 0])).run Tryd.prog W = .ok (.bool false) W) :
    Calls Tryd.prog 44 #[.slice (some ⟨b, off, none⟩) l.length cap, .agg #[.int .i64 k, .int .i64 0, .int .i64 cur.lv, .int .u64 (u cur.c), .int .i64 cur.ig, .int .i64 high.lv, .int .u64 (u high.c), .int .i64 high.ig]] w (fun e w' => e = .returned (.bool false) ∧ Below w.heap.size w w') := by
  have H6 := Lib.hid h6
  clear h6
  have HB := Lib.hid (Below.refl w.heap.size w)
  go_enter Tryd.func44, Tryd.ntmps44
  have B0 := Lib.hid he
  clear he
  have p0_1 : w.cell? ⟨b, off + k * 8 + 1, none⟩ = some (.int .i64 p.st) := B0.out.at_ (i := 1) (v := .int .i64 p.st) rfl
  have k0_0 : b < w.heap.size := by have := B0.out.lt; omega
  have k0_1 : b < w.heap.size + 1 := by have := B0.out.lt; omega
  go_wp2_with fail
  refine (H6.out _).mono ?_
  rintro e w1 ⟨rfl, hB⟩
  replace HB := Lib.hid (below_call (w := w) (by repeat (first | exact HB.out | refine below_alloc ?_ _ | refine Below.drew ?_ | refine below_set ?_ (by omega) _)) hB)
  have z1 : w.heap.size ≤ w1.heap.size := HB.out.size
  have B1 : Hid (Blk w1 (w.heap.size) 41 #[.int .i64 k, .int .i64 0, .int .i64 cur.lv, .int .u64 (u cur.c), .int .i64 cur.ig, .int .i64 high.lv, .int .u64 (u high.c), .int .i64 high.ig]) := Lib.hid (Blk.after (by repeat (first | exact Blk.new' (by simp; done) | exact Blk.new' rfl | refine Blk.drew ?_ | refine Blk.alloc ?_ _)) hB)
  clear p0_1 k0_0 k0_1
  clear hB
  have p1_0 := B1.out.at_ (i := 0) (v := .int .i64 k) rfl
  have p1_1 := B1.out.at_ (i := 1) (v := .int .i64 0) rfl
  have p1_2 := B1.out.at_ (i := 2) (v := .int .i64 cur.lv) rfl
  have p1_3 := B1.out.at_ (i := 3) (v := .int .u64 (u cur.c)) rfl
  have p1_4 := B1.out.at_ (i := 4) (v := .int .i64 cur.ig) rfl
  have k1_0 : w.heap.size < w1.heap.size := by have := B1.out.lt; omega
  go_wp2_with fail
  go_ret
  exact ⟨rfl, (by repeat (first | exact HB.out | refine below_alloc ?_ _ | refine Below.drew ?_ | refine below_set ?_ (by omega) _))⟩
set_option maxRecDepth 100000 in
set_option maxHeartbeats 4000000 in
theorem next_n_1t (l : List Sub) (b off cap k : Nat) (p : Sub) (cur high : Lab) (w : World) (he : Els w b (off + k * 8) #[.int .i64 p.par, .int .i64 p.st, .int .i64 p.cur.lv, .int .u64 (u p.cur.c), .int .i64 p.cur.ig, .int .i64 p.high.lv, .int .u64 (u p.high.c), .int .i64 p.high.ig]) (_h0 : ((k : Int) == -1) = false) (_h1 : (0 : Int) ≤ (k : Int)) (_h2 : (k : Int) < (l.length : Int)) (_h3 : (p.st != 0) = true) (_h4 : ¬ (k : Int) < -1) (_h5 : ¬ (l.length : Int) ≤ (k : Int)) (h6 : RightIs high true) (h7 : UnderIs cur high true) :
    Calls Tryd.prog 44 #[.slice (some ⟨b, off, none⟩) l.length cap, .agg #[.int .i64 k, .int .i64 1, .int .i64 cur.lv, .int .u64 (u cur.c), .int .i64 cur.ig, .int .i64 high.lv, .int .u64 (u high.c), .int .i64 high.ig]] w (fun e w' => e = .returned (.bool true) ∧ Below w.heap.size w w') := by
  have H6 := Lib.hid h6
  clear h6
  have H7 := Lib.hid h7
  clear h7
  have HB := Lib.hid (Below.refl w.heap.size w)
  go_enter Tryd.func44, Tryd.ntmps44
  have B0 := Lib.hid he
  clear he
  have p0_1 : w.cell? ⟨b, off + k * 8 + 1, none⟩ = some (.int .i64 p.st) := B0.out.at_ (i := 1) (v := .int .i64 p.st) rfl
  have k0_0 : b < w.heap.size := by have := B0.out.lt; omega
  have k0_1 : b < w.heap.size + 1 := by have := B0.out.lt; omega
  go_wp2_with fail
  refine (H6.out _).mono ?_
  rintro e w1 ⟨rfl, hB⟩
  replace HB := Lib.hid (below_call (w := w) (by repeat (first | exact HB.out | refine below_alloc ?_ _ | refine Below.drew ?_ | refine below_set ?_ (by omega) _)) hB)
  have z1 : w.heap.size ≤ w1.heap.size := HB.out.size
  have B1 : Hid (Blk w1 (w.heap.size) 41 #[.int .i64 k, .int .i64 1, .int .i64 cur.lv, .int .u64 (u cur.c), .int .i64 cur.ig, .int .i64 high.lv, .int .u64 (u high.c), .int .i64 high.ig]) := Lib.hid (Blk.after (by repeat (first | exact Blk.new' (by simp; done) | exact Blk.new' rfl | refine Blk.drew ?_ | refine Blk.alloc ?_ _)) hB)
  clear p0_1 k0_0 k0_1
  clear hB
  have p1_1 := B1.out.at_ (i := 1) (v := .int .i64 1) rfl
  have p1_2 := B1.out.at_ (i := 2) (v := .int .i64 cur.lv) rfl
  have p1_3 := B1.out.at_ (i := 3) (v := .int .u64 (u cur.c)) rfl
  have p1_4 := B1.out.at_ (i := 4) (v := .int .i64 cur.ig) rfl
  have p1_5 := B1.out.at_ (i := 5) (v := .int .i64 high.lv) rfl
  have p1_6 := B1.out.at_ (i := 6) (v := .int .u64 (u high.c)) rfl
  have p1_7 := B1.out.at_ (i := 7) (v := .int .i64 high.ig) rfl
  have k1_0 : w.heap.size < w1.heap.size := by have := B1.out.lt; omega
  go_wp2_with fail
  refine (H7.out _).mono ?_
  rintro e w2 ⟨rfl, hB⟩
  replace HB := Lib.hid (below_call (w := w) (by repeat (first | exact HB.out | refine below_alloc ?_ _ | refine Below.drew ?_ | refine below_set ?_ (by omega) _)) hB)
  have z2 : w.heap.size ≤ w2.heap.size := HB.out.size
  clear p1_1 p1_2 p1_3 p1_4 p1_5 p1_6 p1_7 k1_0
  clear hB
  go_wp2_with fail
  go_ret
  exact ⟨rfl, (by repeat (first | exact HB.out | refine below_alloc ?_ _ | refine Below.drew ?_ | refine below_set ?_ (by omega) _))⟩
set_option maxRecDepth 100000 in
set_option maxHeartbeats 4000000 in
theorem next_n_1f (l : List Sub) (b off cap k : Nat) (p : Sub) (cur high : Lab) (w : World) (he : Els w b (off + k * 8) #[.int .i64 p.par, .int .i64 p.st, .int .i64 p.cur.lv, .int .u64 (u p.cur.c), .int .i64 p.cur.ig, .int .i64 p.high.lv, .int .u64 (u p.high.c), .int .i64 p.high.ig]) (_h0 : ((k : Int) == -1) = false) (_h1 : (0 : Int) ≤ (k : Int)) (_h2 : (k : Int) < (l.length : Int)) (_h3 : (p.st != 0) = true) (_h4 : ¬ (k : Int) < -1) (_h5 : ¬ (l.length : Int) ≤ (k : Int)) (h6 : RightIs high true) (h7 : UnderIs cur high false) :
    Calls Tryd.prog 44 #[.slice (some ⟨b, off, none⟩) l.length cap, .agg #[.int .i64 k, .int .i64 1, .int .i64 cur.lv, .int .u64 (u cur.c), .int .i64 cur.ig, .int .i64 high.lv, .int .u64 (u high.c), .int .i64 high.ig]] w (fun e w' => e = .returned (.bool false) ∧ Below w.heap.size w w') := by
  have H6 := Lib.hid h6
  clear h6
  have H7 := Lib.hid h7
  clear h7
  have HB := Lib.hid (Below.refl w.heap.size w)
  go_enter Tryd.func44, Tryd.ntmps44
  have B0 := Lib.hid he
  clear he
  have p0_1 : w.cell? ⟨b, off + k * 8 + 1, none⟩ = some (.int .i64 p.st) := B0.out.at_ (i := 1) (v := .int .i64 p.st) rfl
  have k0_0 : b < w.heap.size := by have := B0.out.lt; omega
  have k0_1 : b < w.heap.size + 1 := by have := B0.out.lt; omega
  go_wp2_with fail
  refine (H6.out _).mono ?_
  rintro e w1 ⟨rfl, hB⟩
  replace HB := Lib.hid (below_call (w := w) (by repeat (first | exact HB.out | refine below_alloc ?_ _ | refine Below.drew ?_ | refine below_set ?_ (by omega) _)) hB)
  have z1 : w.heap.size ≤ w1.heap.size := HB.out.size
  have B1 : Hid (Blk w1 (w.heap.size) 41 #[.int .i64 k, .int .i64 1, .int .i64 cur.lv, .int .u64 (u cur.c), .int .i64 cur.ig, .int .i64 high.lv, .int .u64 (u high.c), .int .i64 high.ig]) := Lib.hid (Blk.after (by repeat (first | exact Blk.new' (by simp; done) | exact Blk.new' rfl | refine Blk.drew ?_ | refine Blk.alloc ?_ _)) hB)
  clear p0_1 k0_0 k0_1
  clear hB
  have p1_1 := B1.out.at_ (i := 1) (v := .int .i64 1) rfl
  have p1_2 := B1.out.at_ (i := 2) (v := .int .i64 cur.lv) rfl
  have p1_3 := B1.out.at_ (i := 3) (v := .int .u64 (u cur.c)) rfl
  have p1_4 := B1.out.at_ (i := 4) (v := .int .i64 cur.ig) rfl
  have p1_5 := B1.out.at_ (i := 5) (v := .int .i64 high.lv) rfl
  have p1_6 := B1.out.at_ (i := 6) (v := .int .u64 (u high.c)) rfl
  have p1_7 := B1.out.at_ (i := 7) (v := .int .i64 high.ig) rfl
  have k1_0 : w.heap.size < w1.heap.size := by have := B1.out.lt; omega
  go_wp2_with fail
  refine (H7.out _).mono ?_
  rintro e w2 ⟨rfl, hB⟩
  replace HB := Lib.hid (below_call (w := w) (by repeat (first | exact HB.out | refine below_alloc ?_ _ | refine Below.drew ?_ | refine below_set ?_ (by omega) _)) hB)
  have z2 : w.heap.size ≤ w2.heap.size := HB.out.size
  clear p1_1 p1_2 p1_3 p1_4 p1_5 p1_6 p1_7 k1_0
  clear hB
  go_wp2_with fail
  go_ret
  exact ⟨rfl, (by repeat (first | exact HB.out | refine below_alloc ?_ _ | refine Below.drew ?_ | refine below_set ?_ (by omega) _))⟩
set_option maxRecDepth 100000 in
set_option maxHeartbeats 4000000 in
theorem next_n_2t (l : List Sub) (b off cap k : Nat) (p : Sub) (cur high : Lab) (w : World) (he : Els w b (off + k * 8) #[.int .i64 p.par, .int .i64 p.st, .int .i64 p.cur.lv, .int .u64 (u p.cur.c), .int .i64 p.cur.ig, .int .i64 p.high.lv, .int .u64 (u p.high.c), .int .i64 p.high.ig]) (_h0 : ((k : Int) == -1) = false) (_h1 : (0 : Int) ≤ (k : Int)) (_h2 : (k : Int) < (l.length : Int)) (_h3 : (p.st != 0) = true) (_h4 : ¬ (k : Int) < -1) (_h5 : ¬ (l.length : Int) ≤ (k : Int)) (h6 : RightIs high true) (h7 : UnderIs cur high true) :
    Calls Tryd.prog 44 #[.slice (some ⟨b, off, none⟩) l.length cap, .agg #[.int .i64 k, .int .i64 2, .int .i64 cur.lv, .int .u64 (u cur.c), .int .i64 cur.ig, .int .i64 high.lv, .int .u64 (u high.c), .int .i64 high.ig]] w (fun e w' => e = .returned (.bool true) ∧ Below w.heap.size w w') := by
  have H6 := Lib.hid h6
  clear h6
  have H7 := Lib.hid h7
  clear h7
  have HB := Lib.hid (Below.refl w.heap.size w)
  go_enter Tryd.func44, Tryd.ntmps44
  have B0 := Lib.hid he
  clear he
  have p0_1 : w.cell? ⟨b, off + k * 8 + 1, none⟩ = some (.int .i64 p.st) := B0.out.at_ (i := 1) (v := .int .i64 p.st) rfl
  have k0_0 : b < w.heap.size := by have := B0.out.lt; omega
  have k0_1 : b < w.heap.size + 1 := by have := B0.out.lt; omega
  go_wp2_with fail
  refine (H6.out _).mono ?_
  rintro e w1 ⟨rfl, hB⟩
  replace HB := Lib.hid (below_call (w := w) (by repeat (first | exact HB.out | refine below_alloc ?_ _ | refine Below.drew ?_ | refine below_set ?_ (by omega) _)) hB)
  have z1 : w.heap.size ≤ w1.heap.size := HB.out.size
  have B1 : Hid (Blk w1 (w.heap.size) 41 #[.int .i64 k, .int .i64 2, .int .i64 cur.lv, .int .u64 (u cur.c), .int .i64 cur.ig, .int .i64 high.lv, .int .u64 (u high.c), .int .i64 high.ig]) := Lib.hid (Blk.after (by repeat (first | exact Blk.new' (by simp; done) | exact Blk.new' rfl | refine Blk.drew ?_ | refine Blk.alloc ?_ _)) hB)
  clear p0_1 k0_0 k0_1
  clear hB
  have p1_1 := B1.out.at_ (i := 1) (v := .int .i64 2) rfl
  have p1_2 := B1.out.at_ (i := 2) (v := .int .i64 cur.lv) rfl
  have p1_3 := B1.out.at_ (i := 3) (v := .int .u64 (u cur.c)) rfl
  have p1_4 := B1.out.at_ (i := 4) (v := .int .i64 cur.ig) rfl
  have p1_5 := B1.out.at_ (i := 5) (v := .int .i64 high.lv) rfl
  have p1_6 := B1.out.at_ (i := 6) (v := .int .u64 (u high.c)) rfl
  have p1_7 := B1.out.at_ (i := 7) (v := .int .i64 high.ig) rfl
  have k1_0 : w.heap.size < w1.heap.size := by have := B1.out.lt; omega
  go_wp2_with fail
  refine (H7.out _).mono ?_
  rintro e w2 ⟨rfl, hB⟩
  replace HB := Lib.hid (below_call (w := w) (by repeat (first | exact HB.out | refine below_alloc ?_ _ | refine Below.drew ?_ | refine below_set ?_ (by omega) _)) hB)
  have z2 : w.heap.size ≤ w2.heap.size := HB.out.size
  clear p1_1 p1_2 p1_3 p1_4 p1_5 p1_6 p1_7 k1_0
  clear hB
  go_wp2_with fail
  go_ret
  exact ⟨rfl, (by repeat (first | exact HB.out | refine below_alloc ?_ _ | refine Below.drew ?_ | refine below_set ?_ (by omega) _))⟩
set_option maxRecDepth 100000 in
set_option maxHeartbeats 4000000 in
theorem next_n_2f (l : List Sub) (b off cap k : Nat) (p : Sub) (cur high : Lab) (w : World) (he : Els w b (off + k * 8) #[.int .i64 p.par, .int .i64 p.st, .int .i64 p.cur.lv, .int .u64 (u p.cur.c), .int .i64 p.cur.ig, .int .i64 p.high.lv, .int .u64 (u p.high.c), .int .i64 p.high.ig]) (_h0 : ((k : Int) == -1) = false) (_h1 : (0 : Int) ≤ (k : Int)) (_h2 : (k : Int) < (l.length : Int)) (_h3 : (p.st != 0) = true) (_h4 : ¬ (k : Int) < -1) (_h5 : ¬ (l.length : Int) ≤ (k : Int)) (h6 : RightIs high true) (h7 : UnderIs cur high false) :
    Calls Tryd.prog 44 #[.slice (some ⟨b, off, none⟩) l.length cap, .agg #[.int .i64 k, .int .i64 2, .int .i64 cur.lv, .int .u64 (u cur.c), .int .i64 cur.ig, .int .i64 high.lv, .int .u64 (u high.c), .int .i64 high.ig]] w (fun e w' => e = .returned (.bool false) ∧ Below w.heap.size w w') := by
  have H6 := Lib.hid h6
  clear h6
  have H7 := Lib.hid h7
  clear h7
  have HB := Lib.hid (Below.refl w.heap.size w)
  go_enter Tryd.func44, Tryd.ntmps44
  have B0 := Lib.hid he
  clear he
  have p0_1 : w.cell? ⟨b, off + k * 8 + 1, none⟩ = some (.int .i64 p.st) := B0.out.at_ (i := 1) (v := .int .i64 p.st) rfl
  have k0_0 : b < w.heap.size := by have := B0.out.lt; omega
  have k0_1 : b < w.heap.size + 1 := by have := B0.out.lt; omega
  go_wp2_with fail
  refine (H6.out _).mono ?_
  rintro e w1 ⟨rfl, hB⟩
  replace HB := Lib.hid (below_call (w := w) (by repeat (first | exact HB.out | refine below_alloc ?_ _ | refine Below.drew ?_ | refine below_set ?_ (by omega) _)) hB)
  have z1 : w.heap.size ≤ w1.heap.size := HB.out.size
  have B1 : Hid (Blk w1 (w.heap.size) 41 #[.int .i64 k, .int .i64 2, .int .i64 cur.lv, .int .u64 (u cur.c), .int .i64 cur.ig, .int .i64 high.lv, .int .u64 (u high.c), .int .i64 high.ig]) := Lib.hid (Blk.after (by repeat (first | exact Blk.new' (by simp; done) | exact Blk.new' rfl | refine Blk.drew ?_ | refine Blk.alloc ?_ _)) hB)
  clear p0_1 k0_0 k0_1
  clear hB
  have p1_1 := B1.out.at_ (i := 1) (v := .int .i64 2) rfl
  have p1_2 := B1.out.at_ (i := 2) (v := .int .i64 cur.lv) rfl
  have p1_3 := B1.out.at_ (i := 3) (v := .int .u64 (u cur.c)) rfl
  have p1_4 := B1.out.at_ (i := 4) (v := .int .i64 cur.ig) rfl
  have p1_5 := B1.out.at_ (i := 5) (v := .int .i64 high.lv) rfl
  have p1_6 := B1.out.at_ (i := 6) (v := .int .u64 (u high.c)) rfl
  have p1_7 := B1.out.at_ (i := 7) (v := .int .i64 high.ig) rfl
  have k1_0 : w.heap.size < w1.heap.size := by have := B1.out.lt; omega
  go_wp2_with fail
  refine (H7.out _).mono ?_
  rintro e w2 ⟨rfl, hB⟩
  replace HB := Lib.hid (below_call (w := w) (by repeat (first | exact HB.out | refine below_alloc ?_ _ | refine Below.drew ?_ | refine below_set ?_ (by omega) _)) hB)
  have z2 : w.heap.size ≤ w2.heap.size := HB.out.size
  clear p1_1 p1_2 p1_3 p1_4 p1_5 p1_6 p1_7 k1_0
  clear hB
  go_wp2_with fail
  go_ret
  exact ⟨rfl, (by repeat (first | exact HB.out | refine below_alloc ?_ _ | refine Below.drew ?_ | refine below_set ?_ (by omega) _))⟩
end

section
open Go.RowKit

attribute [local go_sem] u_and u_or u_andNot u_add u_sub u_bit u_eq_zero u_beq

set_option maxRecDepth 100000 in
set_option maxHeartbeats 4000000 in
theorem rnext_lo (l : List Sub) (sA : Option Addr) (sc : Nat) (par : Int) (st : Int) (cur high : Lab) (w : World) (_h0 : par < -1) :
    Calls Tryd.prog 48 #[.slice sA l.length sc, .agg #[.int .i64 par, .int .i64 st, .int .i64 cur.lv, .int .u64 (u cur.c), .int .i64 cur.ig, .int .i64 high.lv, .int .u64 (u high.c), .int .i64 high.ig]] w (fun e w' => e = .returned (.bool false) ∧ Below w.heap.size w w') := by
  have HB := Lib.hid (Below.refl w.heap.size w)
  go_enter Tryd.func48, Tryd.ntmps48
  go_wp2_with fail
  go_ret
  exact ⟨rfl, (by repeat (first | exact HB.out | refine below_alloc ?_ _ | refine Below.drew ?_ | refine below_set ?_ (by omega) _))⟩
set_option maxRecDepth 100000 in
set_option maxHeartbeats 4000000 in
theorem rnext_hi (l : List Sub) (sA : Option Addr) (sc : Nat) (par : Int) (st : Int) (cur high : Lab) (w : World) (_h0 : ¬ par < -1) (_h1 : (l.length : Int) ≤ par) :
    Calls Tryd.prog 48 #[.slice sA l.length sc, .agg #[.int .i64 par, .int .i64 st, .int .i64 cur.lv, .int .u64 (u cur.c), .int .i64 cur.ig, .int .i64 high.lv, .int .u64 (u high.c), .int .i64 high.ig]] w (fun e w' => e = .returned (.bool false) ∧ Below w.heap.size w w') := by
  have HB := Lib.hid (Below.refl w.heap.size w)
  go_enter Tryd.func48, Tryd.ntmps48
  go_wp2_with fail
  go_ret
  exact ⟨rfl, (by repeat (first | exact HB.out | refine below_alloc ?_ _ | refine Below.drew ?_ | refine below_set ?_ (by omega) _))⟩
set_option maxRecDepth 100000 in
set_option maxHeartbeats 4000000 in
theorem rnext_m_bad (l : List Sub) (sA : Option Addr) (sc : Nat) (st : Int) (cur high : Lab) (w : World) (_h0 : ¬ (l.length : Int) ≤ -1) (h1 : RRightIs high false) :
    Calls Tryd.prog 48 #[.slice sA l.length sc, .agg #[.int .i64 (-1), .int .i64 st, .int .i64 cur.lv, .int .u64 (u cur.c), .int .i64 cur.ig, .int .i64 high.lv, .int .u64 (u high.c), .int .i64 high.ig]] w (fun e w' => e = .returned (.bool false) ∧ Below w.heap.size w w') := by
  have H1 := Lib.hid h1
  clear h1
  have HB := Lib.hid (Below.refl w.heap.size w)
  go_enter Tryd.func48, Tryd.ntmps48
  go_wp2_with fail
  refine (H1.out _).mono ?_
  rintro e w1 ⟨rfl, hB⟩
  replace HB := Lib.hid (below_call (w := w) (by repeat (first | exact HB.out | refine below_alloc ?_ _ | refine Below.drew ?_ | refine below_set ?_ (by omega) _)) hB)
  have z1 : w.heap.size ≤ w1.heap.size := HB.out.size
  clear hB
  go_wp2_with fail
  go_ret
  exact ⟨rfl, (by repeat (first | exact HB.out | refine below_alloc ?_ _ | refine Below.drew ?_ | refine below_set ?_ (by omega) _))⟩
set_option maxRecDepth 100000 in
set_option maxHeartbeats 4000000 in
theorem rnext_m_xl (l : List Sub) (sA : Option Addr) (sc : Nat) (st : Int) (cur high : Lab) (w : World) (_h0 : ¬ (l.length : Int) ≤ -1) (h1 : RRightIs high true) (_h2 : st < 0) :
    Calls Tryd.prog 48 #[.slice sA l.length sc, .agg #[.int .i64 (-1), .int .i64 st, .int .i64 cur.lv, .int .u64 (u cur.c), .int .i64 cur.ig, .int .i64 high.lv, .int .u64 (u high.c), .int .i64 high.ig]] w (fun e w' => e = .returned (.bool false) ∧ Below w.heap.size w w') := by
  have H1 := Lib.hid h1
  clear h1
  have HB := Lib.hid (Below.refl w.heap.size w)
  go_enter Tryd.func48, Tryd.ntmps48
  go_wp2_with fail
  refine (H1.out _).mono ?_
  rintro e w1 ⟨rfl, hB⟩
  replace HB := Lib.hid (below_call (w := w) (by repeat (first | exact HB.out | refine below_alloc ?_ _ | refine Below.drew ?_ | refine below_set ?_ (by omega) _)) hB)
  have z1 : w.heap.size ≤ w1.heap.size := HB.out.size
  have B0 : Hid (Blk w1 (w.heap.size) 41 #[.int .i64 (-1), .int .i64 st, .int .i64 cur.lv, .int .u64 (u cur.c), .int .i64 cur.ig, .int .i64 high.lv, .int .u64 (u high.c), .int .i64 high.ig]) := Lib.hid (Blk.after (by repeat (first | exact Blk.new' (by simp; done) | exact Blk.new' rfl | refine Blk.drew ?_ | refine Blk.alloc ?_ _)) hB)
  clear hB
  have p0_1 := B0.out.at_ (i := 1) (v := .int .i64 st) rfl
  have k0_0 : w.heap.size < w1.heap.size := by have := B0.out.lt; omega
  go_wp2_with fail
  go_ret
  exact ⟨rfl, (by repeat (first | exact HB.out | refine below_alloc ?_ _ | refine Below.drew ?_ | refine below_set ?_ (by omega) _))⟩
set_option maxRecDepth 100000 in
set_option maxHeartbeats 4000000 in
theorem rnext_m_xh (l : List Sub) (sA : Option Addr) (sc : Nat) (st : Int) (cur high : Lab) (w : World) (_h0 : ¬ (l.length : Int) ≤ -1) (h1 : RRightIs high true) (_h2 : ¬ st < 0) (_h3 : 2 < st) :
    Calls Tryd.prog 48 #[.slice sA l.length sc, .agg #[.int .i64 (-1), .int .i64 st, .int .i64 cur.lv, .int .u64 (u cur.c), .int .i64 cur.ig, .int .i64 high.lv, .int .u64 (u high.c), .int .i64 high.ig]] w (fun e w' => e = .returned (.bool false) ∧ Below w.heap.size w w') := by
  have H1 := Lib.hid h1
  clear h1
  have HB := Lib.hid (Below.refl w.heap.size w)
  go_enter Tryd.func48, Tryd.ntmps48
  go_wp2_with fail
  refine (H1.out _).mono ?_
  rintro e w1 ⟨rfl, hB⟩
  replace HB := Lib.hid (below_call (w := w) (by repeat (first | exact HB.out | refine below_alloc ?_ _ | refine Below.drew ?_ | refine below_set ?_ (by omega) _)) hB)
  have z1 : w.heap.size ≤ w1.heap.size := HB.out.size
  have B0 : Hid (Blk w1 (w.heap.size) 41 #[.int .i64 (-1), .int .i64 st, .int .i64 cur.lv, .int .u64 (u cur.c), .int .i64 cur.ig, .int .i64 high.lv, .int .u64 (u high.c), .int .i64 high.ig]) := Lib.hid (Blk.after (by repeat (first | exact Blk.new' (by simp; done) | exact Blk.new' rfl | refine Blk.drew ?_ | refine Blk.alloc ?_ _)) hB)
  clear hB
  have p0_1 := B0.out.at_ (i := 1) (v := .int .i64 st) rfl
  have k0_0 : w.heap.size < w1.heap.size := by have := B0.out.lt; omega
  go_wp2_with fail
  go_ret
  exact ⟨rfl, (by repeat (first | exact HB.out | refine below_alloc ?_ _ | refine Below.drew ?_ | refine below_set ?_ (by omega) _))⟩
set_option maxRecDepth 100000 in
set_option maxHeartbeats 4000000 in
theorem rnext_m_0 (l : List Sub) (sA : Option Addr) (sc : Nat) (cur high : Lab) (w : World) (_h0 : ¬ (l.length : Int) ≤ -1) (h1 : RRightIs high true) :
    Calls Tryd.prog 48 #[.slice sA l.length sc, .agg #[.int .i64 (-1), .int .i64 0, .int .i64 cur.lv, .int .u64 (u cur.c), .int .i64 cur.ig, .int .i64 high.lv, .int .u64 (u high.c), .int .i64 high.ig]] w (fun e w' => e = .returned (.bool false) ∧ Below w.heap.size w w') := by
  have H1 := Lib.hid h1
  clear h1
  have HB := Lib.hid (Below.refl w.heap.size w)
  go_enter Tryd.func48, Tryd.ntmps48
  go_wp2_with fail
  refine (H1.out _).mono ?_
  rintro e w1 ⟨rfl, hB⟩
  replace HB := Lib.hid (below_call (w := w) (by repeat (first | exact HB.out | refine below_alloc ?_ _ | refine Below.drew ?_ | refine below_set ?_ (by omega) _)) hB)
  have z1 : w.heap.size ≤ w1.heap.size := HB.out.size
  have B0 : Hid (Blk w1 (w.heap.size) 41 #[.int .i64 (-1), .int .i64 0, .int .i64 cur.lv, .int .u64 (u cur.c), .int .i64 cur.ig, .int .i64 high.lv, .int .u64 (u high.c), .int .i64 high.ig]) := Lib.hid (Blk.after (by repeat (first | exact Blk.new' (by simp; done) | exact Blk.new' rfl | refine Blk.drew ?_ | refine Blk.alloc ?_ _)) hB)
  clear hB
  have p0_0 := B0.out.at_ (i := 0) (v := .int .i64 (-1)) rfl
  have p0_1 := B0.out.at_ (i := 1) (v := .int .i64 0) rfl
  have k0_0 : w.heap.size < w1.heap.size := by have := B0.out.lt; omega
  go_wp2_with fail
  go_ret
  exact ⟨rfl, (by repeat (first | exact HB.out | refine below_alloc ?_ _ | refine Below.drew ?_ | refine below_set ?_ (by omega) _))⟩
set_option maxRecDepth 100000 in
set_option maxHeartbeats 4000000 in
theorem rnext_m_1t (l : List Sub) (sA : Option Addr) (sc : Nat) (cur high : Lab) (w : World) (_h0 : ¬ (l.length : Int) ≤ -1) (h1 : RRightIs high true) (h2 : RUnderIs cur high true) :
    Calls Tryd.prog 48 #[.slice sA l.length sc, .agg #[.int .i64 (-1), .int .i64 1, .int .i64 cur.lv, .int .u64 (u cur.c), .int .i64 cur.ig, .int .i64 high.lv, .int .u64 (u high.c), .int .i64 high.ig]] w (fun e w' => e = .returned (.bool true) ∧ Below w.heap.size w w') := by
  have H1 := Lib.hid h1
  clear h1
  have H2 := Lib.hid h2
  clear h2
  have HB := Lib.hid (Below.refl w.heap.size w)
  go_enter Tryd.func48, Tryd.ntmps48
  go_wp2_with fail
  refine (H1.out _).mono ?_
  rintro e w1 ⟨rfl, hB⟩
  replace HB := Lib.hid (below_call (w := w) (by repeat (first | exact HB.out | refine below_alloc ?_ _ | refine Below.drew ?_ | refine below_set ?_ (by omega) _)) hB)
  have z1 : w.heap.size ≤ w1.heap.size := HB.out.size
  have B0 : Hid (Blk w1 (w.heap.size) 41 #[.int .i64 (-1), .int .i64 1, .int .i64 cur.lv, .int .u64 (u cur.c), .int .i64 cur.ig, .int .i64 high.lv, .int .u64 (u high.c), .int .i64 high.ig]) := Lib.hid (Blk.after (by repeat (first | exact Blk.new' (by simp; done) | exact Blk.new' rfl | refine Blk.drew ?_ | refine Blk.alloc ?_ _)) hB)
  clear hB
  have p0_0 := B0.out.at_ (i := 0) (v := .int .i64 (-1)) rfl
  have p0_1 := B0.out.at_ (i := 1) (v := .int .i64 1) rfl
  have p0_2 := B0.out.at_ (i := 2) (v := .int .i64 cur.lv) rfl
  have p0_3 := B0.out.at_ (i := 3) (v := .int .u64 (u cur.c)) rfl
  have p0_4 := B0.out.at_ (i := 4) (v := .int .i64 cur.ig) rfl
  have p0_5 := B0.out.at_ (i := 5) (v := .int .i64 high.lv) rfl
  have p0_6 := B0.out.at_ (i := 6) (v := .int .u64 (u high.c)) rfl
  have p0_7 := B0.out.at_ (i := 7) (v := .int .i64 high.ig) rfl
  have k0_0 : w.heap.size < w1.heap.size := by have := B0.out.lt; omega
  go_wp2_with fail
  refine (H2.out _).mono ?_
  rintro e w2 ⟨rfl, hB⟩
  replace HB := Lib.hid (below_call (w := w) (by repeat (first | exact HB.out | refine below_alloc ?_ _ | refine Below.drew ?_ | refine below_set ?_ (by omega) _)) hB)
  have z2 : w.heap.size ≤ w2.heap.size := HB.out.size
  clear p0_0 p0_1 p0_2 p0_3 p0_4 p0_5 p0_6 p0_7 k0_0
  clear hB
  go_wp2_with fail
  go_ret
  exact ⟨rfl, (by repeat (first | exact HB.out | refine below_alloc ?_ _ | refine Below.drew ?_ | refine below_set ?_ (by omega) _))⟩
set_option maxRecDepth 100000 in
set_option maxHeartbeats 4000000 in
theorem rnext_m_1f (l : List Sub) (sA : Option Addr) (sc : Nat) (cur high : Lab) (w : World) (_h0 : ¬ (l.length : Int) ≤ -1) (h1 : RRightIs high true) (h2 : RUnderIs cur high false) :
    Calls Tryd.prog 48 #[.slice sA l.length sc, .agg #[.int .i64 (-1), .int .i64 1, .int .i64 cur.lv, .int .u64 (u cur.c), .int .i64 cur.ig, .int .i64 high.lv, .int .u64 (u high.c), .int .i64 high.ig]] w (fun e w' => e = .returned (.bool false) ∧ Below w.heap.size w w') := by
  have H1 := Lib.hid h1
  clear h1
  have H2 := Lib.hid h2
  clear h2
  have HB := Lib.hid (Below.refl w.heap.size w)
  go_enter Tryd.func48, Tryd.ntmps48
  go_wp2_with fail
  refine (H1.out _).mono ?_
  rintro e w1 ⟨rfl, hB⟩
  replace HB := Lib.hid (below_call (w := w) (by repeat (first | exact HB.out | refine below_alloc ?_ _ | refine Below.drew ?_ | refine below_set ?_ (by omega) _)) hB)
  have z1 : w.heap.size ≤ w1.heap.size := HB.out.size
  have B0 : Hid (Blk w1 (w.heap.size) 41 #[.int .i64 (-1), .int .i64 1, .int .i64 cur.lv, .int .u64 (u cur.c), .int .i64 cur.ig, .int .i64 high.lv, .int .u64 (u high.c), .int .i64 high.ig]) := Lib.hid (Blk.after (by repeat (first | exact Blk.new' (by simp; done) | exact Blk.new' rfl | refine Blk.drew ?_ | refine Blk.alloc ?_ _)) hB)
  clear hB
  have p0_0 := B0.out.at_ (i := 0) (v := .int .i64 (-1)) rfl
  have p0_1 := B0.out.at_ (i := 1) (v := .int .i64 1) rfl
  have p0_2 := B0.out.at_ (i := 2) (v := .int .i64 cur.lv) rfl
  have p0_3 := B0.out.at_ (i := 3) (v := .int .u64 (u cur.c)) rfl
  have p0_4 := B0.out.at_ (i := 4) (v := .int .i64 cur.ig) rfl
  have p0_5 := B0.out.at_ (i := 5) (v := .int .i64 high.lv) rfl
  have p0_6 := B0.out.at_ (i := 6) (v := .int .u64 (u high.c)) rfl
  have p0_7 := B0.out.at_ (i := 7) (v := .int .i64 high.ig) rfl
  have k0_0 : w.heap.size < w1.heap.size := by have := B0.out.lt; omega
  go_wp2_with fail
  refine (H2.out _).mono ?_
  rintro e w2 ⟨rfl, hB⟩
  replace HB := Lib.hid (below_call (w := w) (by repeat (first | exact HB.out | refine below_alloc ?_ _ | refine Below.drew ?_ | refine below_set ?_ (by omega) _)) hB)
  have z2 : w.heap.size ≤ w2.heap.size := HB.out.size
  clear p0_0 p0_1 p0_2 p0_3 p0_4 p0_5 p0_6 p0_7 k0_0
  clear hB
  go_wp2_with fail
  go_ret
  exact ⟨rfl, (by repeat (first | exact HB.out | refine below_alloc ?_ _ | refine Below.drew ?_ | refine below_set ?_ (by omega) _))⟩
set_option maxRecDepth 100000 in
set_option maxHeartbeats 4000000 in
theorem rnext_m_2t (l : List Sub) (sA : Option Addr) (sc : Nat) (cur high : Lab) (w : World) (_h0 : ¬ (l.length : Int) ≤ -1) (h1 : RRightIs high true) (h2 : RUnderIs cur high true) :
    Calls Tryd.prog 48 #[.slice sA l.length sc, .agg #[.int .i64 (-1), .int .i64 2, .int .i64 cur.lv, .int .u64 (u cur.c), .int .i64 cur.ig, .int .i64 high.lv, .int .u64 (u high.c), .int .i64 high.ig]] w (fun e w' => e = .returned (.bool true) ∧ Below w.heap.size w w') := by
  have H1 := Lib.hid h1
  clear h1
  have H2 := Lib.hid h2
  clear h2
  have HB := Lib.hid (Below.refl w.heap.size w)
  go_enter Tryd.func48, Tryd.ntmps48
  go_wp2_with fail
  refine (H1.out _).mono ?_
  rintro e w1 ⟨rfl, hB⟩
  replace HB := Lib.hid (below_call (w := w) (by repeat (first | exact HB.out | refine below_alloc ?_ _ | refine Below.drew ?_ | refine below_set ?_ (by omega) _)) hB)
  have z1 : w.heap.size ≤ w1.heap.size := HB.out.size
  have B0 : Hid (Blk w1 (w.heap.size) 41 #[.int .i64 (-1), .int .i64 2, .int .i64 cur.lv, .int .u64 (u cur.c), .int .i64 cur.ig, .int .i64 high.lv, .int .u64 (u high.c), .int .i64 high.ig]) := Lib.hid (Blk.after (by repeat (first | exact Blk.new' (by simp; done) | exact Blk.new' rfl | refine Blk.drew ?_ | refine Blk.alloc ?_ _)) hB)
  clear hB
  have p0_0 := B0.out.at_ (i := 0) (v := .int .i64 (-1)) rfl
  have p0_1 := B0.out.at_ (i := 1) (v := .int .i64 2) rfl
  have p0_2 := B0.out.at_ (i := 2) (v := .int .i64 cur.lv) rfl
  have p0_3 := B0.out.at_ (i := 3) (v := .int .u64 (u cur.c)) rfl
  have p0_4 := B0.out.at_ (i := 4) (v := .int .i64 cur.ig) rfl
  have p0_5 := B0.out.at_ (i := 5) (v := .int .i64 high.lv) rfl
  have p0_6 := B0.out.at_ (i := 6) (v := .int .u64 (u high.c)) rfl
  have p0_7 := B0.out.at_ (i := 7) (v := .int .i64 high.ig) rfl
  have k0_0 : w.heap.size < w1.heap.size := by have := B0.out.lt; omega
  go_wp2_with fail
  refine (H2.out _).mono ?_
  rintro e w2 ⟨rfl, hB⟩
  replace HB := Lib.hid (below_call (w := w) (by repeat (first | exact HB.out | refine below_alloc ?_ _ | refine Below.drew ?_ | refine below_set ?_ (by omega) _)) hB)
  have z2 : w.heap.size ≤ w2.heap.size := HB.out.size
  clear p0_0 p0_1 p0_2 p0_3 p0_4 p0_5 p0_6 p0_7 k0_0
  clear hB
  go_wp2_with fail
  go_ret
  exact ⟨rfl, (by repeat (first | exact HB.out | refine below_alloc ?_ _ | refine Below.drew ?_ | refine below_set ?_ (by omega) _))⟩
set_option maxRecDepth 100000 in
set_option maxHeartbeats 4000000 in
theorem rnext_m_2f (l : List Sub) (sA : Option Addr) (sc : Nat) (cur high : Lab) (w : World) (_h0 : ¬ (l.length : Int) ≤ -1) (h1 : RRightIs high true) (h2 : RUnderIs cur high false) :
    Calls Tryd.prog 48 #[.slice sA l.length sc, .agg #[.int .i64 (-1), .int .i64 2, .int .i64 cur.lv, .int .u64 (u cur.c), .int .i64 cur.ig, .int .i64 high.lv, .int .u64 (u high.c), .int .i64 high.ig]] w (fun e w' => e = .returned (.bool false) ∧ Below w.heap.size w w') := by
  have H1 := Lib.hid h1
  clear h1
  have H2 := Lib.hid h2
  clear h2
  have HB := Lib.hid (Below.refl w.heap.size w)
  go_enter Tryd.func48, Tryd.ntmps48
  go_wp2_with fail
  refine (H1.out _).mono ?_
  rintro e w1 ⟨rfl, hB⟩
  replace HB := Lib.hid (below_call (w := w) (by repeat (first | exact HB.out | refine below_alloc ?_ _ | refine Below.drew ?_ | refine below_set ?_ (by omega) _)) hB)
  have z1 : w.heap.size ≤ w1.heap.size := HB.out.size
  have B0 : Hid (Blk w1 (w.heap.size) 41 #[.int .i64 (-1), .int .i64 2, .int .i64 cur.lv, .int .u64 (u cur.c), .int .i64 cur.ig, .int .i64 high.lv, .int .u64 (u high.c), .int .i64 high.ig]) := Lib.hid (Blk.after (by repeat (first | exact Blk.new' (by simp; done) | exact Blk.new' rfl | refine Blk.drew ?_ | refine Blk.alloc ?_ _)) hB)
  clear hB
  have p0_0 := B0.out.at_ (i := 0) (v := .int .i64 (-1)) rfl
  have p0_1 := B0.out.at_ (i := 1) (v := .int .i64 2) rfl
  have p0_2 := B0.out.at_ (i := 2) (v := .int .i64 cur.lv) rfl
  have p0_3 := B0.out.at_ (i := 3) (v := .int .u64 (u cur.c)) rfl
  have p0_4 := B0.out.at_ (i := 4) (v := .int .i64 cur.ig) rfl
  have p0_5 := B0.out.at_ (i := 5) (v := .int .i64 high.lv) rfl
  have p0_6 := B0.out.at_ (i := 6) (v := .int .u64 (u high.c)) rfl
  have p0_7 := B0.out.at_ (i := 7) (v := .int .i64 high.ig) rfl
  have k0_0 : w.heap.size < w1.heap.size := by have := B0.out.lt; omega
  go_wp2_with fail
  refine (H2.out _).mono ?_
  rintro e w2 ⟨rfl, hB⟩
  replace HB := Lib.hid (below_call (w := w) (by repeat (first | exact HB.out | refine below_alloc ?_ _ | refine Below.drew ?_ | refine below_set ?_ (by omega) _)) hB)
  have z2 : w.heap.size ≤ w2.heap.size := HB.out.size
  clear p0_0 p0_1 p0_2 p0_3 p0_4 p0_5 p0_6 p0_7 k0_0
  clear hB
  go_wp2_with fail
  go_ret
  exact ⟨rfl, (by repeat (first | exact HB.out | refine below_alloc ?_ _ | refine Below.drew ?_ | refine below_set ?_ (by omega) _))⟩
set_option maxRecDepth 100000 in
set_option maxHeartbeats 4000000 in
theorem rnext_i_bad (l : List Sub) (b off cap k : Nat) (p : Sub) (st : Int) (cur high : Lab) (w : World) (he : Els w b (off + k * 8) #[.int .i64 p.par, .int .i64 0, .int .i64 p.cur.lv, .int .u64 (u p.cur.c), .int .i64 p.cur.ig, .int .i64 p.high.lv, .int .u64 (u p.high.c), .int .i64 p.high.ig]) (_h0 : ¬ (k : Int) < -1) (_h1 : ¬ (l.length : Int) ≤ (k : Int)) (h2 : RRightIs high false) :
    Calls Tryd.prog 48 #[.slice (some ⟨b, off, none⟩) l.length cap, .agg #[.int .i64 k, .int .i64 st, .int .i64 cur.lv, .int .u64 (u cur.c), .int .i64 cur.ig, .int .i64 high.lv, .int .u64 (u high.c), .int .i64 high.ig]] w (fun e w' => e = .returned (.bool false) ∧ Below w.heap.size w w') := by
  have H2 := Lib.hid h2
  clear h2
  have HB := Lib.hid (Below.refl w.heap.size w)
  go_enter Tryd.func48, Tryd.ntmps48
  have B0 := Lib.hid he
  clear he
  go_wp2_with fail
  refine (H2.out _).mono ?_
  rintro e w1 ⟨rfl, hB⟩
  replace HB := Lib.hid (below_call (w := w) (by repeat (first | exact HB.out | refine below_alloc ?_ _ | refine Below.drew ?_ | refine below_set ?_ (by omega) _)) hB)
  have z1 : w.heap.size ≤ w1.heap.size := HB.out.size
  clear hB
  go_wp2_with fail
  go_ret
  exact ⟨rfl, (by repeat (first | exact HB.out | refine below_alloc ?_ _ | refine Below.drew ?_ | refine below_set ?_ (by omega) _))⟩
set_option maxRecDepth 100000 in
set_option maxHeartbeats 4000000 in
theorem rnext_i_xl (l : List Sub) (b off cap k : Nat) (p : Sub) (st : Int) (cur high : Lab) (w : World) (he : Els w b (off + k * 8) #[.int .i64 p.par, .int .i64 0, .int .i64 p.cur.lv, .int .u64 (u p.cur.c), .int .i64 p.cur.ig, .int .i64 p.high.lv, .int .u64 (u p.high.c), .int .i64 p.high.ig]) (_h0 : ¬ (k : Int) < -1) (_h1 : ¬ (l.length : Int) ≤ (k : Int)) (h2 : RRightIs high true) (_h3 : st < 0) :
    Calls Tryd.prog 48 #[.slice (some ⟨b, off, none⟩) l.length cap, .agg #[.int .i64 k, .int .i64 st, .int .i64 cur.lv, .int .u64 (u cur.c), .int .i64 cur.ig, .int .i64 high.lv, .int .u64 (u high.c), .int .i64 high.ig]] w (fun e w' => e = .returned (.bool false) ∧ Below w.heap.size w w') := by
  have H2 := Lib.hid h2
  clear h2
  have HB := Lib.hid (Below.refl w.heap.size w)
  go_enter Tryd.func48, Tryd.ntmps48
  have B0 := Lib.hid he
  clear he
  go_wp2_with fail
  refine (H2.out _).mono ?_
  rintro e w1 ⟨rfl, hB⟩
  replace HB := Lib.hid (below_call (w := w) (by repeat (first | exact HB.out | refine below_alloc ?_ _ | refine Below.drew ?_ | refine below_set ?_ (by omega) _)) hB)
  have z1 : w.heap.size ≤ w1.heap.size := HB.out.size
  have B1 : Hid (Blk w1 (w.heap.size) 41 #[.int .i64 k, .int .i64 st, .int .i64 cur.lv, .int .u64 (u cur.c), .int .i64 cur.ig, .int .i64 high.lv, .int .u64 (u high.c), .int .i64 high.ig]) := Lib.hid (Blk.after (by repeat (first | exact Blk.new' (by simp; done) | exact Blk.new' rfl | refine Blk.drew ?_ | refine Blk.alloc ?_ _)) hB)
  clear hB
  have p1_1 := B1.out.at_ (i := 1) (v := .int .i64 st) rfl
  have k1_0 : w.heap.size < w1.heap.size := by have := B1.out.lt; omega
  go_wp2_with fail
  go_ret
  exact ⟨rfl, (by repeat (first | exact HB.out | refine below_alloc ?_ _ | refine Below.drew ?_ | refine below_set ?_ (by omega) _))⟩
set_option maxRecDepth 100000 in
set_option maxHeartbeats 4000000 in
theorem rnext_i_xh (l : List Sub) (b off cap k : Nat) (p : Sub) (st : Int) (cur high : Lab) (w : World) (he : Els w b (off + k * 8) #[.int .i64 p.par, .int .i64 0, .int .i64 p.cur.lv, .int .u64 (u p.cur.c), .int .i64 p.cur.ig, .int .i64 p.high.lv, .int .u64 (u p.high.c), .int .i64 p.high.ig]) (_h0 : ¬ (k : Int) < -1) (_h1 : ¬ (l.length : Int) ≤ (k : Int)) (h2 : RRightIs high true) (_h3 : ¬ st < 0) (_h4 : 2 < st) :
    Calls Tryd.prog 48 #[.slice (some ⟨b, off, none⟩) l.length cap, .agg #[.int .i64 k, .int .i64 st, .int .i64 cur.lv, .int .u64 (u cur.c), .int .i64 cur.ig, .int .i64 high.lv, .int .u64 (u high.c), .int .i64 high.ig]] w (fun e w' => e = .returned (.bool false) ∧ Below w.heap.size w w') := by
  have H2 := Lib.hid h2
  clear h2
  have HB := Lib.hid (Below.refl w.heap.size w)
  go_enter Tryd.func48, Tryd.ntmps48
  have B0 := Lib.hid he
  clear he
  go_wp2_with fail
  refine (H2.out _).mono ?_
  rintro e w1 ⟨rfl, hB⟩
  replace HB := Lib.hid (below_call (w := w) (by repeat (first | exact HB.out | refine below_alloc ?_ _ | refine Below.drew ?_ | refine below_set ?_ (by omega) _)) hB)
  have z1 : w.heap.size ≤ w1.heap.size := HB.out.size
  have B1 : Hid (Blk w1 (w.heap.size) 41 #[.int .i64 k, .int .i64 st, .int .i64 cur.lv, .int .u64 (u cur.c), .int .i64 cur.ig, .int .i64 high.lv, .int .u64 (u high.c), .int .i64 high.ig]) := Lib.hid (Blk.after (by repeat (first | exact Blk.new' (by simp; done) | exact Blk.new' rfl | refine Blk.drew ?_ | refine Blk.alloc ?_ _)) hB)
  clear hB
  have p1_1 := B1.out.at_ (i := 1) (v := .int .i64 st) rfl
  have k1_0 : w.heap.size < w1.heap.size := by have := B1.out.lt; omega
  go_wp2_with fail
  go_ret
  exact ⟨rfl, (by repeat (first | exact HB.out | refine below_alloc ?_ _ | refine Below.drew ?_ | refine below_set ?_ (by omega) _))⟩
set_option maxRecDepth 100000 in
set_option maxHeartbeats 4000000 in
theorem rnext_i_0t (l : List Sub) (b off cap k : Nat) (p : Sub) (cur high : Lab) (w : World) (he : Els w b (off + k * 8) #[.int .i64 p.par, .int .i64 0, .int .i64 p.cur.lv, .int .u64 (u p.cur.c), .int .i64 p.cur.ig, .int .i64 p.high.lv, .int .u64 (u p.high.c), .int .i64 p.high.ig]) (_h0 : ¬ (k : Int) < -1) (_h1 : ¬ (l.length : Int) ≤ (k : Int)) (h2 : RRightIs high true) (_h3 : (0 : Int) ≤ (k : Int)) (_h4 : ∀ W, (binOp .eql 25 (.agg #[.int .i64 cur.lv, .int .u64 (u cur.c), .int .i64 cur.ig]) (.agg #[.int .i64 0, .int .u64 0, .int .i64 0])).run Tryd.prog W = .ok (.bool true) W) :
    Calls Tryd.prog 48 #[.slice (some ⟨b, off, none⟩) l.length cap, .agg #[.int .i64 k, .int .i64 0, .int .i64 cur.lv, .int .u64 (u cur.c), .int .i64 cur.ig, .int .i64 high.lv, .int .u64 (u high.c), .int .i64 high.ig]] w (fun e w' => e = .returned (.bool true) ∧ Below w.heap.size w w') := by
  have H2 := Lib.hid h2
  clear h2
  have HB := Lib.hid (Below.refl w.heap.size w)
  go_enter Tryd.func48, Tryd.ntmps48
  have B0 := Lib.hid he
  clear he
  go_wp2_with fail
  refine (H2.out _).mono ?_
  rintro e w1 ⟨rfl, hB⟩
  replace HB := Lib.hid (below_call (w := w) (by repeat (first | exact HB.out | refine below_alloc ?_ _ | refine Below.drew ?_ | refine below_set ?_ (by omega) _)) hB)
  have z1 : w.heap.size ≤ w1.heap.size := HB.out.size
  have B1 : Hid (Blk w1 (w.heap.size) 41 #[.int .i64 k, .int .i64 0, .int .i64 cur.lv, .int .u64 (u cur.c), .int .i64 cur.ig, .int .i64 high.lv, .int .u64 (u high.c), .int .i64 high.ig]) := Lib.hid (Blk.after (by repeat (first | exact Blk.new' (by simp; done) | exact Blk.new' rfl | refine Blk.drew ?_ | refine Blk.alloc ?_ _)) hB)
  clear hB
  have p1_0 := B1.out.at_ (i := 0) (v := .int .i64 k) rfl
  have p1_1 := B1.out.at_ (i := 1) (v := .int .i64 0) rfl
  have p1_2 := B1.out.at_ (i := 2) (v := .int .i64 cur.lv) rfl
  have p1_3 := B1.out.at_ (i := 3) (v := .int .u64 (u cur.c)) rfl
  have p1_4 := B1.out.at_ (i := 4) (v := .int .i64 cur.ig) rfl
  have k1_0 : w.heap.size < w1.heap.size := by have := B1.out.lt; omega
  go_wp2_with fail
  go_ret
  exact ⟨rfl, (by repeat (first | exact HB.out | refine below_alloc ?_ _ | refine Below.drew ?_ | refine below_set ?_ (by omega) _))⟩
set_option maxRecDepth 100000 in
set_option maxHeartbeats 4000000 in
theorem rnext_i_0f (l : List Sub) (b off cap k : Nat) (p : Sub) (cur high : Lab) (w : World) (he : Els w b (off + k * 8) #[.int .i64 p.par, .int .i64 0, .int .i64 p.cur.lv, .int .u64 (u p.cur.c), .int .i64 p.cur.ig, .int .i64 p.high.lv, .int .u64 (u p.high.c), .int .i64 p.high.ig]) (_h0 : ¬ (k : Int) < -1) (_h1 : ¬ (l.length : Int) ≤ (k : Int)) (h2 : RRightIs high true) (_h3 : (0 : Int) ≤ (k : Int)) (_h4 : ∀ W, (binOp .eql 25 (.agg #[.int .i64 cur.lv, .int .u64 (u cur.c), .int .i64 cur.ig]) (.agg #[.int .i64 0, .int .u64 0, .int .i64 0])).run Tryd.prog W = .ok (.bool false) W) :
    Calls Tryd.prog 48 #[.slice (some ⟨b, off, none⟩) l.length cap, .agg #[.int .i64 k, .int .i64 0, .int .i64 cur.lv, .int .u64 (u cur.c), .int .i64 cur.ig, .int .i64 high.lv, .int .u64 (u high.c), .int .i64 high.ig]] w (fun e w' => e = .returned (.bool false) ∧ Below w.heap.size w w') := by
  have H2 := Lib.hid h2
  clear h2
  have HB := Lib.hid (Below.refl w.heap.size w)
  go_enter Tryd.func48, Tryd.ntmps48
  have B0 := Lib.hid he
  clear he
  go_wp2_with fail
  refine (H2.out _).mono ?_
  rintro e w1 ⟨rfl, hB⟩
  replace HB := Lib.hid (below_call (w := w) (by repeat (first | exact HB.out | refine below_alloc ?_ _ | refine Below.drew ?_ | refine below_set ?_ (by omega) _)) hB)
  have z1 : w.heap.size ≤ w1.heap.size := HB.out.size
  have B1 : Hid (Blk w1 (w.heap.size) 41 #[.int .i64 k, .int .i64 0, .int .i64 cur.lv, .int .u64 (u cur.c), .int .i64 cur.ig, .int .i64 high.lv, .int .u64 (u high.c), .int .i64 high.ig]) := Lib.hid (Blk.after (by repeat (first | exact Blk.new' (by simp; done) | exact Blk.new' rfl | refine Blk.drew ?_ | refine Blk.alloc ?_ _)) hB)
  clear hB
  have p1_0 := B1.out.at_ (i := 0) (v := .int .i64 k) rfl
  have p1_1 := B1.out.at_ (i := 1) (v := .int .i64 0) rfl
  have p1_2 := B1.out.at_ (i := 2) (v := .int .i64 cur.lv) rfl
  have p1_3 := B1.out.at_ (i := 3) (v := .int .u64 (u cur.c)) rfl
  have p1_4 := B1.out.at_ (i := 4) (v := .int .i64 cur.ig) rfl
  have k1_0 : w.heap.size < w1.heap.size := by have := B1.out.lt; omega
  go_wp2_with fail
  go_ret
  exact ⟨rfl, (by repeat (first | exact HB.out | refine below_alloc ?_ _ | refine Below.drew ?_ | refine below_set ?_ (by omega) _))⟩
set_option maxRecDepth 100000 in
set_option maxHeartbeats 4000000 in
theorem rnext_i_1 (l : List Sub) (b off cap k : Nat) (p : Sub) (cur high : Lab) (w : World) (he : Els w b (off + k * 8) #[.int .i64 p.par, .int .i64 0, .int .i64 p.cur.lv, .int .u64 (u p.cur.c), .int .i64 p.cur.ig, .int .i64 p.high.lv, .int .u64 (u p.high.c), .int .i64 p.high.ig]) (_h0 : ¬ (k : Int) < -1) (_h1 : ¬ (l.length : Int) ≤ (k : Int)) (h2 : RRightIs high true) (_h3 : ¬ (k : Int) < 0) :
    Calls Tryd.prog 48 #[.slice (some ⟨b, off, none⟩) l.length cap, .agg #[.int .i64 k, .int .i64 1, .int .i64 cur.lv, .int .u64 (u cur.c), .int .i64 cur.ig, .int .i64 high.lv, .int .u64 (u high.c), .int .i64 high.ig]] w (fun e w' => e = .returned (.bool false) ∧ Below w.heap.size w w') := by
  have H2 := Lib.hid h2
  clear h2
  have HB := Lib.hid (Below.refl w.heap.size w)
  go_enter Tryd.func48, Tryd.ntmps48
  have B0 := Lib.hid he
  clear he
  go_wp2_with fail
  refine (H2.out _).mono ?_
  rintro e w1 ⟨rfl, hB⟩
  replace HB := Lib.hid (below_call (w := w) (by repeat (first | exact HB.out | refine below_alloc ?_ _ | refine Below.drew ?_ | refine below_set ?_ (by omega) _)) hB)
  have z1 : w.heap.size ≤ w1.heap.size := HB.out.size
  replace B0 : Hid (Els w1 (b) (off + k * 8) #[.int .i64 p.par, .int .i64 0, .int .i64 p.cur.lv, .int .u64 (u p.cur.c), .int .i64 p.cur.ig, .int .i64 p.high.lv, .int .u64 (u p.high.c), .int .i64 p.high.ig]) := Lib.hid (Els.after (by repeat (first | exact B0.out | refine Els.drew ?_ | refine Els.alloc ?_ _)) hB)
  have B1 : Hid (Blk w1 (w.heap.size) 41 #[.int .i64 k, .int .i64 1, .int .i64 cur.lv, .int .u64 (u cur.c), .int .i64 cur.ig, .int .i64 high.lv, .int .u64 (u high.c), .int .i64 high.ig]) := Lib.hid (Blk.after (by repeat (first | exact Blk.new' (by simp; done) | exact Blk.new' rfl | refine Blk.drew ?_ | refine Blk.alloc ?_ _)) hB)
  clear hB
  have p0_1 : w1.cell? ⟨b, off + k * 8 + 1, none⟩ = some (.int .i64 0) := B0.out.at_ (i := 1) (v := .int .i64 0) rfl
  have k0_0 : b < w1.heap.size := by have := B0.out.lt; omega
  have p1_0 := B1.out.at_ (i := 0) (v := .int .i64 k) rfl
  have p1_1 := B1.out.at_ (i := 1) (v := .int .i64 1) rfl
  have k1_0 : w.heap.size < w1.heap.size := by have := B1.out.lt; omega
  go_wp2_with fail
  go_ret
  exact ⟨rfl, (by repeat (first | exact HB.out | refine below_alloc ?_ _ | refine Below.drew ?_ | refine below_set ?_ (by omega) _))⟩
set_option maxRecDepth 100000 in
set_option maxHeartbeats 4000000 in
theorem rnext_i_2 (l : List Sub) (b off cap k : Nat) (p : Sub) (cur high : Lab) (w : World) (he : Els w b (off + k * 8) #[.int .i64 p.par, .int .i64 0, .int .i64 p.cur.lv, .int .u64 (u p.cur.c), .int .i64 p.cur.ig, .int .i64 p.high.lv, .int .u64 (u p.high.c), .int .i64 p.high.ig]) (_h0 : ¬ (k : Int) < -1) (_h1 : ¬ (l.length : Int) ≤ (k : Int)) (h2 : RRightIs high true) (_h3 : ¬ (k : Int) < 0) :
    Calls Tryd.prog 48 #[.slice (some ⟨b, off, none⟩) l.length cap, .agg #[.int .i64 k, .int .i64 2, .int .i64 cur.lv, .int .u64 (u cur.c), .int .i64 cur.ig, .int .i64 high.lv, .int .u64 (u high.c), .int .i64 high.ig]] w (fun e w' => e = .returned (.bool false) ∧ Below w.heap.size w w') := by
  have H2 := Lib.hid h2
  clear h2
  have HB := Lib.hid (Below.refl w.heap.size w)
  go_enter Tryd.func48, Tryd.ntmps48
  have B0 := Lib.hid he
  clear he
  go_wp2_with fail
  refine (H2.out _).mono ?_
  rintro e w1 ⟨rfl, hB⟩
  replace HB := Lib.hid (below_call (w := w) (by repeat (first | exact HB.out | refine below_alloc ?_ _ | refine Below.drew ?_ | refine below_set ?_ (by omega) _)) hB)
  have z1 : w.heap.size ≤ w1.heap.size := HB.out.size
  replace B0 : Hid (Els w1 (b) (off + k * 8) #[.int .i64 p.par, .int .i64 0, .int .i64 p.cur.lv, .int .u64 (u p.cur.c), .int .i64 p.cur.ig, .int .i64 p.high.lv, .int .u64 (u p.high.c), .int .i64 p.high.ig]) := Lib.hid (Els.after (by repeat (first | exact B0.out | refine Els.drew ?_ | refine Els.alloc ?_ _)) hB)
  have B1 : Hid (Blk w1 (w.heap.size) 41 #[.int .i64 k, .int .i64 2, .int .i64 cur.lv, .int .u64 (u cur.c), .int .i64 cur.ig, .int .i64 high.lv, .int .u64 (u high.c), .int .i64 high.ig]) := Lib.hid (Blk.after (by repeat (first | exact Blk.new' (by simp; done) | exact Blk.new' rfl | refine Blk.drew ?_ | refine Blk.alloc ?_ _)) hB)
  clear hB
  have p0_1 : w1.cell? ⟨b, off + k * 8 + 1, none⟩ = some (.int .i64 0) := B0.out.at_ (i := 1) (v := .int .i64 0) rfl
  have k0_0 : b < w1.heap.size := by have := B0.out.lt; omega
  have p1_0 := B1.out.at_ (i := 0) (v := .int .i64 k) rfl
  have p1_1 := B1.out.at_ (i := 1) (v := .int .i64 2) rfl
  have k1_0 : w.heap.size < w1.heap.size := by have := B1.out.lt; omega
  go_wp2_with fail
  go_ret
  exact ⟨rfl, (by repeat (first | exact HB.out | refine below_alloc ?_ _ | refine Below.drew ?_ | refine below_set ?_ (by omega) _))⟩
set_option maxRecDepth 100000 in
set_option maxHeartbeats 4000000 in
theorem rnext_n_bad (l : List Sub) (b off cap k : Nat) (p : Sub) (st : Int) (cur high : Lab) (w : World) (he : Els w b (off + k * 8) #[.int .i64 p.par, .int .i64 p.st, .int .i64 p.cur.lv, .int .u64 (u p.cur.c), .int .i64 p.cur.ig, .int .i64 p.high.lv, .int .u64 (u p.high.c), .int .i64 p.high.ig]) (_h0 : ¬ (k : Int) < -1) (_h1 : ¬ (l.length : Int) ≤ (k : Int)) (h2 : RRightIs high false) :
    Calls Tryd.prog 48 #[.slice (some ⟨b, off, none⟩) l.length cap, .agg #[.int .i64 k, .int .i64 st, .int .i64 cur.lv, .int .u64 (u cur.c), .int .i64 cur.ig, .int .i64 high.lv, .int .u64 (u high.c), .int .i64 high.ig]] w (fun e w' => e = .returned (.bool false) ∧ Below w.heap.size w w') := by
  have H2 := Lib.hid h2
  clear h2
  have HB := Lib.hid (Below.refl w.heap.size w)
  go_enter Tryd.func48, Tryd.ntmps48
  have B0 := Lib.hid he
  clear he
  go_wp2_with fail
  refine (H2.out _).mono ?_
  rintro e w1 ⟨rfl, hB⟩
  replace HB := Lib.hid (below_call (w := w) (by repeat (first | exact HB.out | refine below_alloc ?_ _ | refine Below.drew ?_ | refine below_set ?_ (by omega) _)) hB)
  have z1 : w.heap.size ≤ w1.heap.size := HB.out.size
  clear hB
  go_wp2_with fail
  go_ret
  exact ⟨rfl, (by repeat (first | exact HB.out | refine below_alloc ?_ _ | refine Below.drew ?_ | refine below_set ?_ (by omega) _))⟩
set_option maxRecDepth 100000 in
set_option maxHeartbeats 4000000 in
theorem rnext_n_xl (l : List Sub) (b off cap k : Nat) (p : Sub) (st : Int) (cur high : Lab) (w : World) (he : Els w b (off + k * 8) #[.int .i64 p.par, .int .i64 p.st, .int .i64 p.cur.lv, .int .u64 (u p.cur.c), .int .i64 p.cur.ig, .int .i64 p.high.lv, .int .u64 (u p.high.c), .int .i64 p.high.ig]) (_h0 : ¬ (k : Int) < -1) (_h1 : ¬ (l.length : Int) ≤ (k : Int)) (h2 : RRightIs high true) (_h3 : st < 0) :
    Calls Tryd.prog 48 #[.slice (some ⟨b, off, none⟩) l.length cap, .agg #[.int .i64 k, .int .i64 st, .int .i64 cur.lv, .int .u64 (u cur.c), .int .i64 cur.ig, .int .i64 high.lv, .int .u64 (u high.c), .int .i64 high.ig]] w (fun e w' => e = .returned (.bool false) ∧ Below w.heap.size w w') := by
  have H2 := Lib.hid h2
  clear h2
  have HB := Lib.hid (Below.refl w.heap.size w)
  go_enter Tryd.func48, Tryd.ntmps48
  have B0 := Lib.hid he
  clear he
  go_wp2_with fail
  refine (H2.out _).mono ?_
  rintro e w1 ⟨rfl, hB⟩
  replace HB := Lib.hid (below_call (w := w) (by repeat (first | exact HB.out | refine below_alloc ?_ _ | refine Below.drew ?_ | refine below_set ?_ (by omega) _)) hB)
  have z1 : w.heap.size ≤ w1.heap.size := HB.out.size
  have B1 : Hid (Blk w1 (w.heap.size) 41 #[.int .i64 k, .int .i64 st, .int .i64 cur.lv, .int .u64 (u cur.c), .int .i64 cur.ig, .int .i64 high.lv, .int .u64 (u high.c), .int .i64 high.ig]) := Lib.hid (Blk.after (by repeat (first | exact Blk.new' (by simp; done) | exact Blk.new' rfl | refine Blk.drew ?_ | refine Blk.alloc ?_ _)) hB)
  clear hB
  have p1_1 := B1.out.at_ (i := 1) (v := .int .i64 st) rfl
  have k1_0 : w.heap.size < w1.heap.size := by have := B1.out.lt; omega
  go_wp2_with fail
  go_ret
  exact ⟨rfl, (by repeat (first | exact HB.out | refine below_alloc ?_ _ | refine Below.drew ?_ | refine below_set ?_ (by omega) _))⟩
set_option maxRecDepth 100000 in
set_option maxHeartbeats 4000000 in
theorem rnext_n_xh (l : List Sub) (b off cap k : Nat) (p : Sub) (st : Int) (cur high : Lab) (w : World) (he : Els w b (off + k * 8) #[.int .i64 p.par, .int .i64 p.st, .int .i64 p.cur.lv, .int .u64 (u p.cur.c), .int .i64 p.cur.ig, .int .i64 p.high.lv, .int .u64 (u p.high.c), .int .i64 p.high.ig]) (_h0 : ¬ (k : Int) < -1) (_h1 : ¬ (l.length : Int) ≤ (k : Int)) (h2 : RRightIs high true) (_h3 : ¬ st < 0) (_h4 : 2 < st) :
    Calls Tryd.prog 48 #[.slice (some ⟨b, off, none⟩) l.length cap, .agg #[.int .i64 k, .int .i64 st, .int .i64 cur.lv, .int .u64 (u cur.c), .int .i64 cur.ig, .int .i64 high.lv, .int .u64 (u high.c), .int .i64 high.ig]] w (fun e w' => e = .returned (.bool false) ∧ Below w.heap.size w w') := by
  have H2 := Lib.hid h2
  clear h2
  have HB := Lib.hid (Below.refl w.heap.size w)
  go_enter Tryd.func48, Tryd.ntmps48
  have B0 := Lib.hid he
  clear he
  go_wp2_with fail
  refine (H2.out _).mono ?_
  rintro e w1 ⟨rfl, hB⟩
  replace HB := Lib.hid (below_call (w := w) (by repeat (first | exact HB.out | refine below_alloc ?_ _ | refine Below.drew ?_ | refine below_set ?_ (by omega) _)) hB)
  have z1 : w.heap.size ≤ w1.heap.size := HB.out.size
  have B1 : Hid (Blk w1 (w.heap.size) 41 #[.int .i64 k, .int .i64 st, .int .i64 cur.lv, .int .u64 (u cur.c), .int .i64 cur.ig, .int .i64 high.lv, .int .u64 (u high.c), .int .i64 high.ig]) := Lib.hid (Blk.after (by repeat (first | exact Blk.new' (by simp; done) | exact Blk.new' rfl | refine Blk.drew ?_ | refine Blk.alloc ?_ _)) hB)
  clear hB
  have p1_1 := B1.out.at_ (i := 1) (v := .int .i64 st) rfl
  have k1_0 : w.heap.size < w1.heap.size := by have := B1.out.lt; omega
  go_wp2_with fail
  go_ret
  exact ⟨rfl, (by repeat (first | exact HB.out | refine below_alloc ?_ _ | refine Below.drew ?_ | refine below_set ?_ (by omega) _))⟩
set_option maxRecDepth 100000 in
set_option maxHeartbeats 4000000 in
theorem rnext_n_0t (l : List Sub) (b off cap k : Nat) (p : Sub) (cur high : Lab) (w : World) (he : Els w b (off + k * 8) #[.int .i64 p.par, .int .i64 p.st, .int .i64 p.cur.lv, .int .u64 (u p.cur.c), .int .i64 p.cur.ig, .int .i64 p.high.lv, .int .u64 (u p.high.c), .int .i64 p.high.ig]) (_h0 : ¬ (k : Int) < -1) (_h1 : ¬ (l.length : Int) ≤ (k : Int)) (h2 : RRightIs high true) (_h3 : (0 : Int) ≤ (k : Int)) (_h4 : ∀ W, (binOp .eql 25 (.agg #[.int .i64 cur.lv, .int .u64 (u cur.c), .int .i64 cur.ig]) (.agg #[.int .i64 0, .int .u64 0, .int .i64 0])).run Tryd.prog W = .ok (.bool true) W) :
    Calls Tryd.prog 48 #[.slice (some ⟨b, off, none⟩) l.length cap, .agg #[.int .i64 k, .int .i64 0, .int .i64 cur.lv, .int .u64 (u cur.c), .int .i64 cur.ig, .int .i64 high.lv, .int .u64 (u high.c), .int .i64 high.ig]] w (fun e w' => e = .returned (.bool true) ∧ Below w.heap.size w w') := by
  have H2 := Lib.hid h2
  clear h2
  have HB := Lib.hid (Below.refl w.heap.size w)
  go_enter Tryd.func48, Tryd.ntmps48
  have B0 := Lib.hid he
  clear he
  go_wp2_with fail
  refine (H2.out _).mono ?_
  rintro e w1 ⟨rfl, hB⟩
  replace HB := Lib.hid (below_call (w := w) (by repeat (first | exact HB.out | refine below_alloc ?_ _ | refine Below.drew ?_ | refine below_set ?_ (by omega) _)) hB)
  have z1 : w.heap.size ≤ w1.heap.size := HB.out.size
  have B1 : Hid (Blk w1 (w.heap.size) 41 #[.int .i64 k, .int .i64 0, .int .i64 cur.lv, .int .u64 (u cur.c), .int .i64 cur.ig, .int .i64 high.lv, .int .u64 (u high.c), .int .i64 high.ig]) := Lib.hid (Blk.after (by repeat (first | exact Blk.new' (by simp; done) | exact Blk.new' rfl | refine Blk.drew ?_ | refine Blk.alloc ?_ _)) hB)
  clear hB
  have p1_0 := B1.out.at_ (i := 0) (v := .int .i64 k) rfl
  have p1_1 := B1.out.at_ (i := 1) (v := .int .i64 0) rfl
  have p1_2 := B1.out.at_ (i := 2) (v := .int .i64 cur.lv) rfl
  have p1_3 := B1.out.at_ (i := 3) (v := .int .u64 (u cur.c)) rfl
  have p1_4 := B1.out.at_ (i := 4) (v := .int .i64 cur.ig) rfl
  have k1_0 : w.heap.size < w1.heap.size := by have := B1.out.lt; omega
  go_wp2_with fail
  go_ret
  exact ⟨rfl, (by repeat (first | exact HB.out | refine below_alloc ?_ _ | refine Below.drew ?_ | refine below_set ?_ (by omega) _))⟩
set_option maxRecDepth 100000 in
set_option maxHeartbeats 4000000 in
theorem rnext_n_0f (l : List Sub) (b off cap k : Nat) (p : Sub) (cur high : Lab) (w : World) (he : Els w b (off + k * 8) #[.int .i64 p.par, .int .i64 p.st, .int .i64 p.cur.lv, .int .u64 (u p.cur.c), .int .i64 p.cur.ig, .int .i64 p.high.lv, .int .u64 (u p.high.c), .int .i64 p.high.ig]) (_h0 : ¬ (k : Int) < -1) (_h1 : ¬ (l.length : Int) ≤ (k : Int)) (h2 : RRightIs high true) (_h3 : (0 : Int) ≤ (k : Int)) (_h4 : ∀ W, (binOp .eql 25 (.agg #[.int .i64 cur.lv, .int .u64 (u cur.c), .int .i64 cur.ig]) (.agg #[.int .i64 0, .int .u64 0, .int .i64 0])).run Tryd.prog W = .ok (.bool false) W) :
    Calls Tryd.prog 48 #[.slice (some ⟨b, off, none⟩) l.length cap, .agg #[.int .i64 k, .int .i64 0, .int .i64 cur.lv, .int .u64 (u cur.c), .int .i64 cur.ig, .int .i64 high.lv, .int .u64 (u high.c), .int .i64 high.ig]] w (fun e w' => e = .returned (.bool false) ∧ Below w.heap.size w w') := by
  have H2 := Lib.hid h2
  clear h2
  have HB := Lib.hid (Below.refl w.heap.size w)
  go_enter Tryd.func48, Tryd.ntmps48
  have B0 := Lib.hid he
  clear he
  go_wp2_with fail
  refine (H2.out _).mono ?_
  rintro e w1 ⟨rfl, hB⟩
  replace HB := Lib.hid (below_call (w := w) (by repeat (first | exact HB.out | refine below_alloc ?_ _ | refine Below.drew ?_ | refine below_set ?_ (by omega) _)) hB)
  have z1 : w.heap.size ≤ w1.heap.size := HB.out.size
  have B1 : Hid (Blk w1 (w.heap.size) 41 #[.int .i64 k, .int .i64 0, .int .i64 cur.lv, .int .u64 (u cur.c), .int .i64 cur.ig, .int .i64 high.lv, .int .u64 (u high.c), .int .i64 high.ig]) := Lib.hid (Blk.after (by repeat (first | exact Blk.new' (by simp; done) | exact Blk.new' rfl | refine Blk.drew ?_ | refine Blk.alloc ?_ _)) hB)
  clear hB
  have p1_0 := B1.out.at_ (i := 0) (v := .int .i64 k) rfl
  have p1_1 := B1.out.at_ (i := 1) (v := .int .i64 0) rfl
  have p1_2 := B1.out.at_ (i := 2) (v := .int .i64 cur.lv) rfl
  have p1_3 := B1.out.at_ (i := 3) (v := .int .u64 (u cur.c)) rfl
  have p1_4 := B1.out.at_ (i := 4) (v := .int .i64 cur.ig) rfl
  have k1_0 : w.heap.size < w1.heap.size := by have := B1.out.lt; omega
  go_wp2_with fail
  go_ret
  exact ⟨rfl, (by repeat (first | exact HB.out | refine below_alloc ?_ _ | refine Below.drew ?_ | refine below_set ?_ (by omega) _))⟩
set_option maxRecDepth 100000 in
set_option maxHeartbeats 4000000 in
theorem rnext_n_1t (l : List Sub) (b off cap k : Nat) (p : Sub) (cur high : Lab) (w : World) (he : Els w b (off + k * 8) #[.int .i64 p.par, .int .i64 p.st, .int .i64 p.cur.lv, .int .u64 (u p.cur.c), .int .i64 p.cur.ig, .int .i64 p.high.lv, .int .u64 (u p.high.c), .int .i64 p.high.ig]) (_h0 : ¬ (k : Int) < -1) (_h1 : ¬ (l.length : Int) ≤ (k : Int)) (h2 : RRightIs high true) (_h3 : ¬ (k : Int) < 0) (_h4 : (p.st != 0) = true) (h5 : RUnderIs cur high true) :
    Calls Tryd.prog 48 #[.slice (some ⟨b, off, none⟩) l.length cap, .agg #[.int .i64 k, .int .i64 1, .int .i64 cur.lv, .int .u64 (u cur.c), .int .i64 cur.ig, .int .i64 high.lv, .int .u64 (u high.c), .int .i64 high.ig]] w (fun e w' => e = .returned (.bool true) ∧ Below w.heap.size w w') := by
  have H2 := Lib.hid h2
  clear h2
  have H5 := Lib.hid h5
  clear h5
  have HB := Lib.hid (Below.refl w.heap.size w)
  go_enter Tryd.func48, Tryd.ntmps48
  have B0 := Lib.hid he
  clear he
  go_wp2_with fail
  refine (H2.out _).mono ?_
  rintro e w1 ⟨rfl, hB⟩
  replace HB := Lib.hid (below_call (w := w) (by repeat (first | exact HB.out | refine below_alloc ?_ _ | refine Below.drew ?_ | refine below_set ?_ (by omega) _)) hB)
  have z1 : w.heap.size ≤ w1.heap.size := HB.out.size
  replace B0 : Hid (Els w1 (b) (off + k * 8) #[.int .i64 p.par, .int .i64 p.st, .int .i64 p.cur.lv, .int .u64 (u p.cur.c), .int .i64 p.cur.ig, .int .i64 p.high.lv, .int .u64 (u p.high.c), .int .i64 p.high.ig]) := Lib.hid (Els.after (by repeat (first | exact B0.out | refine Els.drew ?_ | refine Els.alloc ?_ _)) hB)
  have B1 : Hid (Blk w1 (w.heap.size) 41 #[.int .i64 k, .int .i64 1, .int .i64 cur.lv, .int .u64 (u cur.c), .int .i64 cur.ig, .int .i64 high.lv, .int .u64 (u high.c), .int .i64 high.ig]) := Lib.hid (Blk.after (by repeat (first | exact Blk.new' (by simp; done) | exact Blk.new' rfl | refine Blk.drew ?_ | refine Blk.alloc ?_ _)) hB)
  clear hB
  have p0_1 : w1.cell? ⟨b, off + k * 8 + 1, none⟩ = some (.int .i64 p.st) := B0.out.at_ (i := 1) (v := .int .i64 p.st) rfl
  have k0_0 : b < w1.heap.size := by have := B0.out.lt; omega
  have p1_0 := B1.out.at_ (i := 0) (v := .int .i64 k) rfl
  have p1_1 := B1.out.at_ (i := 1) (v := .int .i64 1) rfl
  have p1_2 := B1.out.at_ (i := 2) (v := .int .i64 cur.lv) rfl
  have p1_3 := B1.out.at_ (i := 3) (v := .int .u64 (u cur.c)) rfl
  have p1_4 := B1.out.at_ (i := 4) (v := .int .i64 cur.ig) rfl
  have p1_5 := B1.out.at_ (i := 5) (v := .int .i64 high.lv) rfl
  have p1_6 := B1.out.at_ (i := 6) (v := .int .u64 (u high.c)) rfl
  have p1_7 := B1.out.at_ (i := 7) (v := .int .i64 high.ig) rfl
  have k1_0 : w.heap.size < w1.heap.size := by have := B1.out.lt; omega
  go_wp2_with fail
  refine (H5.out _).mono ?_
  rintro e w2 ⟨rfl, hB⟩
  replace HB := Lib.hid (below_call (w := w) (by repeat (first | exact HB.out | refine below_alloc ?_ _ | refine Below.drew ?_ | refine below_set ?_ (by omega) _)) hB)
  have z2 : w.heap.size ≤ w2.heap.size := HB.out.size
  clear p0_1 k0_0 p1_0 p1_1 p1_2 p1_3 p1_4 p1_5 p1_6 p1_7 k1_0
  clear hB
  go_wp2_with fail
  go_ret
  exact ⟨rfl, (by repeat (first | exact HB.out | refine below_alloc ?_ _ | refine Below.drew ?_ | refine below_set ?_ (by omega) _))⟩
set_option maxRecDepth 100000 in
set_option maxHeartbeats 4000000 in
theorem rnext_n_1f (l : List Sub) (b off cap k : Nat) (p : Sub) (cur high : Lab) (w : World) (he : Els w b (off + k * 8) #[.int .i64 p.par, .int .i64 p.st, .int .i64 p.cur.lv, .int .u64 (u p.cur.c), .int .i64 p.cur.ig, .int .i64 p.high.lv, .int .u64 (u p.high.c), .int .i64 p.high.ig]) (_h0 : ¬ (k : Int) < -1) (_h1 : ¬ (l.length : Int) ≤ (k : Int)) (h2 : RRightIs high true) (_h3 : ¬ (k : Int) < 0) (_h4 : (p.st != 0) = true) (h5 : RUnderIs cur high false) :
    Calls Tryd.prog 48 #[.slice (some ⟨b, off, none⟩) l.length cap, .agg #[.int .i64 k, .int .i64 1, .int .i64 cur.lv, .int .u64 (u cur.c), .int .i64 cur.ig, .int .i64 high.lv, .int .u64 (u high.c), .int .i64 high.ig]] w (fun e w' => e = .returned (.bool false) ∧ Below w.heap.size w w') := by
  have H2 := Lib.hid h2
  clear h2
  have H5 := Lib.hid h5
  clear h5
  have HB := Lib.hid (Below.refl w.heap.size w)
  go_enter Tryd.func48, Tryd.ntmps48
  have B0 := Lib.hid he
  clear he
  go_wp2_with fail
  refine (H2.out _).mono ?_
  rintro e w1 ⟨rfl, hB⟩
  replace HB := Lib.hid (below_call (w := w) (by repeat (first | exact HB.out | refine below_alloc ?_ _ | refine Below.drew ?_ | refine below_set ?_ (by omega) _)) hB)
  have z1 : w.heap.size ≤ w1.heap.size := HB.out.size
  replace B0 : Hid (Els w1 (b) (off + k * 8) #[.int .i64 p.par, .int .i64 p.st, .int .i64 p.cur.lv, .int .u64 (u p.cur.c), .int .i64 p.cur.ig, .int .i64 p.high.lv, .int .u64 (u p.high.c), .int .i64 p.high.ig]) := Lib.hid (Els.after (by repeat (first | exact B0.out | refine Els.drew ?_ | refine Els.alloc ?_ _)) hB)
  have B1 : Hid (Blk w1 (w.heap.size) 41 #[.int .i64 k, .int .i64 1, .int .i64 cur.lv, .int .u64 (u cur.c), .int .i64 cur.ig, .int .i64 high.lv, .int .u64 (u high.c), .int .i64 high.ig]) := Lib.hid (Blk.after (by repeat (first | exact Blk.new' (by simp; done) | exact Blk.new' rfl | refine Blk.drew ?_ | refine Blk.alloc ?_ _)) hB)
  clear hB
  have p0_1 : w1.cell? ⟨b, off + k * 8 + 1, none⟩ = some (.int .i64 p.st) := B0.out.at_ (i := 1) (v := .int .i64 p.st) rfl
  have k0_0 : b < w1.heap.size := by have := B0.out.lt; omega
  have p1_0 := B1.out.at_ (i := 0) (v := .int .i64 k) rfl
  have p1_1 := B1.out.at_ (i := 1) (v := .int .i64 1) rfl
  have p1_2 := B1.out.at_ (i := 2) (v := .int .i64 cur.lv) rfl
  have p1_3 := B1.out.at_ (i := 3) (v := .int .u64 (u cur.c)) rfl
  have p1_4 := B1.out.at_ (i := 4) (v := .int .i64 cur.ig) rfl
  have p1_5 := B1.out.at_ (i := 5) (v := .int .i64 high.lv) rfl
  have p1_6 := B1.out.at_ (i := 6) (v := .int .u64 (u high.c)) rfl
  have p1_7 := B1.out.at_ (i := 7) (v := .int .i64 high.ig) rfl
  have k1_0 : w.heap.size < w1.heap.size := by have := B1.out.lt; omega
  go_wp2_with fail
  refine (H5.out _).mono ?_
  rintro e w2 ⟨rfl, hB⟩
  replace HB := Lib.hid (below_call (w := w) (by repeat (first | exact HB.out | refine below_alloc ?_ _ | refine Below.drew ?_ | refine below_set ?_ (by omega) _)) hB)
  have z2 : w.heap.size ≤ w2.heap.size := HB.out.size
  clear p0_1 k0_0 p1_0 p1_1 p1_2 p1_3 p1_4 p1_5 p1_6 p1_7 k1_0
  clear hB
  go_wp2_with fail
  go_ret
  exact ⟨rfl, (by repeat (first | exact HB.out | refine below_alloc ?_ _ | refine Below.drew ?_ | refine below_set ?_ (by omega) _))⟩
set_option maxRecDepth 100000 in
set_option maxHeartbeats 4000000 in
theorem rnext_n_2t (l : List Sub) (b off cap k : Nat) (p : Sub) (cur high : Lab) (w : World) (he : Els w b (off + k * 8) #[.int .i64 p.par, .int .i64 p.st, .int .i64 p.cur.lv, .int .u64 (u p.cur.c), .int .i64 p.cur.ig, .int .i64 p.high.lv, .int .u64 (u p.high.c), .int .i64 p.high.ig]) (_h0 : ¬ (k : Int) < -1) (_h1 : ¬ (l.length : Int) ≤ (k : Int)) (h2 : RRightIs high true) (_h3 : ¬ (k : Int) < 0) (_h4 : (p.st != 0) = true) (h5 : RUnderIs cur high true) :
    Calls Tryd.prog 48 #[.slice (some ⟨b, off, none⟩) l.length cap, .agg #[.int .i64 k, .int .i64 2, .int .i64 cur.lv, .int .u64 (u cur.c), .int .i64 cur.ig, .int .i64 high.lv, .int .u64 (u high.c), .int .i64 high.ig]] w (fun e w' => e = .returned (.bool true) ∧ Below w.heap.size w w') := by
  have H2 := Lib.hid h2
  clear h2
  have H5 := Lib.hid h5
  clear h5
  have HB := Lib.hid (Below.refl w.heap.size w)
  go_enter Tryd.func48, Tryd.ntmps48
  have B0 := Lib.hid he
  clear he
  go_wp2_with fail
  refine (H2.out _).mono ?_
  rintro e w1 ⟨rfl, hB⟩
  replace HB := Lib.hid (below_call (w := w) (by repeat (first | exact HB.out | refine below_alloc ?_ _ | refine Below.drew ?_ | refine below_set ?_ (by omega) _)) hB)
  have z1 : w.heap.size ≤ w1.heap.size := HB.out.size
  replace B0 : Hid (Els w1 (b) (off + k * 8) #[.int .i64 p.par, .int .i64 p.st, .int .i64 p.cur.lv, .int .u64 (u p.cur.c), .int .i64 p.cur.ig, .int .i64 p.high.lv, .int .u64 (u p.high.c), .int .i64 p.high.ig]) := Lib.hid (Els.after (by repeat (first | exact B0.out | refine Els.drew ?_ | refine Els.alloc ?_ _)) hB)
  have B1 : Hid (Blk w1 (w.heap.size) 41 #[.int .i64 k, .int .i64 2, .int .i64 cur.lv, .int .u64 (u cur.c), .int .i64 cur.ig, .int .i64 high.lv, .int .u64 (u high.c), .int .i64 high.ig]) := Lib.hid (Blk.after (by repeat (first | exact Blk.new' (by simp; done) | exact Blk.new' rfl | refine Blk.drew ?_ | refine Blk.alloc ?_ _)) hB)
  clear hB
  have p0_1 : w1.cell? ⟨b, off + k * 8 + 1, none⟩ = some (.int .i64 p.st) := B0.out.at_ (i := 1) (v := .int .i64 p.st) rfl
  have k0_0 : b < w1.heap.size := by have := B0.out.lt; omega
  have p1_0 := B1.out.at_ (i := 0) (v := .int .i64 k) rfl
  have p1_1 := B1.out.at_ (i := 1) (v := .int .i64 2) rfl
  have p1_2 := B1.out.at_ (i := 2) (v := .int .i64 cur.lv) rfl
  have p1_3 := B1.out.at_ (i := 3) (v := .int .u64 (u cur.c)) rfl
  have p1_4 := B1.out.at_ (i := 4) (v := .int .i64 cur.ig) rfl
  have p1_5 := B1.out.at_ (i := 5) (v := .int .i64 high.lv) rfl
  have p1_6 := B1.out.at_ (i := 6) (v := .int .u64 (u high.c)) rfl
  have p1_7 := B1.out.at_ (i := 7) (v := .int .i64 high.ig) rfl
  have k1_0 : w.heap.size < w1.heap.size := by have := B1.out.lt; omega
  go_wp2_with fail
  refine (H5.out _).mono ?_
  rintro e w2 ⟨rfl, hB⟩
  replace HB := Lib.hid (below_call (w := w) (by repeat (first | exact HB.out | refine below_alloc ?_ _ | refine Below.drew ?_ | refine below_set ?_ (by omega) _)) hB)
  have z2 : w.heap.size ≤ w2.heap.size := HB.out.size
  clear p0_1 k0_0 p1_0 p1_1 p1_2 p1_3 p1_4 p1_5 p1_6 p1_7 k1_0
  clear hB
  go_wp2_with fail
  go_ret
  exact ⟨rfl, (by repeat (first | exact HB.out | refine below_alloc ?_ _ | refine Below.drew ?_ | refine below_set ?_ (by omega) _))⟩
set_option maxRecDepth 100000 in
set_option maxHeartbeats 4000000 in
theorem rnext_n_2f (l : List Sub) (b off cap k : Nat) (p : Sub) (cur high : Lab) (w : World) (he : Els w b (off + k * 8) #[.int .i64 p.par, .int .i64 p.st, .int .i64 p.cur.lv, .int .u64 (u p.cur.c), .int .i64 p.cur.ig, .int .i64 p.high.lv, .int .u64 (u p.high.c), .int .i64 p.high.ig]) (_h0 : ¬ (k : Int) < -1) (_h1 : ¬ (l.length : Int) ≤ (k : Int)) (h2 : RRightIs high true) (_h3 : ¬ (k : Int) < 0) (_h4 : (p.st != 0) = true) (h5 : RUnderIs cur high false) :
    Calls Tryd.prog 48 #[.slice (some ⟨b, off, none⟩) l.length cap, .agg #[.int .i64 k, .int .i64 2, .int .i64 cur.lv, .int .u64 (u cur.c), .int .i64 cur.ig, .int .i64 high.lv, .int .u64 (u high.c), .int .i64 high.ig]] w (fun e w' => e = .returned (.bool false) ∧ Below w.heap.size w w') := by
  have H2 := Lib.hid h2
  clear h2
  have H5 := Lib.hid h5
  clear h5
  have HB := Lib.hid (Below.refl w.heap.size w)
  go_enter Tryd.func48, Tryd.ntmps48
  have B0 := Lib.hid he
  clear he
  go_wp2_with fail
  refine (H2.out _).mono ?_
  rintro e w1 ⟨rfl, hB⟩
  replace HB := Lib.hid (below_call (w := w) (by repeat (first | exact HB.out | refine below_alloc ?_ _ | refine Below.drew ?_ | refine below_set ?_ (by omega) _)) hB)
  have z1 : w.heap.size ≤ w1.heap.size := HB.out.size
  replace B0 : Hid (Els w1 (b) (off + k * 8) #[.int .i64 p.par, .int .i64 p.st, .int .i64 p.cur.lv, .int .u64 (u p.cur.c), .int .i64 p.cur.ig, .int .i64 p.high.lv, .int .u64 (u p.high.c), .int .i64 p.high.ig]) := Lib.hid (Els.after (by repeat (first | exact B0.out | refine Els.drew ?_ | refine Els.alloc ?_ _)) hB)
  have B1 : Hid (Blk w1 (w.heap.size) 41 #[.int .i64 k, .int .i64 2, .int .i64 cur.lv, .int .u64 (u cur.c), .int .i64 cur.ig, .int .i64 high.lv, .int .u64 (u high.c), .int .i64 high.ig]) := Lib.hid (Blk.after (by repeat (first | exact Blk.new' (by simp; done) | exact Blk.new' rfl | refine Blk.drew ?_ | refine Blk.alloc ?_ _)) hB)
  clear hB
  have p0_1 : w1.cell? ⟨b, off + k * 8 + 1, none⟩ = some (.int .i64 p.st) := B0.out.at_ (i := 1) (v := .int .i64 p.st) rfl
  have k0_0 : b < w1.heap.size := by have := B0.out.lt; omega
  have p1_0 := B1.out.at_ (i := 0) (v := .int .i64 k) rfl
  have p1_1 := B1.out.at_ (i := 1) (v := .int .i64 2) rfl
  have p1_2 := B1.out.at_ (i := 2) (v := .int .i64 cur.lv) rfl
  have p1_3 := B1.out.at_ (i := 3) (v := .int .u64 (u cur.c)) rfl
  have p1_4 := B1.out.at_ (i := 4) (v := .int .i64 cur.ig) rfl
  have p1_5 := B1.out.at_ (i := 5) (v := .int .i64 high.lv) rfl
  have p1_6 := B1.out.at_ (i := 6) (v := .int .u64 (u high.c)) rfl
  have p1_7 := B1.out.at_ (i := 7) (v := .int .i64 high.ig) rfl
  have k1_0 : w.heap.size < w1.heap.size := by have := B1.out.lt; omega
  go_wp2_with fail
  refine (H5.out _).mono ?_
  rintro e w2 ⟨rfl, hB⟩
  replace HB := Lib.hid (below_call (w := w) (by repeat (first | exact HB.out | refine below_alloc ?_ _ | refine Below.drew ?_ | refine below_set ?_ (by omega) _)) hB)
  have z2 : w.heap.size ≤ w2.heap.size := HB.out.size
  clear p0_1 k0_0 p1_0 p1_1 p1_2 p1_3 p1_4 p1_5 p1_6 p1_7 k1_0
  clear hB
  go_wp2_with fail
  go_ret
  exact ⟨rfl, (by repeat (first | exact HB.out | refine below_alloc ?_ _ | refine Below.drew ?_ | refine below_set ?_ (by omega) _))⟩
end

section
open Go.RowKit

theorem zeroV : (.agg #[.int .i64 zeroL.lv, .int .u64 (u zeroL.c), .int .i64 zeroL.ig] : Value) = .agg #[.int .i64 0, .int .u64 0, .int .i64 0] := rfl
theorem eqzIs {a : Lab} {r : Bool} (h : eqL a zeroL = r) : ∀ W, (binOp .eql 25 (.agg #[.int .i64 a.lv, .int .u64 (u a.c), .int .i64 a.ig]) (.agg #[.int .i64 0, .int .u64 0, .int .i64 0])).run Tryd.prog W = .ok (.bool r) W := fun W => by
  rw [← zeroV]; exact eqlIs h W
theorem nextB_lo {l : List Sub} {x : Sub} (h : x.par < -1 ∨ (l.length : Int) ≤ x.par ∨ okL x.high = false) : nextB l x = false := if_pos h
theorem nextB_in {l : List Sub} {x : Sub} (h : ¬ (x.par < -1 ∨ (l.length : Int) ≤ x.par ∨ okL x.high = false)) :
    nextB l x = (if x.st = 0 then decide (0 ≤ x.par) && eqL x.cur zeroL else if x.st = 1 ∨ x.st = 2 then startedB l x && underL x.cur x.high else false) := if_neg h
theorem started_m {l : List Sub} {x : Sub} (h : x.par = -1) : startedB l x = true := by unfold startedB; rw [h]; rfl
theorem started_k {l : List Sub} {x p : Sub} {k : Nat} (h : x.par = (k : Int)) (hp : l[k]? = some p) : startedB l x = (p.st != 0) := by
  unfold startedB
  rw [h, Int.toNat_natCast, hp]
  have h1 : ((k : Int) == -1) = false := beq_eq_false_iff_ne.2 (by omega)
  have h2 : decide ((0 : Int) ≤ (k : Int)) = true := by simp
  rw [h1, h2]; simp
set_option maxHeartbeats 4000000 in
theorem isNext_any (l : List Sub) (x : Sub) (v : Value) (w : World) (hl : SubsAt w.heap.size w v l) :
    Calls Tryd.prog 44 #[v, .agg #[.int .i64 x.par, .int .i64 x.st, .int .i64 x.cur.lv, .int .u64 (u x.cur.c), .int .i64 x.cur.ig, .int .i64 x.high.lv, .int .u64 (u x.high.c), .int .i64 x.high.ig]] w fun e w' => e = .returned (.bool (nextB l x)) ∧ Below w.heap.size w w' := by
  obtain ⟨par, st, cur, high⟩ := x
  obtain ⟨sA, sc, rfl, _, _, _⟩ := hl.slice
  by_cases h1 : par < -1
  · rw [nextB_lo (.inl h1)]
    apply next_lo <;> (first | assumption | exact rightIs ‹_› | exact underIs ‹_› | exact eqzIs ‹_› | omega | (simp; omega) | simp)
  by_cases h2 : (l.length : Int) ≤ par
  · rw [nextB_lo (.inr (.inl h2))]
    apply next_hi <;> (first | assumption | exact rightIs ‹_› | exact underIs ‹_› | exact eqzIs ‹_› | omega | (simp; omega) | simp)
  by_cases hm : par = -1
  · subst hm
    cases hr : okL high
    · rw [nextB_lo (.inr (.inr hr))]
      apply next_m_bad <;> (first | assumption | exact rightIs ‹_› | exact underIs ‹_› | exact eqzIs ‹_› | omega | (simp; omega) | simp)
    rw [nextB_in (fun h => h.elim h1 (fun h => h.elim h2 (fun h => absurd (show okL high = false from h) (by rw [hr]; decide))))]
    by_cases h0 : st = 0
    · subst h0
      rw [if_pos rfl]
      apply next_m_0 <;> (first | assumption | exact rightIs ‹_› | exact underIs ‹_› | exact eqzIs ‹_› | omega | (simp; omega) | simp)
    rw [if_neg h0]
    by_cases hs1 : st = 1
    · subst hs1
      rw [if_pos (.inl rfl), started_m rfl, Bool.true_and]
      show Calls _ _ _ _ fun e w' => e = .returned (.bool (underL cur high)) ∧ _
      cases hu : underL cur high
      · apply next_m_1f <;> (first | assumption | exact rightIs ‹_› | exact underIs ‹_› | exact eqzIs ‹_› | omega | (simp; omega) | simp)
      · apply next_m_1t <;> (first | assumption | exact rightIs ‹_› | exact underIs ‹_› | exact eqzIs ‹_› | omega | (simp; omega) | simp)
    by_cases hs2 : st = 2
    · subst hs2
      rw [if_pos (.inr rfl), started_m rfl, Bool.true_and]
      show Calls _ _ _ _ fun e w' => e = .returned (.bool (underL cur high)) ∧ _
      cases hu : underL cur high
      · apply next_m_2f <;> (first | assumption | exact rightIs ‹_› | exact underIs ‹_› | exact eqzIs ‹_› | omega | (simp; omega) | simp)
      · apply next_m_2t <;> (first | assumption | exact rightIs ‹_› | exact underIs ‹_› | exact eqzIs ‹_› | omega | (simp; omega) | simp)
    rw [if_neg (by rintro (h | h) <;> contradiction)]
    apply next_m_x <;> (first | assumption | exact rightIs ‹_› | exact underIs ‹_› | exact eqzIs ‹_› | omega | (simp; omega) | simp)
  obtain ⟨k, rfl⟩ := Int.eq_ofNat_of_zero_le (show 0 ≤ par by omega)
  have hk : k < l.length := by omega
  obtain ⟨p, hp⟩ : ∃ p, l[k]? = some p := ⟨_, List.getElem?_eq_getElem hk⟩
  obtain ⟨b, off, rfl, hlt, he⟩ := hl.el hp (Nat.le_refl _)
  have hst := started_k (x := ⟨(k : Int), st, cur, high⟩) rfl hp
  obtain ⟨ppar, pst, pcur, phigh⟩ := p
  replace he : Els w b (off + k * 8) #[.int .i64 ppar, .int .i64 pst, .int .i64 pcur.lv, .int .u64 (u pcur.c), .int .i64 pcur.ig, .int .i64 phigh.lv, .int .u64 (u phigh.c), .int .i64 phigh.ig] := he
  cases hr : okL high
  · rw [nextB_lo (.inr (.inr hr))]
    by_cases hp0 : pst = 0
    · subst hp0
      apply next_i_bad (p := ⟨ppar, 0, pcur, phigh⟩) <;> (first | assumption | exact rightIs ‹_› | exact underIs ‹_› | exact eqzIs ‹_› | omega | (simp; omega) | simp)
    · apply next_n_bad (p := ⟨ppar, pst, pcur, phigh⟩) <;> (first | assumption | exact rightIs ‹_› | exact underIs ‹_› | exact eqzIs ‹_› | omega | (simp; omega) | simp)
  rw [nextB_in (fun h => h.elim h1 (fun h => h.elim h2 (fun h => absurd (show okL high = false from h) (by rw [hr]; decide))))]
  by_cases h0 : st = 0
  · subst h0
    rw [if_pos rfl]
    show Calls _ _ _ _ fun e w' => e = .returned (.bool (decide ((0 : Int) ≤ (k : Int)) && eqL cur zeroL)) ∧ _
    rw [show decide ((0 : Int) ≤ (k : Int)) = true by simp, Bool.true_and]
    by_cases hp0 : pst = 0
    · subst hp0
      cases hz : eqL cur zeroL
      · apply next_i_0f (p := ⟨ppar, 0, pcur, phigh⟩) <;> (first | assumption | exact rightIs ‹_› | exact underIs ‹_› | exact eqzIs ‹_› | omega | (simp; omega) | simp)
      · apply next_i_0t (p := ⟨ppar, 0, pcur, phigh⟩) <;> (first | assumption | exact rightIs ‹_› | exact underIs ‹_› | exact eqzIs ‹_› | omega | (simp; omega) | simp)
    · cases hz : eqL cur zeroL
      · apply next_n_0f (p := ⟨ppar, pst, pcur, phigh⟩) <;> (first | assumption | exact rightIs ‹_› | exact underIs ‹_› | exact eqzIs ‹_› | omega | (simp; omega) | simp)
      · apply next_n_0t (p := ⟨ppar, pst, pcur, phigh⟩) <;> (first | assumption | exact rightIs ‹_› | exact underIs ‹_› | exact eqzIs ‹_› | omega | (simp; omega) | simp)
  rw [if_neg h0]
  by_cases hs1 : st = 1
  · subst hs1
    rw [if_pos (.inl rfl), hst]
    show Calls _ _ _ _ fun e w' => e = .returned (.bool ((pst != 0) && underL cur high)) ∧ _
    by_cases hp0 : pst = 0
    · subst hp0
      apply next_i_1 (p := ⟨ppar, 0, pcur, phigh⟩) <;> (first | assumption | exact rightIs ‹_› | exact underIs ‹_› | exact eqzIs ‹_› | omega | (simp; omega) | simp)
    · rw [show (pst != 0) = true by simpa using hp0, Bool.true_and]
      cases hu : underL cur high
      · apply next_n_1f (p := ⟨ppar, pst, pcur, phigh⟩) <;> (first | assumption | exact rightIs ‹_› | exact underIs ‹_› | exact eqzIs ‹_› | omega | (simp; omega) | simp)
      · apply next_n_1t (p := ⟨ppar, pst, pcur, phigh⟩) <;> (first | assumption | exact rightIs ‹_› | exact underIs ‹_› | exact eqzIs ‹_› | omega | (simp; omega) | simp)
  by_cases hs2 : st = 2
  · subst hs2
    rw [if_pos (.inr rfl), hst]
    show Calls _ _ _ _ fun e w' => e = .returned (.bool ((pst != 0) && underL cur high)) ∧ _
    by_cases hp0 : pst = 0
    · subst hp0
      apply next_i_2 (p := ⟨ppar, 0, pcur, phigh⟩) <;> (first | assumption | exact rightIs ‹_› | exact underIs ‹_› | exact eqzIs ‹_› | omega | (simp; omega) | simp)
    · rw [show (pst != 0) = true by simpa using hp0, Bool.true_and]
      cases hu : underL cur high
      · apply next_n_2f (p := ⟨ppar, pst, pcur, phigh⟩) <;> (first | assumption | exact rightIs ‹_› | exact underIs ‹_› | exact eqzIs ‹_› | omega | (simp; omega) | simp)
      · apply next_n_2t (p := ⟨ppar, pst, pcur, phigh⟩) <;> (first | assumption | exact rightIs ‹_› | exact underIs ‹_› | exact eqzIs ‹_› | omega | (simp; omega) | simp)
  rw [if_neg (by rintro (h | h) <;> contradiction)]
  by_cases hp0 : pst = 0
  · subst hp0
    apply next_i_x (p := ⟨ppar, 0, pcur, phigh⟩) <;> (first | assumption | exact rightIs ‹_› | exact underIs ‹_› | exact eqzIs ‹_› | omega | (simp; omega) | simp)
  · skip
    apply next_n_x (p := ⟨ppar, pst, pcur, phigh⟩) <;> (first | assumption | exact rightIs ‹_› | exact underIs ‹_› | exact eqzIs ‹_› | omega | (simp; omega) | simp)
set_option maxHeartbeats 4000000 in
theorem rIs_any (l : List Sub) (x : Sub) (v : Value) (w : World) (hl : SubsAt w.heap.size w v l) :
    Calls Tryd.prog 48 #[v, .agg #[.int .i64 x.par, .int .i64 x.st, .int .i64 x.cur.lv, .int .u64 (u x.cur.c), .int .i64 x.cur.ig, .int .i64 x.high.lv, .int .u64 (u x.high.c), .int .i64 x.high.ig]] w fun e w' => e = .returned (.bool (nextB l x)) ∧ Below w.heap.size w w' := by
  obtain ⟨par, st, cur, high⟩ := x
  obtain ⟨sA, sc, rfl, _, _, _⟩ := hl.slice
  by_cases h1 : par < -1
  · rw [nextB_lo (.inl h1)]
    apply rnext_lo <;> (first | assumption | exact rRightIs ‹_› | exact rUnderIs ‹_› | exact eqzIs ‹_› | omega | (simp; omega) | simp)
  by_cases h2 : (l.length : Int) ≤ par
  · rw [nextB_lo (.inr (.inl h2))]
    apply rnext_hi <;> (first | assumption | exact rRightIs ‹_› | exact rUnderIs ‹_› | exact eqzIs ‹_› | omega | (simp; omega) | simp)
  by_cases hm : par = -1
  · subst hm
    cases hr : okL high
    · rw [nextB_lo (.inr (.inr hr))]
      apply rnext_m_bad <;> (first | assumption | exact rRightIs ‹_› | exact rUnderIs ‹_› | exact eqzIs ‹_› | omega | (simp; omega) | simp)
    rw [nextB_in (fun h => h.elim h1 (fun h => h.elim h2 (fun h => absurd (show okL high = false from h) (by rw [hr]; decide))))]
    by_cases h0 : st = 0
    · subst h0
      rw [if_pos rfl]
      apply rnext_m_0 <;> (first | assumption | exact rRightIs ‹_› | exact rUnderIs ‹_› | exact eqzIs ‹_› | omega | (simp; omega) | simp)
    rw [if_neg h0]
    by_cases hs1 : st = 1
    · subst hs1
      rw [if_pos (.inl rfl), started_m rfl, Bool.true_and]
      show Calls _ _ _ _ fun e w' => e = .returned (.bool (underL cur high)) ∧ _
      cases hu : underL cur high
      · apply rnext_m_1f <;> (first | assumption | exact rRightIs ‹_› | exact rUnderIs ‹_› | exact eqzIs ‹_› | omega | (simp; omega) | simp)
      · apply rnext_m_1t <;> (first | assumption | exact rRightIs ‹_› | exact rUnderIs ‹_› | exact eqzIs ‹_› | omega | (simp; omega) | simp)
    by_cases hs2 : st = 2
    · subst hs2
      rw [if_pos (.inr rfl), started_m rfl, Bool.true_and]
      show Calls _ _ _ _ fun e w' => e = .returned (.bool (underL cur high)) ∧ _
      cases hu : underL cur high
      · apply rnext_m_2f <;> (first | assumption | exact rRightIs ‹_› | exact rUnderIs ‹_› | exact eqzIs ‹_› | omega | (simp; omega) | simp)
      · apply rnext_m_2t <;> (first | assumption | exact rRightIs ‹_› | exact rUnderIs ‹_› | exact eqzIs ‹_› | omega | (simp; omega) | simp)
    rw [if_neg (by rintro (h | h) <;> contradiction)]
    by_cases hs3 : st < 0
    · apply rnext_m_xl <;> (first | assumption | exact rRightIs ‹_› | exact rUnderIs ‹_› | exact eqzIs ‹_› | omega | (simp; omega) | simp)
    · have hs4 : 2 < st := by omega
      apply rnext_m_xh <;> (first | assumption | exact rRightIs ‹_› | exact rUnderIs ‹_› | exact eqzIs ‹_› | omega | (simp; omega) | simp)
  obtain ⟨k, rfl⟩ := Int.eq_ofNat_of_zero_le (show 0 ≤ par by omega)
  have hk : k < l.length := by omega
  obtain ⟨p, hp⟩ : ∃ p, l[k]? = some p := ⟨_, List.getElem?_eq_getElem hk⟩
  obtain ⟨b, off, rfl, hlt, he⟩ := hl.el hp (Nat.le_refl _)
  have hst := started_k (x := ⟨(k : Int), st, cur, high⟩) rfl hp
  obtain ⟨ppar, pst, pcur, phigh⟩ := p
  replace he : Els w b (off + k * 8) #[.int .i64 ppar, .int .i64 pst, .int .i64 pcur.lv, .int .u64 (u pcur.c), .int .i64 pcur.ig, .int .i64 phigh.lv, .int .u64 (u phigh.c), .int .i64 phigh.ig] := he
  cases hr : okL high
  · rw [nextB_lo (.inr (.inr hr))]
    by_cases hp0 : pst = 0
    · subst hp0
      apply rnext_i_bad (p := ⟨ppar, 0, pcur, phigh⟩) <;> (first | assumption | exact rRightIs ‹_› | exact rUnderIs ‹_› | exact eqzIs ‹_› | omega | (simp; omega) | simp)
    · apply rnext_n_bad (p := ⟨ppar, pst, pcur, phigh⟩) <;> (first | assumption | exact rRightIs ‹_› | exact rUnderIs ‹_› | exact eqzIs ‹_› | omega | (simp; omega) | simp)
  rw [nextB_in (fun h => h.elim h1 (fun h => h.elim h2 (fun h => absurd (show okL high = false from h) (by rw [hr]; decide))))]
  by_cases h0 : st = 0
  · subst h0
    rw [if_pos rfl]
    show Calls _ _ _ _ fun e w' => e = .returned (.bool (decide ((0 : Int) ≤ (k : Int)) && eqL cur zeroL)) ∧ _
    rw [show decide ((0 : Int) ≤ (k : Int)) = true by simp, Bool.true_and]
    by_cases hp0 : pst = 0
    · subst hp0
      cases hz : eqL cur zeroL
      · apply rnext_i_0f (p := ⟨ppar, 0, pcur, phigh⟩) <;> (first | assumption | exact rRightIs ‹_› | exact rUnderIs ‹_› | exact eqzIs ‹_› | omega | (simp; omega) | simp)
      · apply rnext_i_0t (p := ⟨ppar, 0, pcur, phigh⟩) <;> (first | assumption | exact rRightIs ‹_› | exact rUnderIs ‹_› | exact eqzIs ‹_› | omega | (simp; omega) | simp)
    · cases hz : eqL cur zeroL
      · apply rnext_n_0f (p := ⟨ppar, pst, pcur, phigh⟩) <;> (first | assumption | exact rRightIs ‹_› | exact rUnderIs ‹_› | exact eqzIs ‹_› | omega | (simp; omega) | simp)
      · apply rnext_n_0t (p := ⟨ppar, pst, pcur, phigh⟩) <;> (first | assumption | exact rRightIs ‹_› | exact rUnderIs ‹_› | exact eqzIs ‹_› | omega | (simp; omega) | simp)
  rw [if_neg h0]
  by_cases hs1 : st = 1
  · subst hs1
    rw [if_pos (.inl rfl), hst]
    show Calls _ _ _ _ fun e w' => e = .returned (.bool ((pst != 0) && underL cur high)) ∧ _
    by_cases hp0 : pst = 0
    · subst hp0
      apply rnext_i_1 (p := ⟨ppar, 0, pcur, phigh⟩) <;> (first | assumption | exact rRightIs ‹_› | exact rUnderIs ‹_› | exact eqzIs ‹_› | omega | (simp; omega) | simp)
    · rw [show (pst != 0) = true by simpa using hp0, Bool.true_and]
      cases hu : underL cur high
      · apply rnext_n_1f (p := ⟨ppar, pst, pcur, phigh⟩) <;> (first | assumption | exact rRightIs ‹_› | exact rUnderIs ‹_› | exact eqzIs ‹_› | omega | (simp; omega) | simp)
      · apply rnext_n_1t (p := ⟨ppar, pst, pcur, phigh⟩) <;> (first | assumption | exact rRightIs ‹_› | exact rUnderIs ‹_› | exact eqzIs ‹_› | omega | (simp; omega) | simp)
  by_cases hs2 : st = 2
  · subst hs2
    rw [if_pos (.inr rfl), hst]
    show Calls _ _ _ _ fun e w' => e = .returned (.bool ((pst != 0) && underL cur high)) ∧ _
    by_cases hp0 : pst = 0
    · subst hp0
      apply rnext_i_2 (p := ⟨ppar, 0, pcur, phigh⟩) <;> (first | assumption | exact rRightIs ‹_› | exact rUnderIs ‹_› | exact eqzIs ‹_› | omega | (simp; omega) | simp)
    · rw [show (pst != 0) = true by simpa using hp0, Bool.true_and]
      cases hu : underL cur high
      · apply rnext_n_2f (p := ⟨ppar, pst, pcur, phigh⟩) <;> (first | assumption | exact rRightIs ‹_› | exact rUnderIs ‹_› | exact eqzIs ‹_› | omega | (simp; omega) | simp)
      · apply rnext_n_2t (p := ⟨ppar, pst, pcur, phigh⟩) <;> (first | assumption | exact rRightIs ‹_› | exact rUnderIs ‹_› | exact eqzIs ‹_› | omega | (simp; omega) | simp)
  rw [if_neg (by rintro (h | h) <;> contradiction)]
  by_cases hp0 : pst = 0
  · subst hp0
    by_cases hs3 : st < 0
    · apply rnext_i_xl (p := ⟨ppar, 0, pcur, phigh⟩) <;> (first | assumption | exact rRightIs ‹_› | exact rUnderIs ‹_› | exact eqzIs ‹_› | omega | (simp; omega) | simp)
    · have hs4 : 2 < st := by omega
      apply rnext_i_xh (p := ⟨ppar, 0, pcur, phigh⟩) <;> (first | assumption | exact rRightIs ‹_› | exact rUnderIs ‹_› | exact eqzIs ‹_› | omega | (simp; omega) | simp)
  · skip
    by_cases hs3 : st < 0
    · apply rnext_n_xl (p := ⟨ppar, pst, pcur, phigh⟩) <;> (first | assumption | exact rRightIs ‹_› | exact rUnderIs ‹_› | exact eqzIs ‹_› | omega | (simp; omega) | simp)
    · have hs4 : 2 < st := by omega
      apply rnext_n_xh (p := ⟨ppar, pst, pcur, phigh⟩) <;> (first | assumption | exact rRightIs ‹_› | exact rUnderIs ‹_› | exact eqzIs ‹_› | omega | (simp; omega) | simp)
end

end Go.Proofs.YteepgbkblgcegaaDoor
