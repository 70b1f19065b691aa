/-
  LAW 16: done (printed by wip/genlaw16.py).
-/
import Derived.Test.YteepgbkblgcegaaDoorM1
import Derived.Test.YteepgbkblgcegaaDoorMxLawP
namespace Go.Proofs.YteepgbkblgcegaaDoor
open Go.RowKit

attribute [local go_sem] u_and u_or u_andNot u_add u_sub u_bit u_eq_zero u_beq

structure Deed where
  d : Int
  who : Int
  ch : Int
  a : Lab
def encD (x : Deed) : Array Value := #[.int .i64 x.d, .int .i64 x.who, .int .i64 x.ch, .int .i64 x.a.lv, .int .u64 (u x.a.c), .int .i64 x.a.ig]
/-- what is done -/
def modD (x : Deed) : Int := (IntKind.u64.wrap x.d).tmod 3
def doneE (l : List Sub) (x : Deed) : Int := if modD x = 0 then startE l x.who x.ch else if modD x = 1 then sfloatE l x.who x.a else exitE l x.who
def doneR (l : List Sub) (x : Deed) : List Sub := if modD x = 0 then startL l x.who x.ch else if modD x = 1 then sfloatL l x.who x.a else exitL l x.who
def doneL (l : List Sub) (x : Deed) : List Sub := if doneE l x = 0 then doneR l x else l
theorem modD_cases (x : Deed) : modD x = 0 ∨ modD x = 1 ∨ modD x = 2 := by
  have h : 0 ≤ IntKind.u64.wrap x.d := by rw [IntKind.wrap_u64]; omega
  unfold modD
  rw [Int.tmod_eq_emod_of_nonneg h]
  omega
set_option maxRecDepth 100000 in
set_option maxHeartbeats 8000000 in
theorem done_00 (sa : Addr) (l m1 : List Sub) (A0 : Option Addr) (c0 : Nat) (x : Deed) (w : World) (hh : Env sa w) (hl0 : SubsW w (.slice A0 l.length c0) l) (h_startE_l_xwhoxch : startE l (x.who) (x.ch) = 0) (h_startL_l_xwhoxch : startL l (x.who) (x.ch) = m1) (h_len_l : l.length ≤ 1000) (v0 : (IntKind.u64.wrap x.d).tmod 3 = 0) :
    Calls Tryd.prog 20 #[.slice A0 l.length c0, .agg #[.int .i64 x.d, .int .i64 x.who, .int .i64 x.ch, .int .i64 x.a.lv, .int .u64 (u x.a.c), .int .i64 x.a.ig]] w (fun e w' => ∃ A c, e = .returned (.slice A m1.length c) ∧ SubsW w' (.slice A m1.length c) m1 ∧ Below w.heap.size w w') := by
  have HH := Lib.hid hh
  clear hh
  have H_startE_l_xwhoxch := Lib.hid h_startE_l_xwhoxch
  clear h_startE_l_xwhoxch
  have H_startL_l_xwhoxch := Lib.hid h_startL_l_xwhoxch
  clear h_startL_l_xwhoxch
  have H_len_l := Lib.hid h_len_l
  clear h_len_l
  have B0 := Lib.hid hl0
  clear hl0
  have HB := Lib.hid (Below.refl w.heap.size w)
  go_enter Tryd.func20, Tryd.ntmps20
  go_wp2_with fail
  refine (startIs H_startE_l_xwhoxch.out H_startL_l_xwhoxch.out H_len_l.out (HH.out.up (by repeat (first | exact HB.out | refine below_alloc ?_ _ | refine Below.drew ?_ | refine below_set ?_ (by omega) _))).h (by repeat (first | exact B0.out | refine SubsW.drew ?_ | refine SubsW.alloc ?_ _))).mono ?_
  rintro e w1 ⟨A1, c1, rfl, hR1, hB⟩
  replace HB := Lib.hid (below_call (w := w) (by repeat (first | exact HB.out | refine below_alloc ?_ _ | refine Below.drew ?_ | refine below_set ?_ (by omega) _)) hB)
  have z1 : w.heap.size ≤ w1.heap.size := HB.out.size
  clear hB
  have B2 := Lib.hid (show SubsW w1 (.slice A1 m1.length c1) m1 from hR1)
  clear hR1
  go_wp2_with fail
  go_ret
  exact ⟨_, _, rfl, (by repeat (first | exact B2.out | refine SubsW.drew ?_ | refine SubsW.alloc ?_ _)), (by repeat (first | exact HB.out | refine below_alloc ?_ _ | refine Below.drew ?_ | refine below_set ?_ (by omega) _))⟩
set_option maxRecDepth 100000 in
set_option maxHeartbeats 8000000 in
theorem done_0n (sa : Addr) (l m1 : List Sub) (A0 : Option Addr) (c0 : Nat) (x : Deed) (n : Int) (w : World) (hh : Env sa w) (hl0 : SubsW w (.slice A0 l.length c0) l) (h_startE_l_xwhoxch : startE l (x.who) (x.ch) = n) (h_startL_l_xwhoxch : startL l (x.who) (x.ch) = m1) (h_len_l : l.length ≤ 1000) (v0 : (IntKind.u64.wrap x.d).tmod 3 = 0) (v1 : (n != 0) = true) :
    Calls Tryd.prog 20 #[.slice A0 l.length c0, .agg #[.int .i64 x.d, .int .i64 x.who, .int .i64 x.ch, .int .i64 x.a.lv, .int .u64 (u x.a.c), .int .i64 x.a.ig]] w (fun e w' => ∃ A c, e = .returned (.slice A l.length c) ∧ SubsW w' (.slice A l.length c) l ∧ Below w.heap.size w w') := by
  have HH := Lib.hid hh
  clear hh
  have H_startE_l_xwhoxch := Lib.hid h_startE_l_xwhoxch
  clear h_startE_l_xwhoxch
  have H_startL_l_xwhoxch := Lib.hid h_startL_l_xwhoxch
  clear h_startL_l_xwhoxch
  have H_len_l := Lib.hid h_len_l
  clear h_len_l
  have B0 := Lib.hid hl0
  clear hl0
  have HB := Lib.hid (Below.refl w.heap.size w)
  go_enter Tryd.func20, Tryd.ntmps20
  go_wp2_with fail
  refine (startIs H_startE_l_xwhoxch.out H_startL_l_xwhoxch.out H_len_l.out (HH.out.up (by repeat (first | exact HB.out | refine below_alloc ?_ _ | refine Below.drew ?_ | refine below_set ?_ (by omega) _))).h (by repeat (first | exact B0.out | refine SubsW.drew ?_ | refine SubsW.alloc ?_ _))).mono ?_
  rintro e w1 ⟨A1, c1, rfl, hR1, hB⟩
  replace HB := Lib.hid (below_call (w := w) (by repeat (first | exact HB.out | refine below_alloc ?_ _ | refine Below.drew ?_ | refine below_set ?_ (by omega) _)) hB)
  have z1 : w.heap.size ≤ w1.heap.size := HB.out.size
  replace B0 : Hid (SubsW w1 (.slice A0 l.length c0) l) := Lib.hid (SubsW.after (by repeat (first | exact B0.out | refine SubsW.drew ?_ | refine SubsW.alloc ?_ _)) hB)
  clear hB
  have B2 := Lib.hid (show SubsW w1 (.slice A1 m1.length c1) m1 from hR1)
  clear hR1
  go_wp2_with fail
  go_ret
  exact ⟨_, _, rfl, (by repeat (first | exact B0.out | refine SubsW.drew ?_ | refine SubsW.alloc ?_ _)), (by repeat (first | exact HB.out | refine below_alloc ?_ _ | refine Below.drew ?_ | refine below_set ?_ (by omega) _))⟩
set_option maxRecDepth 100000 in
set_option maxHeartbeats 8000000 in
theorem done_10 (sa : Addr) (l m1 : List Sub) (A0 : Option Addr) (c0 : Nat) (x : Deed) (w : World) (hh : Env sa w) (hl0 : SubsW w (.slice A0 l.length c0) l) (h_sfloatE_l_xwhoxa : sfloatE l (x.who) (x.a) = 0) (h_sfloatL_l_xwhoxa : sfloatL l (x.who) (x.a) = m1) (h_len_l : l.length ≤ 1000) (v0 : (IntKind.u64.wrap x.d).tmod 3 = 1) :
    Calls Tryd.prog 20 #[.slice A0 l.length c0, .agg #[.int .i64 x.d, .int .i64 x.who, .int .i64 x.ch, .int .i64 x.a.lv, .int .u64 (u x.a.c), .int .i64 x.a.ig]] w (fun e w' => ∃ A c, e = .returned (.slice A m1.length c) ∧ SubsW w' (.slice A m1.length c) m1 ∧ Below w.heap.size w w') := by
  have HH := Lib.hid hh
  clear hh
  have H_sfloatE_l_xwhoxa := Lib.hid h_sfloatE_l_xwhoxa
  clear h_sfloatE_l_xwhoxa
  have H_sfloatL_l_xwhoxa := Lib.hid h_sfloatL_l_xwhoxa
  clear h_sfloatL_l_xwhoxa
  have H_len_l := Lib.hid h_len_l
  clear h_len_l
  have B0 := Lib.hid hl0
  clear hl0
  have HB := Lib.hid (Below.refl w.heap.size w)
  go_enter Tryd.func20, Tryd.ntmps20
  go_wp2_with fail
  refine (sfloatIs H_sfloatE_l_xwhoxa.out H_sfloatL_l_xwhoxa.out H_len_l.out (HH.out.up (by repeat (first | exact HB.out | refine below_alloc ?_ _ | refine Below.drew ?_ | refine below_set ?_ (by omega) _))) (by repeat (first | exact B0.out | refine SubsW.drew ?_ | refine SubsW.alloc ?_ _))).mono ?_
  rintro e w1 ⟨A1, c1, rfl, hR1, hB⟩
  replace HB := Lib.hid (below_call (w := w) (by repeat (first | exact HB.out | refine below_alloc ?_ _ | refine Below.drew ?_ | refine below_set ?_ (by omega) _)) hB)
  have z1 : w.heap.size ≤ w1.heap.size := HB.out.size
  clear hB
  have B2 := Lib.hid (show SubsW w1 (.slice A1 m1.length c1) m1 from hR1)
  clear hR1
  go_wp2_with fail
  go_ret
  exact ⟨_, _, rfl, (by repeat (first | exact B2.out | refine SubsW.drew ?_ | refine SubsW.alloc ?_ _)), (by repeat (first | exact HB.out | refine below_alloc ?_ _ | refine Below.drew ?_ | refine below_set ?_ (by omega) _))⟩
set_option maxRecDepth 100000 in
set_option maxHeartbeats 8000000 in
theorem done_1n (sa : Addr) (l m1 : List Sub) (A0 : Option Addr) (c0 : Nat) (x : Deed) (n : Int) (w : World) (hh : Env sa w) (hl0 : SubsW w (.slice A0 l.length c0) l) (h_sfloatE_l_xwhoxa : sfloatE l (x.who) (x.a) = n) (h_sfloatL_l_xwhoxa : sfloatL l (x.who) (x.a) = m1) (h_len_l : l.length ≤ 1000) (v0 : (IntKind.u64.wrap x.d).tmod 3 = 1) (v1 : (n != 0) = true) :
    Calls Tryd.prog 20 #[.slice A0 l.length c0, .agg #[.int .i64 x.d, .int .i64 x.who, .int .i64 x.ch, .int .i64 x.a.lv, .int .u64 (u x.a.c), .int .i64 x.a.ig]] w (fun e w' => ∃ A c, e = .returned (.slice A l.length c) ∧ SubsW w' (.slice A l.length c) l ∧ Below w.heap.size w w') := by
  have HH := Lib.hid hh
  clear hh
  have H_sfloatE_l_xwhoxa := Lib.hid h_sfloatE_l_xwhoxa
  clear h_sfloatE_l_xwhoxa
  have H_sfloatL_l_xwhoxa := Lib.hid h_sfloatL_l_xwhoxa
  clear h_sfloatL_l_xwhoxa
  have H_len_l := Lib.hid h_len_l
  clear h_len_l
  have B0 := Lib.hid hl0
  clear hl0
  have HB := Lib.hid (Below.refl w.heap.size w)
  go_enter Tryd.func20, Tryd.ntmps20
  go_wp2_with fail
  refine (sfloatIs H_sfloatE_l_xwhoxa.out H_sfloatL_l_xwhoxa.out H_len_l.out (HH.out.up (by repeat (first | exact HB.out | refine below_alloc ?_ _ | refine Below.drew ?_ | refine below_set ?_ (by omega) _))) (by repeat (first | exact B0.out | refine SubsW.drew ?_ | refine SubsW.alloc ?_ _))).mono ?_
  rintro e w1 ⟨A1, c1, rfl, hR1, hB⟩
  replace HB := Lib.hid (below_call (w := w) (by repeat (first | exact HB.out | refine below_alloc ?_ _ | refine Below.drew ?_ | refine below_set ?_ (by omega) _)) hB)
  have z1 : w.heap.size ≤ w1.heap.size := HB.out.size
  replace B0 : Hid (SubsW w1 (.slice A0 l.length c0) l) := Lib.hid (SubsW.after (by repeat (first | exact B0.out | refine SubsW.drew ?_ | refine SubsW.alloc ?_ _)) hB)
  clear hB
  have B2 := Lib.hid (show SubsW w1 (.slice A1 m1.length c1) m1 from hR1)
  clear hR1
  go_wp2_with fail
  go_ret
  exact ⟨_, _, rfl, (by repeat (first | exact B0.out | refine SubsW.drew ?_ | refine SubsW.alloc ?_ _)), (by repeat (first | exact HB.out | refine below_alloc ?_ _ | refine Below.drew ?_ | refine below_set ?_ (by omega) _))⟩
set_option maxRecDepth 100000 in
set_option maxHeartbeats 8000000 in
theorem done_20 (sa : Addr) (l m1 : List Sub) (A0 : Option Addr) (c0 : Nat) (x : Deed) (w : World) (hh : Env sa w) (hl0 : SubsW w (.slice A0 l.length c0) l) (h_exitE_l_xwho : exitE l (x.who) = 0) (h_exitL_l_xwho : exitL l (x.who) = m1) (h_len_l : l.length ≤ 1000) (v0 : (IntKind.u64.wrap x.d).tmod 3 = 2) :
    Calls Tryd.prog 20 #[.slice A0 l.length c0, .agg #[.int .i64 x.d, .int .i64 x.who, .int .i64 x.ch, .int .i64 x.a.lv, .int .u64 (u x.a.c), .int .i64 x.a.ig]] w (fun e w' => ∃ A c, e = .returned (.slice A m1.length c) ∧ SubsW w' (.slice A m1.length c) m1 ∧ Below w.heap.size w w') := by
  have HH := Lib.hid hh
  clear hh
  have H_exitE_l_xwho := Lib.hid h_exitE_l_xwho
  clear h_exitE_l_xwho
  have H_exitL_l_xwho := Lib.hid h_exitL_l_xwho
  clear h_exitL_l_xwho
  have H_len_l := Lib.hid h_len_l
  clear h_len_l
  have B0 := Lib.hid hl0
  clear hl0
  have HB := Lib.hid (Below.refl w.heap.size w)
  go_enter Tryd.func20, Tryd.ntmps20
  go_wp2_with fail
  refine (exitIs H_exitE_l_xwho.out H_exitL_l_xwho.out H_len_l.out (HH.out.up (by repeat (first | exact HB.out | refine below_alloc ?_ _ | refine Below.drew ?_ | refine below_set ?_ (by omega) _))).h (by repeat (first | exact B0.out | refine SubsW.drew ?_ | refine SubsW.alloc ?_ _))).mono ?_
  rintro e w1 ⟨A1, c1, rfl, hR1, hB⟩
  replace HB := Lib.hid (below_call (w := w) (by repeat (first | exact HB.out | refine below_alloc ?_ _ | refine Below.drew ?_ | refine below_set ?_ (by omega) _)) hB)
  have z1 : w.heap.size ≤ w1.heap.size := HB.out.size
  clear hB
  have B2 := Lib.hid (show SubsW w1 (.slice A1 m1.length c1) m1 from hR1)
  clear hR1
  go_wp2_with fail
  go_ret
  exact ⟨_, _, rfl, (by repeat (first | exact B2.out | refine SubsW.drew ?_ | refine SubsW.alloc ?_ _)), (by repeat (first | exact HB.out | refine below_alloc ?_ _ | refine Below.drew ?_ | refine below_set ?_ (by omega) _))⟩
set_option maxRecDepth 100000 in
set_option maxHeartbeats 8000000 in
theorem done_2n (sa : Addr) (l m1 : List Sub) (A0 : Option Addr) (c0 : Nat) (x : Deed) (n : Int) (w : World) (hh : Env sa w) (hl0 : SubsW w (.slice A0 l.length c0) l) (h_exitE_l_xwho : exitE l (x.who) = n) (h_exitL_l_xwho : exitL l (x.who) = m1) (h_len_l : l.length ≤ 1000) (v0 : (IntKind.u64.wrap x.d).tmod 3 = 2) (v1 : (n != 0) = true) :
    Calls Tryd.prog 20 #[.slice A0 l.length c0, .agg #[.int .i64 x.d, .int .i64 x.who, .int .i64 x.ch, .int .i64 x.a.lv, .int .u64 (u x.a.c), .int .i64 x.a.ig]] w (fun e w' => ∃ A c, e = .returned (.slice A l.length c) ∧ SubsW w' (.slice A l.length c) l ∧ Below w.heap.size w w') := by
  have HH := Lib.hid hh
  clear hh
  have H_exitE_l_xwho := Lib.hid h_exitE_l_xwho
  clear h_exitE_l_xwho
  have H_exitL_l_xwho := Lib.hid h_exitL_l_xwho
  clear h_exitL_l_xwho
  have H_len_l := Lib.hid h_len_l
  clear h_len_l
  have B0 := Lib.hid hl0
  clear hl0
  have HB := Lib.hid (Below.refl w.heap.size w)
  go_enter Tryd.func20, Tryd.ntmps20
  go_wp2_with fail
  refine (exitIs H_exitE_l_xwho.out H_exitL_l_xwho.out H_len_l.out (HH.out.up (by repeat (first | exact HB.out | refine below_alloc ?_ _ | refine Below.drew ?_ | refine below_set ?_ (by omega) _))).h (by repeat (first | exact B0.out | refine SubsW.drew ?_ | refine SubsW.alloc ?_ _))).mono ?_
  rintro e w1 ⟨A1, c1, rfl, hR1, hB⟩
  replace HB := Lib.hid (below_call (w := w) (by repeat (first | exact HB.out | refine below_alloc ?_ _ | refine Below.drew ?_ | refine below_set ?_ (by omega) _)) hB)
  have z1 : w.heap.size ≤ w1.heap.size := HB.out.size
  replace B0 : Hid (SubsW w1 (.slice A0 l.length c0) l) := Lib.hid (SubsW.after (by repeat (first | exact B0.out | refine SubsW.drew ?_ | refine SubsW.alloc ?_ _)) hB)
  clear hB
  have B2 := Lib.hid (show SubsW w1 (.slice A1 m1.length c1) m1 from hR1)
  clear hR1
  go_wp2_with fail
  go_ret
  exact ⟨_, _, rfl, (by repeat (first | exact B0.out | refine SubsW.drew ?_ | refine SubsW.alloc ?_ _)), (by repeat (first | exact HB.out | refine below_alloc ?_ _ | refine Below.drew ?_ | refine below_set ?_ (by omega) _))⟩
theorem done_any (sa : Addr) (l : List Sub) (A0 : Option Addr) (c0 : Nat) (x : Deed) (w : World) (hh : Env sa w) (hl : SubsW w (.slice A0 l.length c0) l) (hle : l.length ≤ 1000) :
    Calls Tryd.prog 20 #[.slice A0 l.length c0, .agg #[.int .i64 x.d, .int .i64 x.who, .int .i64 x.ch, .int .i64 x.a.lv, .int .u64 (u x.a.c), .int .i64 x.a.ig]] w fun e w' => ∃ A c, e = .returned (.slice A (doneL l x).length c) ∧ SubsW w' (.slice A (doneL l x).length c) (doneL l x) ∧ Below w.heap.size w w' := by
  rcases modD_cases x with h | h | h
  · have e1 : doneE l x = startE l x.who x.ch := by unfold doneE; rw [if_pos h]
    have e2 : doneR l x = startL l x.who x.ch := by unfold doneR; rw [if_pos h]
    unfold doneL
    rw [e1, e2]
    by_cases h0 : startE l x.who x.ch = 0
    · rw [if_pos h0]; exact done_00 sa l _ A0 c0 x w hh hl h0 rfl hle h
    · rw [if_neg h0]; exact done_0n sa l _ A0 c0 x _ w hh hl rfl rfl hle h (bne_iff_ne.2 h0)
  · have h' : ¬ modD x = 0 := by omega
    have e1 : doneE l x = sfloatE l x.who x.a := by unfold doneE; rw [if_neg h', if_pos h]
    have e2 : doneR l x = sfloatL l x.who x.a := by unfold doneR; rw [if_neg h', if_pos h]
    unfold doneL
    rw [e1, e2]
    by_cases h0 : sfloatE l x.who x.a = 0
    · rw [if_pos h0]; exact done_10 sa l _ A0 c0 x w hh hl h0 rfl hle h
    · rw [if_neg h0]; exact done_1n sa l _ A0 c0 x _ w hh hl rfl rfl hle h (bne_iff_ne.2 h0)
  · have h' : ¬ modD x = 0 := by omega
    have h'' : ¬ modD x = 1 := by omega
    have e1 : doneE l x = exitE l x.who := by unfold doneE; rw [if_neg h', if_neg h'']
    have e2 : doneR l x = exitL l x.who := by unfold doneR; rw [if_neg h', if_neg h'']
    unfold doneL
    rw [e1, e2]
    by_cases h0 : exitE l x.who = 0
    · rw [if_pos h0]; exact done_20 sa l _ A0 c0 x w hh hl h0 rfl hle h
    · rw [if_neg h0]; exact done_2n sa l _ A0 c0 x _ w hh hl rfl rfl hle h (bne_iff_ne.2 h0)
theorem doneIs {sa : Addr} {l m : List Sub} {x : Deed} (hm : doneL l x = m) (hle : l.length ≤ 1000) {w : World} (hh : Env sa w) {v : Value} (hl : SubsW w v l) :
    Calls Tryd.prog 20 #[v, .agg #[.int .i64 x.d, .int .i64 x.who, .int .i64 x.ch, .int .i64 x.a.lv, .int .u64 (u x.a.c), .int .i64 x.a.ig]] w fun e w' => ∃ A c, e = .returned (.slice A m.length c) ∧ SubsW w' (.slice A m.length c) m ∧ Below w.heap.size w w' := by
  obtain ⟨A0, c0, rfl, _⟩ := RowsAt.slice hl
  subst hm; exact done_any sa l A0 c0 x w hh hl hle
end Go.Proofs.YteepgbkblgcegaaDoor
