/-
  PACKAGES subject, plimsollref16: Start, Float as wholes (printed by wip/gensub13.py).
  PACKAGES subject, plimsollref16: Start, Float as wholes (printed by wip/gensub13.py).
  PACKAGE subject: the iterator of table.under.
  PACKAGE subject: Seen.
  PACKAGE plimsollref16: Seen (printed by wip/gensub14.py).
  LISTS OF INTEGERS in memory; plimsollref01.Ints (cut out by wip/cutints.py).
  CONTRACTS on subjects, as the statements' walks take them: what is told is a hypothesis, what is answered is a slice laid in the world behind the call.
  SLICES OF SUBJECTS, OF ACTS that came in; an act that came in.
  LAW 16: shown (printed by wip/genlaw16.py).
  LAW 16: shown; SubjectActs (printed by wip/genlaw16.py).
-/
import Derived.Test.YteepgbkblgcegaaDoorM4
import Derived.RangeFuncNested
import Derived.RangeFuncBound
import Derived.RangeFuncCalls
import Derived.RangeFuncLeaves
import Derived.RangeFuncBox
import Derived.Shelf.Abstract
import Derived.Shelf.RegionOpen
import Derived.OwnWalkIn
import Derived.TacticsInMore
import Derived.LoopNIn
import Derived.LoopIn
import Derived.WalkMore
import Derived.Deep.DeepCutAuto
import Derived.LoopN
import Derived.BigQuiet
namespace Go.Proofs.YteepgbkblgcegaaDoor

section
open Go.RowKit

attribute [local go_sem] u_and u_or u_andNot u_add u_sub u_bit u_eq_zero u_beq

set_option maxRecDepth 100000 in
set_option maxHeartbeats 4000000 in
theorem FloatS_bad (l : List Sub) (v : Value) (a : Lab) (sa : Addr) (who y : Int) (w : World) (hl : SubsAt w.heap.size w v l) (hh : Env sa w) (hop : openO l who = some y) (hle : l.length ≤ 1000) :
    Calls Tryd.prog 14 #[v, .int .i64 who, .agg #[.int .i64 a.lv, .int .u64 (u a.c), .int .i64 a.ig]] w fun e w' => ∃ v', e = .returned (.tuple #[v', .int .i64 y]) ∧ SubsAt w'.heap.size w' v' [] ∧ Below w.heap.size w w' := by
  have HL := Lib.hid hl
  have HH := Lib.hid hh
  have HOP := Lib.hid hop
  clear hl hh hop
  have HB := Lib.hid (Below.refl w.heap.size w)
  go_enter Tryd.func14, Tryd.ntmps14
  go_wp2_with fail
  refine (open_any l v who _ (HL.out.later (by repeat (first | exact HB.out | refine below_alloc ?_ _ | refine Below.drew ?_ | refine below_set ?_ (by omega) _)) ((show Below w.heap.size w _ by repeat (first | exact HB.out | refine below_alloc ?_ _ | refine Below.drew ?_ | refine below_set ?_ (by omega) _))).size) hle).mono ?_
  rintro e w1 ⟨eb, v', rfl, hge, hE, hT, hne, hB⟩
  replace HB := Lib.hid (below_call (w := w) (by repeat (first | exact HB.out | refine below_alloc ?_ _ | refine Below.drew ?_ | refine below_set ?_ (by omega) _)) hB)
  have z1 : w.heap.size ≤ w1.heap.size := HB.out.size
  have B0 : Hid (Blk w1 (w.heap.size) 3 #[.int .i64 who]) := Lib.hid (Blk.after (by repeat (first | exact Blk.new' (by simp; done) | exact Blk.new' rfl | refine Blk.drew ?_ | refine Blk.alloc ?_ _)) hB)
  have B1 : Hid (Blk w1 (w.heap.size + 1) 25 #[.int .i64 a.lv, .int .u64 (u a.c), .int .i64 a.ig]) := Lib.hid (Blk.after (by repeat (first | exact Blk.new' (by simp; done) | exact Blk.new' rfl | refine Blk.drew ?_ | refine Blk.alloc ?_ _)) hB)
  clear hB
  obtain ⟨A', c', rfl⟩ := hT.slice
  have zg : w.heap.size + 2 ≤ eb := by simp at hge; omega
  have ze : eb < w1.heap.size := hE.lt
  rw [HOP.out] at hE
  have B2 := Lib.hid (show Blk w1 eb 63 #[.slice A' l.length c', .int .i64 who, .iface 85 (.agg #[.int .i64 who, .iface 83 (.agg #[.int .i64 y])])] from hE)
  clear hE hT hne hge
  go_wp2_with fail
  refine (edit_wrong who y eb _ _ _ (by repeat (first | exact B2.out | exact Blk.new' (by simp; done) | exact Blk.new' rfl | refine Blk.drew ?_ | refine Blk.alloc ?_ _)) (HH.out.h.up (by repeat (first | exact HB.out | refine below_alloc ?_ _ | refine Below.drew ?_ | refine below_set ?_ (by omega) _)))).mono ?_
  rintro e w2 ⟨rfl, hB⟩
  replace HB := Lib.hid (below_call (w := w) (by repeat (first | exact HB.out | refine below_alloc ?_ _ | refine Below.drew ?_ | refine below_set ?_ (by omega) _)) hB)
  have z2 : w.heap.size ≤ w2.heap.size := HB.out.size
  replace B0 : Hid (Blk w2 (w.heap.size) 3 #[.int .i64 who]) := Lib.hid (Blk.after (by repeat (first | exact B0.out | exact Blk.new' (by simp; done) | exact Blk.new' rfl | refine Blk.drew ?_ | refine Blk.alloc ?_ _)) hB)
  replace B1 : Hid (Blk w2 (w.heap.size + 1) 25 #[.int .i64 a.lv, .int .u64 (u a.c), .int .i64 a.ig]) := Lib.hid (Blk.after (by repeat (first | exact B1.out | exact Blk.new' (by simp; done) | exact Blk.new' rfl | refine Blk.drew ?_ | refine Blk.alloc ?_ _)) hB)
  replace B2 : Hid (Blk w2 (eb) 63 #[.slice A' l.length c', .int .i64 who, .iface 85 (.agg #[.int .i64 who, .iface 83 (.agg #[.int .i64 y])])]) := Lib.hid (Blk.after (by repeat (first | exact B2.out | exact Blk.new' (by simp; done) | exact Blk.new' rfl | refine Blk.drew ?_ | refine Blk.alloc ?_ _)) hB)
  have B3 : Hid (Blk w2 (w1.heap.size) 54 #[.pointer (some ⟨eb, 0, none⟩)]) := Lib.hid (Blk.after (by repeat (first | exact Blk.new' (by simp; done) | exact Blk.new' rfl | refine Blk.drew ?_ | refine Blk.alloc ?_ _)) hB)
  clear hB
  go_wp2_with fail
  go_ret2
  exact ⟨_, rfl, RowsAt.nil _ _, (by repeat (first | exact HB.out | refine below_alloc ?_ _ | refine Below.drew ?_ | refine below_set ?_ (by omega) _))⟩
set_option maxRecDepth 100000 in
set_option maxHeartbeats 4000000 in
theorem FloatS_no (l : List Sub) (v : Value) (a : Lab) (sa : Addr) (k : Nat) (x : Sub) (nx : Lab) (n : Int) (w : World) (hl : SubsAt w.heap.size w v l) (hh : Env sa w) (hop : openO l (k : Int) = none) (hx : l[k]? = some x) (hn : floatL x.cur a x.high = nx) (he : floatE x.cur a x.high = n) (hle : l.length ≤ 1000) (hny : (n == 0) = false) :
    Calls Tryd.prog 14 #[v, .int .i64 (k : Int), .agg #[.int .i64 a.lv, .int .u64 (u a.c), .int .i64 a.ig]] w fun e w' => ∃ v', e = .returned (.tuple #[v', .int .i64 n]) ∧ SubsAt w'.heap.size w' v' [] ∧ Below w.heap.size w w' := by
  have hkl : k < l.length := (List.getElem?_eq_some_iff.1 hx).1
  have HL := Lib.hid hl
  have HH := Lib.hid hh
  have HOP := Lib.hid hop
  have HX := Lib.hid hx
  have HNX := Lib.hid hn
  have HEX := Lib.hid he
  clear hl hh hop hx hn he
  have HB := Lib.hid (Below.refl w.heap.size w)
  go_enter Tryd.func14, Tryd.ntmps14
  go_wp2_with fail
  refine (open_any l v (k : Int) _ (HL.out.later (by repeat (first | exact HB.out | refine below_alloc ?_ _ | refine Below.drew ?_ | refine below_set ?_ (by omega) _)) ((show Below w.heap.size w _ by repeat (first | exact HB.out | refine below_alloc ?_ _ | refine Below.drew ?_ | refine below_set ?_ (by omega) _))).size) hle).mono ?_
  rintro e w1 ⟨eb, v', rfl, hge, hE, hT, hne, hB⟩
  replace HB := Lib.hid (below_call (w := w) (by repeat (first | exact HB.out | refine below_alloc ?_ _ | refine Below.drew ?_ | refine below_set ?_ (by omega) _)) hB)
  have z1 : w.heap.size ≤ w1.heap.size := HB.out.size
  have B0 : Hid (Blk w1 (w.heap.size) 3 #[.int .i64 (k : Int)]) := Lib.hid (Blk.after (by repeat (first | exact Blk.new' (by simp; done) | exact Blk.new' rfl | refine Blk.drew ?_ | refine Blk.alloc ?_ _)) hB)
  have B1 : Hid (Blk w1 (w.heap.size + 1) 25 #[.int .i64 a.lv, .int .u64 (u a.c), .int .i64 a.ig]) := Lib.hid (Blk.after (by repeat (first | exact Blk.new' (by simp; done) | exact Blk.new' rfl | refine Blk.drew ?_ | refine Blk.alloc ?_ _)) hB)
  clear hB
  obtain ⟨A', c', rfl⟩ := hT.slice
  have zg : w.heap.size + 2 ≤ eb := by simp at hge; omega
  have ze : eb < w1.heap.size := hE.lt
  rw [HOP.out] at hE
  obtain ⟨g, cs, rfl, _, hg, hG, hc1, hc2, r, hr⟩ := hT.cons HX.out
  have zh : w.heap.size + 2 ≤ g := by simp at hg; omega
  have zi : g < w1.heap.size := hG.lt
  have zj : g ≠ eb := hne _ _ _ rfl
  have B2 := Lib.hid (show Blk w1 eb 63 #[.slice (some ⟨g, 0, none⟩) l.length c', .int .i64 (k : Int), .nilIface] from hE)
  have B3 := Lib.hid hG
  have HO0 : Hid (cs[k * 8]? = some (.int .i64 x.par)) := Lib.hid (tab_cell (j := 0) hr HX.out rfl)
  have HO1 : Hid (cs[k * 8 + 1]? = some (.int .i64 x.st)) := Lib.hid (tab_cell (j := 1) hr HX.out rfl)
  have HO2 : Hid (cs[k * 8 + 2]? = some (.int .i64 x.cur.lv)) := Lib.hid (tab_cell (j := 2) hr HX.out rfl)
  have HO3 : Hid (cs[k * 8 + 3]? = some (.int .u64 (u x.cur.c))) := Lib.hid (tab_cell (j := 3) hr HX.out rfl)
  have HO4 : Hid (cs[k * 8 + 4]? = some (.int .i64 x.cur.ig)) := Lib.hid (tab_cell (j := 4) hr HX.out rfl)
  have HO5 : Hid (cs[k * 8 + 5]? = some (.int .i64 x.high.lv)) := Lib.hid (tab_cell (j := 5) hr HX.out rfl)
  have HO6 : Hid (cs[k * 8 + 6]? = some (.int .u64 (u x.high.c))) := Lib.hid (tab_cell (j := 6) hr HX.out rfl)
  have HO7 : Hid (cs[k * 8 + 7]? = some (.int .i64 x.high.ig)) := Lib.hid (tab_cell (j := 7) hr HX.out rfl)
  have HR := Lib.hid hr
  clear hE hT hne hG hr hge hg
  go_wp2_with fail
  refine (edit_float_no (k : Int) n eb l.length c' (some ⟨g, 0, none⟩) _ _ (fun W' => Blk W' eb 63 #[.slice (some ⟨g, 0, none⟩) l.length c', .int .i64 (k : Int), .iface 85 (.agg #[.int .i64 (k : Int), .iface 83 (.agg #[.int .i64 n])])] ∧ Blk W' g 41 (((cs.setIfInBounds (k * 8 + 2) (.int .i64 nx.lv)).setIfInBounds (k * 8 + 3) (.int .u64 (u nx.c))).setIfInBounds (k * 8 + 4) (.int .i64 nx.ig)) ∧ Below w.heap.size w W') (by repeat (first | exact B2.out | exact Blk.new' (by simp; done) | exact Blk.new' rfl | refine Blk.drew ?_ | refine Blk.alloc ?_ _)) (float_do_no (w1.heap.size) (w.heap.size) (w.heap.size + 1) eb g l.length c' k (k : Int) n x nx a sa cs w _ HH.out (by repeat (first | exact HB.out | refine below_alloc ?_ _ | refine Below.drew ?_ | refine below_set ?_ (by omega) _)) (by repeat (first | exact Blk.new' (by simp; done) | exact Blk.new' rfl | refine Blk.drew ?_ | refine Blk.alloc ?_ _)) (by repeat (first | exact B0.out | exact Blk.new' (by simp; done) | exact Blk.new' rfl | refine Blk.drew ?_ | refine Blk.alloc ?_ _)) (by repeat (first | exact B1.out | exact Blk.new' (by simp; done) | exact Blk.new' rfl | refine Blk.drew ?_ | refine Blk.alloc ?_ _)) (by repeat (first | exact B2.out | exact Blk.new' (by simp; done) | exact Blk.new' rfl | refine Blk.drew ?_ | refine Blk.alloc ?_ _)) (by repeat (first | exact B3.out | exact Blk.new' (by simp; done) | exact Blk.new' rfl | refine Blk.drew ?_ | refine Blk.alloc ?_ _)) hkl HO0.out HO1.out HO2.out HO3.out HO4.out HO5.out HO6.out HO7.out HNX.out HEX.out hny (by omega) (by omega) (by omega) (by omega) (by omega) (by omega) (by omega) (by omega) (by omega)) (fun W' h => ⟨h.1, HH.out.h.up h.2.2⟩)).mono ?_
  rintro e w2 ⟨rfl, w9, ⟨hE2, hG2, hB2⟩, hB⟩
  have HB9 := Lib.hid (below_call hB2 hB)
  clear hE2 hG2 hB2 hB
  go_wp2_with fail
  go_ret2
  exact ⟨_, rfl, RowsAt.nil _ _, HB9.out⟩
set_option maxRecDepth 100000 in
set_option maxHeartbeats 4000000 in
theorem FloatS_ok (l : List Sub) (v : Value) (a : Lab) (sa : Addr) (k : Nat) (x : Sub) (nx : Lab) (w : World) (hl : SubsAt w.heap.size w v l) (hh : Env sa w) (hop : openO l (k : Int) = none) (hx : l[k]? = some x) (hn : floatL x.cur a x.high = nx) (he : floatE x.cur a x.high = 0) (hle : l.length ≤ 1000) :
    Calls Tryd.prog 14 #[v, .int .i64 (k : Int), .agg #[.int .i64 a.lv, .int .u64 (u a.c), .int .i64 a.ig]] w fun e w' => ∃ v', e = .returned (.tuple #[v', .int .i64 0]) ∧ SubsAt w'.heap.size w' v' (l.set k { x with cur := nx }) ∧ Below w.heap.size w w' := by
  have hkl : k < l.length := (List.getElem?_eq_some_iff.1 hx).1
  have HL := Lib.hid hl
  have HH := Lib.hid hh
  have HOP := Lib.hid hop
  have HX := Lib.hid hx
  have HNX := Lib.hid hn
  have HEX := Lib.hid he
  clear hl hh hop hx hn he
  have HB := Lib.hid (Below.refl w.heap.size w)
  go_enter Tryd.func14, Tryd.ntmps14
  go_wp2_with fail
  refine (open_any l v (k : Int) _ (HL.out.later (by repeat (first | exact HB.out | refine below_alloc ?_ _ | refine Below.drew ?_ | refine below_set ?_ (by omega) _)) ((show Below w.heap.size w _ by repeat (first | exact HB.out | refine below_alloc ?_ _ | refine Below.drew ?_ | refine below_set ?_ (by omega) _))).size) hle).mono ?_
  rintro e w1 ⟨eb, v', rfl, hge, hE, hT, hne, hB⟩
  replace HB := Lib.hid (below_call (w := w) (by repeat (first | exact HB.out | refine below_alloc ?_ _ | refine Below.drew ?_ | refine below_set ?_ (by omega) _)) hB)
  have z1 : w.heap.size ≤ w1.heap.size := HB.out.size
  have B0 : Hid (Blk w1 (w.heap.size) 3 #[.int .i64 (k : Int)]) := Lib.hid (Blk.after (by repeat (first | exact Blk.new' (by simp; done) | exact Blk.new' rfl | refine Blk.drew ?_ | refine Blk.alloc ?_ _)) hB)
  have B1 : Hid (Blk w1 (w.heap.size + 1) 25 #[.int .i64 a.lv, .int .u64 (u a.c), .int .i64 a.ig]) := Lib.hid (Blk.after (by repeat (first | exact Blk.new' (by simp; done) | exact Blk.new' rfl | refine Blk.drew ?_ | refine Blk.alloc ?_ _)) hB)
  clear hB
  obtain ⟨A', c', rfl⟩ := hT.slice
  have zg : w.heap.size + 2 ≤ eb := by simp at hge; omega
  have ze : eb < w1.heap.size := hE.lt
  rw [HOP.out] at hE
  obtain ⟨g, cs, rfl, _, hg, hG, hc1, hc2, r, hr⟩ := hT.cons HX.out
  have zh : w.heap.size + 2 ≤ g := by simp at hg; omega
  have zi : g < w1.heap.size := hG.lt
  have zj : g ≠ eb := hne _ _ _ rfl
  have B2 := Lib.hid (show Blk w1 eb 63 #[.slice (some ⟨g, 0, none⟩) l.length c', .int .i64 (k : Int), .nilIface] from hE)
  have B3 := Lib.hid hG
  have HO0 : Hid (cs[k * 8]? = some (.int .i64 x.par)) := Lib.hid (tab_cell (j := 0) hr HX.out rfl)
  have HO1 : Hid (cs[k * 8 + 1]? = some (.int .i64 x.st)) := Lib.hid (tab_cell (j := 1) hr HX.out rfl)
  have HO2 : Hid (cs[k * 8 + 2]? = some (.int .i64 x.cur.lv)) := Lib.hid (tab_cell (j := 2) hr HX.out rfl)
  have HO3 : Hid (cs[k * 8 + 3]? = some (.int .u64 (u x.cur.c))) := Lib.hid (tab_cell (j := 3) hr HX.out rfl)
  have HO4 : Hid (cs[k * 8 + 4]? = some (.int .i64 x.cur.ig)) := Lib.hid (tab_cell (j := 4) hr HX.out rfl)
  have HO5 : Hid (cs[k * 8 + 5]? = some (.int .i64 x.high.lv)) := Lib.hid (tab_cell (j := 5) hr HX.out rfl)
  have HO6 : Hid (cs[k * 8 + 6]? = some (.int .u64 (u x.high.c))) := Lib.hid (tab_cell (j := 6) hr HX.out rfl)
  have HO7 : Hid (cs[k * 8 + 7]? = some (.int .i64 x.high.ig)) := Lib.hid (tab_cell (j := 7) hr HX.out rfl)
  have HR := Lib.hid hr
  clear hE hT hne hG hr hge hg
  go_wp2_with fail
  refine (edit_float_ok (k : Int) eb l.length c' (some ⟨g, 0, none⟩) _ _ (fun W' => Blk W' eb 63 #[.slice (some ⟨g, 0, none⟩) l.length c', .int .i64 (k : Int), .nilIface] ∧ Blk W' g 41 (((cs.setIfInBounds (k * 8 + 2) (.int .i64 nx.lv)).setIfInBounds (k * 8 + 3) (.int .u64 (u nx.c))).setIfInBounds (k * 8 + 4) (.int .i64 nx.ig)) ∧ Below w.heap.size w W') (by repeat (first | exact B2.out | exact Blk.new' (by simp; done) | exact Blk.new' rfl | refine Blk.drew ?_ | refine Blk.alloc ?_ _)) (float_do_ok (w1.heap.size) (w.heap.size) (w.heap.size + 1) eb g l.length c' k (k : Int) x nx a sa cs w _ HH.out (by repeat (first | exact HB.out | refine below_alloc ?_ _ | refine Below.drew ?_ | refine below_set ?_ (by omega) _)) (by repeat (first | exact Blk.new' (by simp; done) | exact Blk.new' rfl | refine Blk.drew ?_ | refine Blk.alloc ?_ _)) (by repeat (first | exact B0.out | exact Blk.new' (by simp; done) | exact Blk.new' rfl | refine Blk.drew ?_ | refine Blk.alloc ?_ _)) (by repeat (first | exact B1.out | exact Blk.new' (by simp; done) | exact Blk.new' rfl | refine Blk.drew ?_ | refine Blk.alloc ?_ _)) (by repeat (first | exact B2.out | exact Blk.new' (by simp; done) | exact Blk.new' rfl | refine Blk.drew ?_ | refine Blk.alloc ?_ _)) (by repeat (first | exact B3.out | exact Blk.new' (by simp; done) | exact Blk.new' rfl | refine Blk.drew ?_ | refine Blk.alloc ?_ _)) hkl HO0.out HO1.out HO2.out HO3.out HO4.out HO5.out HO6.out HO7.out HNX.out HEX.out (by omega) (by omega) (by omega) (by omega) (by omega) (by omega) (by omega) (by omega) (by omega)) (fun W' h => h.1)).mono ?_
  rintro e w2 ⟨rfl, hE2, hG2, hB⟩
  have HG2 := Lib.hid hG2
  have HB9 := Lib.hid hB
  clear hE2 hG2 hB
  go_wp2_with fail
  go_ret2
  have hf := RowsAt.of_blk (l := l.set k { x with cur := nx }) (cap := c') encS_size HG2.out ⟨r, rows_cur HR.out HX.out⟩ (by rw [List.length_set]; omega) (by omega)
  rw [List.length_set] at hf
  exact ⟨_, rfl, hf, HB9.out⟩
end

section
open Go.RowKit

attribute [local go_sem] u_and u_or u_andNot u_add u_sub u_bit u_eq_zero u_beq

/-- what Start answers -/
def childO (l : List Sub) (child : Int) : Option Sub := if 0 ≤ child then l[child.toNat]? else none
def startE (l : List Sub) (who child : Int) : Int := match openO l who with
  | some y => y
  | none => (match childO l child with
    | none => 162
    | some x => if (x.par == who) = true ∧ (x.st == 0) = true then (match l[who.toNat]? with | some p => if underL p.cur x.high then 0 else 120 | none => 0) else 162)
def startL (l : List Sub) (who child : Int) : List Sub := match openO l who with
  | some _ => []
  | none => (match childO l child with
    | none => []
    | some x => if (x.par == who) = true ∧ (x.st == 0) = true then (match l[who.toNat]? with | some p => if underL p.cur x.high then l.set child.toNat { x with st := 1, cur := p.cur } else [] | none => []) else [])
theorem childO_some {l : List Sub} {child : Int} {x : Sub} (h : childO l child = some x) : ∃ c : Nat, child = (c : Int) ∧ l[c]? = some x := by
  unfold childO at h
  by_cases h0 : 0 ≤ child
  · rw [if_pos h0] at h
    exact ⟨child.toNat, by omega, h⟩
  · rw [if_neg h0] at h; cases h
theorem childO_none {l : List Sub} {child : Int} (h : childO l child = none) : (decide ((0 : Int) ≤ child) && decide (child < (l.length : Int))) = false := by
  unfold childO at h
  by_cases h0 : 0 ≤ child
  · rw [if_pos h0, List.getElem?_eq_none_iff] at h
    simp; omega
  · simp [h0]
theorem childO_in {l : List Sub} {c : Nat} {x : Sub} (h : l[c]? = some x) : childO l (c : Int) = some x := by
  unfold childO; rw [if_pos (by omega), Int.toNat_natCast]; exact h
theorem Start_any (l : List Sub) (v : Value) (who child : Int) (w : World) (hl : SubsAt w.heap.size w v l) (hle : l.length ≤ 1000) (hh : Handle w) :
    Calls Tryd.prog 12 #[v, .int .i64 who, .int .i64 child] w fun e w' => ∃ v', e = .returned (.tuple #[v', .int .i64 (startE l who child)]) ∧ SubsAt w'.heap.size w' v' (startL l who child) ∧ Below w.heap.size w w' := by
  cases ho : openO l who with
  | some y =>
    have e1 : startE l who child = y := by unfold startE; rw [ho]
    have e2 : startL l who child = [] := by unfold startL; rw [ho]
    rw [e1, e2]
    cases hc : (decide ((0 : Int) ≤ child) && decide (child < (l.length : Int)))
    · exact Start_a0 l v who y child w hl hh ho hc hle
    · exact Start_a1 l v who y child w hl hh ho hc hle
  | none =>
    cases hx : childO l child with
    | none =>
      have e1 : startE l who child = 162 := by unfold startE; rw [ho, hx]
      have e2 : startL l who child = [] := by unfold startL; rw [ho, hx]
      rw [e1, e2]
      exact Start_b l v who child w hl hh ho (childO_none hx) hle
    | some x =>
      obtain ⟨k, p, rfl, hk, hp, _⟩ := alive_el (open_alive ho).2
      obtain ⟨c, rfl, hxc⟩ := childO_some hx
      have hcl : c < l.length := (List.getElem?_eq_some_iff.1 hxc).1
      have hh2 : (decide ((0 : Int) ≤ (c : Int)) && decide ((c : Int) < (l.length : Int))) = true := by simp; omega
      cases h1 : (x.par == (k : Int))
      · have e1 : startE l k c = 162 := by unfold startE; rw [ho, hx]; simp [h1]
        have e2 : startL l k c = [] := by unfold startL; rw [ho, hx]; simp [h1]
        rw [e1, e2]
        exact Start_c1 l v k c x w hl hh ho hh2 hxc hle h1
      · cases h2 : (x.st == 0)
        · have e1 : startE l k c = 162 := by unfold startE; rw [ho, hx]; simp [h2]
          have e2 : startL l k c = [] := by unfold startL; rw [ho, hx]; simp [h2]
          rw [e1, e2]
          exact Start_c2 l v k c x w hl hh ho hh2 hxc hle h1 h2
        · cases h3 : underL p.cur x.high
          · have e1 : startE l k c = 120 := by unfold startE; rw [ho, hx]; simp [h1, h2, hp, h3]
            have e2 : startL l k c = [] := by unfold startL; rw [ho, hx]; simp [h1, h2, hp, h3]
            rw [e1, e2]
            exact Start_d l v c x k p w hl hh ho hh2 hxc hp h3 hle h1 h2
          · have e1 : startE l k c = 0 := by unfold startE; rw [ho, hx]; simp [h1, h2, hp, h3]
            have e2 : startL l k c = l.set c { x with st := 1, cur := p.cur } := by unfold startL; rw [ho, hx]; simp [h1, h2, hp, h3]
            rw [e1, e2]
            exact Start_e l v c x k p w hl hh ho hh2 hxc hp h3 hle h1 h2
theorem rStart_any (l : List Sub) (v : Value) (who child : Int) (w : World) (hl : SubsAt w.heap.size w v l) (hle : l.length ≤ 1000) :
    Calls Tryd.prog 13 #[v, .int .i64 who, .int .i64 child] w fun e w' => ∃ v', e = .returned (.tuple #[v', .int .i64 (startE l who child)]) ∧ SubsAt w'.heap.size w' v' (startL l who child) ∧ Below w.heap.size w w' := by
  obtain ⟨sA, sc, rfl, _, _, _⟩ := hl.slice
  have bad : ∀ y, exitE l who = y → (y != 0) = true → openO l who = some y → Calls Tryd.prog 13 #[.slice sA l.length sc, .int .i64 who, .int .i64 child] w fun e w' => ∃ v', e = .returned (.tuple #[v', .int .i64 (startE l who child)]) ∧ SubsAt w'.heap.size w' v' (startL l who child) ∧ Below w.heap.size w w' := fun y h0 hy ho => by
    have e1 : startE l who child = y := by unfold startE; rw [ho]
    have e2 : startL l who child = [] := by unfold startL; rw [ho]
    rw [e1, e2]
    exact rStart_bad l sA sc who child y w hl h0 hy
  rcases exitE_cases l who with ⟨ho, h0⟩ | ⟨h0, ho⟩ | ⟨h0, ho⟩
  · cases hx : childO l child with
    | none =>
      have e1 : startE l who child = 162 := by unfold startE; rw [ho, hx]
      have e2 : startL l who child = [] := by unfold startL; rw [ho, hx]
      rw [e1, e2]
      have hn := childO_none hx
      by_cases hlo : child < 0
      · exact rStart_lo l sA sc who child w hl h0 hlo
      · exact rStart_hi l sA sc who child w hl h0 hlo (by simp at hn; omega)
    | some x =>
      obtain ⟨k, p, rfl, hk, hp, _⟩ := alive_el (open_alive ho).2
      obtain ⟨c, rfl, hxc⟩ := childO_some hx
      cases h1 : (x.par == (k : Int))
      · have e1 : startE l k c = 162 := by unfold startE; rw [ho, hx]; simp [h1]
        have e2 : startL l k c = [] := by unfold startL; rw [ho, hx]; simp [h1]
        rw [e1, e2]
        exact rStart_par l sA sc k c x w hl h0 hxc (by rw [bne, h1]; rfl)
      · have h1' : (x.par != (k : Int)) = false := by rw [bne, h1]; rfl
        cases h2 : (x.st == 0)
        · have e1 : startE l k c = 162 := by unfold startE; rw [ho, hx]; simp [h2]
          have e2 : startL l k c = [] := by unfold startL; rw [ho, hx]; simp [h2]
          rw [e1, e2]
          exact rStart_idle l sA sc k c x w hl h0 hxc h1' (by rw [bne, h2]; rfl)
        · have h2' : (x.st != 0) = false := by rw [bne, h2]; rfl
          cases h3 : underL p.cur x.high
          · have e1 : startE l k c = 120 := by unfold startE; rw [ho, hx]; simp [h1, h2, hp, h3]
            have e2 : startL l k c = [] := by unfold startL; rw [ho, hx]; simp [h1, h2, hp, h3]
            rw [e1, e2]
            exact rStart_no l sA sc k p c x w hl h0 hxc hp h3 h1' h2'
          · have e1 : startE l k c = 0 := by unfold startE; rw [ho, hx]; simp [h1, h2, hp, h3]
            have e2 : startL l k c = l.set c { x with st := 1, cur := p.cur } := by unfold startL; rw [ho, hx]; simp [h1, h2, hp, h3]
            rw [e1, e2]
            exact rStart_ok l sA sc k p c x w hl h0 hxc hp h3 h1' h2' hle
  · exact bad _ h0 (by decide) ho
  · exact bad _ h0 (by decide) ho
theorem FloatS_any (l : List Sub) (v : Value) (who : Int) (a : Lab) (sa : Addr) (w : World) (hl : SubsAt w.heap.size w v l) (hle : l.length ≤ 1000) (hh : Env sa w) :
    Calls Tryd.prog 14 #[v, .int .i64 who, .agg #[.int .i64 a.lv, .int .u64 (u a.c), .int .i64 a.ig]] w fun e w' => ∃ v', e = .returned (.tuple #[v', .int .i64 (sfloatE l who a)]) ∧ SubsAt w'.heap.size w' v' (sfloatL l who a) ∧ Below w.heap.size w w' := by
  cases ho : openO l who with
  | some y =>
    have e1 : sfloatE l who a = y := by unfold sfloatE; rw [ho]
    have e2 : sfloatL l who a = [] := by unfold sfloatL; rw [ho]
    rw [e1, e2]
    exact FloatS_bad l v a sa who y w hl hh ho hle
  | none =>
    obtain ⟨k, x, rfl, hk, hx, _⟩ := alive_el (open_alive ho).2
    have e1 : sfloatE l (k : Int) a = floatE x.cur a x.high := by unfold sfloatE; rw [ho, Int.toNat_natCast, hx]
    have e2 : sfloatL l (k : Int) a = if floatE x.cur a x.high = 0 then l.set k { x with cur := floatL x.cur a x.high } else [] := by unfold sfloatL; rw [ho, Int.toNat_natCast, hx]
    rw [e1, e2]
    by_cases hf : floatE x.cur a x.high = 0
    · rw [if_pos hf, hf]
      exact FloatS_ok l v a sa k x _ w hl hh ho hx rfl hf hle
    · rw [if_neg hf]
      exact FloatS_no l v a sa k x _ _ w hl hh ho hx rfl rfl hle (by simpa using hf)
end

section
open Go.RowKit Go.Shelf

attribute [local go_sem] Oper.semAt_some
attribute [local go_sem] u_and u_or u_andNot u_add u_sub u_bit u_eq_zero u_beq

theorem wpInW_scope {n : Nat} {P : Program} {Q : Exit → Act → World → Prop} {a : Act} {w : World} {c : Code} (h : c.wpIn Fence.wide n P (Exit.noGoto Q) a w) : (Code.scope c).wpIn Fence.wide n P Q a w :=
  wpIn_wide.2 (wp_scope_straight (wpIn_wide.1 h))
/-- who is seen from a -/
def seenB (a : Lab) (x : Sub) : Bool := x.st != 0 && underL x.cur a
def seenTo (l : List Sub) (a : Lab) (k : Nat) : List Nat := (List.range k).filter fun i => match l[i]? with | some x => seenB a x | none => false
def seenL (l : List Sub) (a : Lab) : List Nat := seenTo l a l.length
theorem seenTo_yes {l : List Sub} {a : Lab} {k : Nat} {x : Sub} (hx : l[k]? = some x) (h : seenB a x = true) : seenTo l a (k + 1) = seenTo l a k ++ [k] := by
  unfold seenTo; rw [List.range_succ, List.filter_append]; simp [hx, h]
theorem seenTo_no {l : List Sub} {a : Lab} {k : Nat} {x : Sub} (hx : l[k]? = some x) (h : seenB a x = false) : seenTo l a (k + 1) = seenTo l a k := by
  unfold seenTo; rw [List.range_succ, List.filter_append]; simp [hx, h]
theorem seenTo_len (l : List Sub) (a : Lab) (k : Nat) : (seenTo l a k).length ≤ k := by
  unfold seenTo; have := List.length_filter_le (fun i => match l[i]? with | some x => seenB a x | none => false) (List.range k); simpa using this
def encN (k : Nat) : Array Value := #[.int .i64 (k : Int)]
set_option maxRecDepth 100000 in
set_option maxHeartbeats 8000000 in
theorem under_seq (n : Nat) (hn : 1 ≤ n) (l : List Sub) (v : Value) (a : Lab) (bt tb ba B n0 : Nat) (W : World) (U : Nat → Prop) (hbt : Blk W bt 76 #[.pointer (some ⟨tb, 0, none⟩)]) (htb : W.cell? ⟨tb, 0, none⟩ = some v) (hba : Blk W ba 25 #[.int .i64 a.lv, .int .u64 (u a.c), .int .i64 a.ig])
    (hl : SubsAt B W v l) (hle : l.length ≤ 1000) (hBW : B ≤ W.heap.size) (hU : ∀ k, U k → B ≤ k ∧ k ≠ ba) :
    SeqM Fence.wide n Tryd.prog 60 #[.pointer (some ⟨bt, 0, none⟩), .pointer (some ⟨ba, 0, none⟩)] encN n0 (fun _ => False) U (fun pre k _ => pre.length ≤ k ∧ k < l.length)
      (fun xs _ => xs = seenL l a) (fun _ _ => True) W := by
  intro lp J Jx hJ hJx hY h0
  have HY := Lib.hid hY
  have HJ := Lib.hid hJ
  have HJX := Lib.hid hJx
  have H0 := Lib.hid h0
  have HU := Lib.hid hU
  have BT := Lib.hid hbt
  have BA := Lib.hid hba
  have hbtl : bt < W.heap.size := hbt.lt
  have hbal : ba < W.heap.size := hba.lt
  have pt := hbt.at_ (i := 0) (v := .pointer (some ⟨tb, 0, none⟩)) rfl
  have htl : tb < W.heap.size := World.block_lt_of_cell? _ _ htb
  clear hY hJ hJx h0 hU hbt hba
  refine callsIn_of_wp Tryd.func60 rfl trivial ?_ rfl
  simp only [Tryd.ntmps60, List.size_toArray, List.length_cons, List.length_nil, Nat.reduceAdd, Nat.reduceSub, Array.replicate_succ, Array.replicate_zero, List.push_toArray, List.append_toArray, List.nil_append, List.cons_append]
  refine wpInW_scope ?_
  gi_wp2_with fail
  refine wpIn_label ?_
  simp only [Exit.then]
  obtain ⟨sA, sc, rfl, hcap, hsc, _⟩ := hl.slice
  have HL := Lib.hid hl
  clear hl
  gi_wp2
  gi_loopw [11] (fun s wr => ∃ k : Nat, s = .int .i64 k ∧ k ≤ l.length ∧ J (seenTo l a k) wr ∧ Blk wr ba 25 #[.int .i64 a.lv, .int .u64 (u a.c), .int .i64 a.ig] ∧ W.heap.size ≤ wr.heap.size ∧ (∀ b' q x', b' < B → W.cell? ⟨b', q, none⟩ = some x' → wr.cell? ⟨b', q, none⟩ = some x')) (fun s _ => l.length - (intOf s).toNat)
  case atStart => exact ⟨0, rfl, Nat.zero_le _, H0.out, BA.out, Nat.le_refl _, fun _ _ _ _ hx => hx⟩
  case round =>
    obtain ⟨k, rfl, hlen, hJp, hA, hsz, hK⟩ := hrel
    have HJP := Lib.hid hJp
    have BB := Lib.hid hA
    have HK := Lib.hid hK
    have HSZ := Lib.hid hsz
    have q0 := hA.at_ (i := 0) (v := .int .i64 a.lv) rfl
    have q1 := hA.at_ (i := 1) (v := .int .u64 (u a.c)) rfl
    have q2 := hA.at_ (i := 2) (v := .int .i64 a.ig) rfl
    have hal : ba < wr.heap.size := hA.lt
    have hal1 : ba < wr.heap.size + 1 := by omega
    clear hJp hA hK hsz
    by_cases hkl : k < l.length
    · obtain ⟨x, hx⟩ : ∃ x, l[k]? = some x := ⟨_, List.getElem?_eq_getElem hkl⟩
      obtain ⟨b, off, hA, hlt, he⟩ := (HL.out.keep HK.out).el hx (by have := HSZ.out; omega)
      subst hA
      have p0 : wr.cell? ⟨b, off + k * 8, none⟩ = some (.int .i64 x.par) := he.at_ (i := 0) rfl
      have p1 : wr.cell? ⟨b, off + k * 8 + 1, none⟩ = some (.int .i64 x.st) := he.at_ (i := 1) rfl
      have p2 : wr.cell? ⟨b, off + k * 8 + 2, none⟩ = some (.int .i64 x.cur.lv) := he.at_ (i := 2) rfl
      have p3 : wr.cell? ⟨b, off + k * 8 + 3, none⟩ = some (.int .u64 (u x.cur.c)) := he.at_ (i := 3) rfl
      have p4 : wr.cell? ⟨b, off + k * 8 + 4, none⟩ = some (.int .i64 x.cur.ig) := he.at_ (i := 4) rfl
      have p5 : wr.cell? ⟨b, off + k * 8 + 5, none⟩ = some (.int .i64 x.high.lv) := he.at_ (i := 5) rfl
      have p6 : wr.cell? ⟨b, off + k * 8 + 6, none⟩ = some (.int .u64 (u x.high.c)) := he.at_ (i := 6) rfl
      have p7 : wr.cell? ⟨b, off + k * 8 + 7, none⟩ = some (.int .i64 x.high.ig) := he.at_ (i := 7) rfl
      have pl : b < wr.heap.size := he.lt
      have hkz : (0 : Int) ≤ (k : Int) := by omega
      have hkz2 : (k : Int) < (l.length : Int) := by omega
      have HX := Lib.hid hx
      clear hx he
      cases hs : (x.st != 0)
      · have HN := Lib.hid (seenTo_no (a := a) HX.out (by unfold seenB; rw [hs]; rfl))
        gi_wp2_with fail
        refine ⟨trivial, ?_⟩
        gi_wp2_with fail
        refine ⟨(fun _ h => by cases h), ?_⟩
        gi_wp2_with fail
        go_roundw
        case rel => exact ⟨k + 1, by go_num, by omega, by rw [HN.out]; exact HJ.out _ _ _ HJP.out ((Turns.refl _ wr).alloc _), BB.out.alloc _, by have := HSZ.out; simp; omega, fun b' q x' hb hx => (World.cell?_alloc_lt _ _ _ (World.block_lt_of_cell? _ _ (HK.out b' q x' hb hx))).trans (HK.out b' q x' hb hx)⟩
        case measure => simp [intOf]; omega
      · cases hu : underL x.cur a
        · have HN := Lib.hid (seenTo_no (a := a) HX.out (by unfold seenB; rw [hs, hu]; rfl))
          have HUU := Lib.hid hu
          clear hu
          gi_wp2_with fail
          refine ⟨trivial, ?_⟩
          refine (callsIn_wide.2 (underIs HUU.out _)).mono ?_
          rintro e w2 ⟨rfl, hB⟩
          have HB := Lib.hid (below_call (w := wr) (below_alloc (Below.refl wr.heap.size wr) _) hB)
          clear hB
          gi_wp2_with fail
          refine ⟨(fun _ h => by cases h), ?_⟩
          gi_wp2_with fail
          go_roundw
          case rel => exact ⟨k + 1, by go_num, by omega, by rw [HN.out]; exact HJ.out _ _ _ HJP.out (Turns.of_below HB.out), BB.out.after HB.out, by have := HSZ.out; have := HB.out.size; omega, fun b' q x' hb hx => (HB.out.cell (p := ⟨b', q, none⟩) (World.block_lt_of_cell? _ _ (HK.out b' q x' hb hx))).trans (HK.out b' q x' hb hx)⟩
          case measure => simp [intOf]; omega
        · have HN := Lib.hid (seenTo_yes (a := a) HX.out (by unfold seenB; rw [hs, hu]; rfl))
          have HUU := Lib.hid hu
          clear hu
          gi_wp2_with fail
          refine ⟨trivial, ?_⟩
          refine (callsIn_wide.2 (underIs HUU.out _)).mono ?_
          rintro e w2 ⟨rfl, hB⟩
          have HB := Lib.hid (below_call (w := wr) (below_alloc (Below.refl wr.heap.size wr) _) hB)
          have hz2 : wr.heap.size < w2.heap.size := by have := hB.size; simp at this; omega
          clear hB
          have HJ2 := Lib.hid (HJ.out _ _ _ HJP.out (Turns.of_below HB.out))
          have hnext : (seenTo l a k).length ≤ k ∧ k < l.length := ⟨seenTo_len _ _ _, hkl⟩
          obtain ⟨fn, tmps, assign, body, hy, hR⟩ := HY.out (seenTo l a k) k w2 HJ2.out hnext
          have HR := Lib.hid hR
          clear hR
          simp only [encN] at hy
          gi_wp2_with fail
          refine HR.out.mono ?_
          rintro e W3 (⟨rfl, hJ3, hk3⟩ | ⟨rfl, hJx3, hk3⟩)
          · have BA3 : Blk W3 ba 25 #[.int .i64 a.lv, .int .u64 (u a.c), .int .i64 a.ig] := hk3.block (BB.out.after HB.out) rfl (fun t => (HU.out _ t).2 rfl)
            have HJ3 := Lib.hid hJ3
            have hK3 : Hid (∀ b' q x', b' < B → W.cell? ⟨b', q, none⟩ = some x' → W3.cell? ⟨b', q, none⟩ = some x') := fun b' q x' hb hx => by
              have h1 := HK.out b' q x' hb hx
              have h3 := (HB.out.cell (p := ⟨b', q, none⟩) (World.block_lt_of_cell? _ _ h1)).trans h1
              exact hk3.cell h3 (fun t => by have := (HU.out b' t).1; omega)
            have hz3 : W.heap.size ≤ W3.heap.size := by have := HSZ.out; have := hk3.size; omega
            have HA3 := Lib.hid BA3
            clear hJ3 hk3 BA3
            gi_wp2_with fail
            go_roundw
            case rel => exact ⟨k + 1, by go_num, by omega, by rw [HN.out]; exact HJ3.out, HA3.out, hz3, hK3.out⟩
            case measure => simp [intOf]; omega
          · have HJX3 := Lib.hid hJx3
            clear hJx3 hk3
            gi_wp2_with fail
            rw [Exit.noGoto_normal]
            go_end0
            exact ⟨⟨_, rfl⟩, .inr ⟨_, trivial, HJX3.out⟩⟩
    · have hke : k = l.length := by omega
      subst hke
      gi_wp2
      rw [Exit.noGoto_normal]
      go_end0
      exact ⟨⟨_, rfl⟩, .inl ⟨_, rfl, HJP.out⟩⟩
end

section
open Go.RowKit Go.Shelf

attribute [local go_sem] Oper.semAt_some
attribute [local go_sem] u_and u_or u_andNot u_add u_sub u_bit u_eq_zero u_beq

theorem infoIntS : (Tryd.prog.info? 3).map (fun i => (i.zero, i.size, i.bytes)) = some (some (.int .i64 0), 1, 8) := by kernel_rfl
def nums (l : List Nat) : List Value := l.map fun k : Nat => .int .i64 (k : Int)
theorem nums_snoc (l : List Nat) (k : Nat) : nums (l ++ [k]) = nums l ++ [.int .i64 (k : Int)] := by simp [nums]
theorem under_fn (tb : Nat) (a : Lab) (w : World) :
    Calls Tryd.prog 47 #[.pointer (some ⟨tb, 0, none⟩), .agg #[.int .i64 a.lv, .int .u64 (u a.c), .int .i64 a.ig]] w fun e w' => e = .returned (.func (.func 60) #[] #[.pointer (some ⟨w.heap.size, 0, none⟩), .pointer (some ⟨w.heap.size + 1, 0, none⟩)]) ∧
      (w.alloc (.cells #[.pointer (some ⟨tb, 0, none⟩)] 76)).alloc (.cells #[.int .i64 a.lv, .int .u64 (u a.c), .int .i64 a.ig] 25) = w' := by
  go_enter Tryd.func47, Tryd.ntmps47
  go_wp2
  go_ret
  exact ⟨rfl, rfl⟩
theorem ownsRow_moves {n0 : Nat} {T : Nat → Prop} {A B : World} {base : Nat} {e : TypeId} {size n : Nat} {v : Value} {xs : List Value} (h : A.ownsRow base e size v n xs) (m : Moves n0 T A B) (hT : ∀ k, T k → False) : B.ownsRow base e size v n xs := by
  obtain ⟨h1, h2⟩ := h
  refine ⟨h1, ?_⟩
  rcases h2 with h2 | ⟨g, cap, cur, hv, hb, hh, r⟩
  · exact .inl h2
  · exact .inr ⟨g, cap, cur, hv, hb, m.block hh rfl (fun t => hT _ t), r⟩
theorem boxed_moves {n0 : Nat} {T : Nat → Prop} {A B : World} {b : Nat} {t : TypeId} {v : Value} (h : Boxed A b t v) (m : Moves n0 T A B) (hT : ∀ k, T k → False) : Boxed B b t v := m.block h rfl (fun t => hT _ t)
/-- what a loop's body gathers: the box ob holds a slice that owns the row f pre, in blocks from nb on -/
structure Gath (w : World) (ob nb : Nat) (st e : TypeId) (size : Nat) (len : Nat) (xs : List Value) (W : World) : Prop where
  box : ∃ v, Boxed W ob st v ∧ W.ownsRow nb e size v len xs
  below : Below w.heap.size w W
  size : nb ≤ W.heap.size
theorem Gath.moves {n0 : Nat} {T : Nat → Prop} {w A B : World} {ob nb : Nat} {st e : TypeId} {size len : Nat} {xs : List Value} (h : Gath w ob nb st e size len xs A) (m : Moves n0 T A B) (hT : ∀ k, T k → False) (hn : w.heap.size ≤ n0) : Gath w ob nb st e size len xs B := by
  obtain ⟨⟨v, hv, hr⟩, hb, hs⟩ := h
  exact ⟨⟨v, boxed_moves hv m hT, ownsRow_moves hr m hT⟩, m.below hb (Nat.le_refl _) hn (fun k t => (hT k t).elim), Nat.le_trans hs m.size⟩
/-- one append more -/
theorem Gath.appended {w W w1 : World} {ob nb : Nat} {st e : TypeId} {size len m : Nat} {v v' : Value} {xs ys : List Value} {tmp : Obj} (hb : Below w.heap.size w W) (hs : nb ≤ W.heap.size) (hv : Boxed W ob st v) (hte : st ≠ e) (hr : W.ownsRow nb e size v len xs) (hn : w.heap.size ≤ nb) (hob : w.heap.size ≤ ob)
    (hown' : w1.ownsRow nb e size v' m ys) (hgrow : (W.alloc tmp).grownBy w1 v.ownBlock) :
    Gath w ob nb st e size m ys (w1.setCell ⟨ob, 0, none⟩ v') ∧ Turns (fun k => k = ob ∨ nb ≤ k) W (w1.setCell ⟨ob, 0, none⟩ v') ∧ w1.cell? ⟨ob, 0, none⟩ = some v ∧ w1.frozen? ⟨ob, 0, none⟩ = false := by
  have hv1 : Boxed w1 ob st v := (hv.alloc tmp).kept hgrow (hv.not_row hte hr)
  have hrow : ∀ k, v.ownBlock = some k → nb ≤ k ∧ ∀ o, (W.alloc tmp).heap[k]? = some o → o.isCells = true := by
    intro k hk
    rcases (hr.alloc tmp).2 with ⟨rfl, _⟩ | ⟨g, cap, cur, rfl, hg, hgb, _⟩
    · simp [Value.ownBlock] at hk
    · obtain rfl : g = k := by simpa [Value.ownBlock] using hk
      exact ⟨hg, fun o ho => by rw [hgb] at ho; cases ho; rfl⟩
  have hT : Turns (fun k => k = ob ∨ nb ≤ k) W (w1.setCell ⟨ob, 0, none⟩ v') := (((Turns.refl _ W).alloc tmp).grown hgrow (fun k hk => ⟨.inr (hrow k hk).1, (hrow k hk).2⟩)).setCell (p := ⟨ob, 0, none⟩) (.inl rfl) v'
  exact ⟨⟨⟨v', hv1.set v', hown'.kept (grownBy_setCell' w1 ob v') (.inr (hv1.not_row hte hown').symm)⟩, (hT.moves (w.heap.size)).below hb (Nat.le_refl _) (Nat.le_refl _) (fun k t => by omega), Nat.le_trans hs hT.size⟩, hT, hv1.cell, hv1.frozen⟩
theorem ownsRow_base {A : World} {base base' : Nat} {e : TypeId} {size n : Nat} {v : Value} {xs : List Value} (h : A.ownsRow base' e size v n xs) (hb : base ≤ base') : A.ownsRow base e size v n xs := by
  obtain ⟨h1, h2⟩ := h
  refine ⟨h1, ?_⟩
  rcases h2 with h2 | ⟨g, cap, cur, hv, hg, r⟩
  · exact .inl h2
  · exact .inr ⟨g, cap, cur, hv, Nat.le_trans hb hg, r⟩
set_option maxRecDepth 100000 in
set_option maxHeartbeats 8000000 in
theorem Seen_in (n : Nat) (hn : 3 ≤ n) (l : List Sub) (v : Value) (a : Lab) (w : World) (hl : SubsAt w.heap.size w v l) (hle : l.length ≤ 1000) :
    CallsIn Fence.wide n Tryd.prog 23 #[v, .agg #[.int .i64 a.lv, .int .u64 (u a.c), .int .i64 a.ig]] w fun e w' => ∃ v', e = .returned v' ∧ w'.ownsRow w.heap.size 3 1 v' (seenL l a).length (nums (seenL l a)) ∧ Below w.heap.size w w' := by
  have h1 : 1 ≤ n := by omega
  obtain ⟨i0, hi, hz0, hz1, hz2⟩ := info_parts infoIntS
  obtain ⟨sA, sc, rfl, _, _, _⟩ := hl.slice
  have HL := Lib.hid hl
  clear hl
  refine callsIn_of_wp_marks Tryd.func23 rfl trivial ?_ rfl
  simp only [Tryd.ntmps23, List.size_toArray, List.length_cons, List.length_nil, Nat.reduceAdd, Nat.reduceSub, Array.replicate_succ, Array.replicate_zero, List.push_toArray, List.append_toArray, List.nil_append, List.cons_append]
  gi_wp2_with fail
  refine ⟨trivial, ?_⟩
  refine (callsIn_wide.2 (under_fn _ a _)).mono ?_
  rintro e w3 ⟨rfl, rfl⟩
  gi_wp2_with fail
  obtain ⟨W0, hW⟩ : ∃ W0, (((((w.alloc (.cells #[.int .i64 a.lv, .int .u64 (u a.c), .int .i64 a.ig] 25)).alloc (.cells #[.slice none 0 0] 48)).alloc (.cells #[.slice sA l.length sc] 59)).alloc (.cells #[.pointer (some ⟨w.heap.size + 1 + 1, 0, none⟩)] 76)).alloc (.cells #[.int .i64 a.lv, .int .u64 (u a.c), .int .i64 a.ig] 25)) = W0 := ⟨_, rfl⟩
  have hB0 : Below w.heap.size w W0 := by rw [← hW]; exact below_alloc (below_alloc (below_alloc (below_alloc (below_alloc (Below.refl _ _) _) _) _) _) _
  have hob : Boxed W0 (w.heap.size + 1) 48 (.slice none 0 0) := by
    rw [← hW]; exact (Blk.new' (t := 48) (cs := #[.slice none 0 0]) (w := w.alloc _) (by simp)).alloc _ |>.alloc _ |>.alloc _
  have htb : Blk W0 (w.heap.size + 1 + 1) 59 #[.slice sA l.length sc] := by
    rw [← hW]; exact (Blk.new' (w := (w.alloc _).alloc _) (by simp)).alloc _ |>.alloc _
  have hbt : Blk W0 (w.heap.size + 1 + 1 + 1) 76 #[.pointer (some ⟨w.heap.size + 1 + 1, 0, none⟩)] := by
    rw [← hW]; exact (Blk.new' (w := ((w.alloc _).alloc _).alloc _) (by simp)).alloc _
  have hba : Blk W0 (w.heap.size + 1 + 1 + 1 + 1) 25 #[.int .i64 a.lv, .int .u64 (u a.c), .int .i64 a.ig] := by
    rw [← hW]; exact (Blk.new' (w := (((w.alloc _).alloc _).alloc _).alloc _) (by simp))
  have hs0 : W0.heap.size = w.heap.size + 5 := by rw [← hW]; simp
  rw [hW]
  clear hW
  generalize e4 : w.heap.size + 1 + 1 + 1 + 1 = ba at *
  generalize e3 : w.heap.size + 1 + 1 + 1 = bt at *
  generalize e2 : w.heap.size + 1 + 1 = tb at *
  generalize e1 : w.heap.size + 1 = ob at *
  have HG : Gath w ob W0.heap.size 48 3 1 0 (nums []) W0 := ⟨⟨_, hob, World.ownsRow_nil _ _ _ _⟩, hB0, Nat.le_refl _⟩
  have hwz : w.heap.size ≤ W0.heap.size := by omega
  refine wpIn_rangeFunc_M rfl h1 (gf := 60) (lb := #[.pointer (some ⟨bt, 0, none⟩), .pointer (some ⟨ba, 0, none⟩)]) rfl trivial (enters_of Tryd.func60 (by kernel_rfl) rfl)
    (encs := encN) (T := fun _ => False) (U := fun k => k = ob ∨ W0.heap.size ≤ k) (Y := fun pre k _ => pre.length ≤ k ∧ k < l.length) (S := fun xs _ => xs = seenL l a) (Sp := fun _ _ => True)
    (fun W1 hb hs => ?seq) (fun _ => rfl)
    (fun pre W => Gath w ob W0.heap.size 48 3 1 pre.length (nums pre) W) (fun _ _ _ => False) (fun pre A B h m => h.moves m (fun _ t => t) hwz) (fun _ _ _ _ h _ => h) (fun _ _ _ h _ => h) (fun _ _ _ h _ => h) HG
    (fun pre k a' W => Gath w ob W0.heap.size 48 3 1 pre.length (nums pre) W ∧ pre.length < 1000 ∧ a' = { tmps := #[.slice sA l.length sc, .agg #[.int .i64 a.lv, .int .u64 (u a.c), .int .i64 a.ig], undef, .pointer (some ⟨w.heap.size, 0, none⟩), .slice none 0 0, .pointer (some ⟨ob, 0, none⟩), .int .i64 (k : Int), .slice sA l.length sc, .agg #[.slice sA l.length sc], .pointer (some ⟨tb, 0, none⟩), .agg #[.int .i64 a.lv, .int .u64 (u a.c), .int .i64 a.ig], .func (.func 60) #[] #[.pointer (some ⟨bt, 0, none⟩), .pointer (some ⟨ba, 0, none⟩)], .int .i64 (k : Int), undef, undef, undef, undef, undef], defers := [] })
    (fun pre k a' A B h m => ⟨h.1.moves m (fun _ t => t) hwz, h.2⟩) ?hassign ?hbody ?hdone ?hstop
  case seq =>
    have hw1 : Below w.heap.size w W1 := hB0.trans (hb.mono hwz)
    exact under_seq (n - 1) (by omega) l _ a bt tb ba w.heap.size W0.heap.size W1 _ (hbt.after hb) ((htb.after hb).at_ rfl) (hba.after hb) (HL.out.below hw1) hle hw1.size (fun k hk => by omega)
  case hassign =>
    intro lp pre k W hi hy
    simp only [encN]
    gi_wp2
    exact ⟨Turns.refl _ _, hi, by omega, trivial⟩
  case hbody =>
    rintro lp pre k a' W hlp ⟨⟨⟨v, hv, hrow⟩, hB, hsz⟩, hlen, rfl⟩
    have hc := hv.cell
    gi_wp2_with (gi_at_builtin; refine wpListIn_append_own _ rfl _ _ 48 rfl W0.heap.size 3 i0 (.int .i64 0) 1 8 Tryd.underlying48 hi hz0 hz1 hz2 rfl (by decide) _ _ _ rfl (hrow.alloc _) ⟨W.heap.size, 0, none⟩ 1 1 [.int .i64 (k : Int)] rfl rfl (cell_one_new _ _ _) (by simp [Value.oneCell']) (by unfold maxLen; omega) (by omega) (by simp; omega) ?_; intro v' w1 hown' hgrow _; obtain ⟨g', cap', rfl⟩ := ownsRow_succ hown'; obtain ⟨hG, hT, hc1, hf1⟩ := Gath.appended hB hsz hv (by decide) hrow hwz (by omega) hown' hgrow)
    exact ⟨hT, by show Gath w ob W0.heap.size 48 3 1 (pre ++ [k]).length (nums (pre ++ [k])) _; rw [nums_snoc]; simpa using hG⟩
  case hdone =>
    rintro D ys W hD rfl ⟨⟨v, hv, hrow⟩, hB, hsz⟩ hK
    have hc := hv.cell
    gi_wp2
    refine ⟨by simp, .inl ⟨_, _, rfl, run_takeDeferred hK, ?_⟩⟩
    exact ⟨_, results_tmp rfl _ _ _, v, rfl, ownsRow_base (ownsRow_putObj hrow _ hK rfl) hwz, hB.trans (belowK_b (w := w) (Nat.le_refl _) W D _ _ (by omega) hK rfl rfl)⟩
  case hstop =>
    rintro D c pre W _ _ h _
    exact h.elim
theorem Seen_any (l : List Sub) (v : Value) (a : Lab) (w : World) (hl : SubsAt w.heap.size w v l) (hle : l.length ≤ 1000) :
    Calls Tryd.prog 23 #[v, .agg #[.int .i64 a.lv, .int .u64 (u a.c), .int .i64 a.ig]] w fun e w' => ∃ v', e = .returned v' ∧ w'.ownsRow w.heap.size 3 1 v' (seenL l a).length (nums (seenL l a)) ∧ Below w.heap.size w w' :=
  callsIn_wide.1 (Seen_in 3 (Nat.le_refl _) l v a w hl hle)
end

section
open Go.RowKit

attribute [local go_sem] u_and u_or u_andNot u_add u_sub u_bit u_eq_zero u_beq

theorem Blk.not_row {W : World} {g : Nat} {t e : TypeId} {cs : Array Value} (h : Blk W g t cs) (hte : t ≠ e) {base size k : Nat} {v : Value} {xs : List Value} (hr : W.ownsRow base e size v k xs) : some g ≠ v.ownBlock := by
  rcases hr.2 with ⟨rfl, _⟩ | ⟨g', cap, cur, rfl, _, hgb, _⟩
  · simp [Value.ownBlock]
  · intro e'
    obtain rfl : g = g' := by simpa [Value.ownBlock] using e'
    have := (show W.heap[g]? = _ from h).symm.trans hgb
    simp at this
    exact hte this.2
def OwnR (W : World) (base : Nat) (e : TypeId) (size : Nat) (v : Value) (n : Nat) (xs : List Value) : Prop := W.ownsRow base e size v n xs
section
variable {W W' : World} {base : Nat} {e : TypeId} {size : Nat} {v : Value} {n : Nat} {xs : List Value}
theorem OwnR.drew (h : OwnR W base e size v n xs) : OwnR W.drew base e size v n xs := h
theorem OwnR.below {B : Nat} (h : OwnR W base e size v n xs) (hb : Below B W W') (hB : W.heap.size ≤ B) : OwnR W' base e size v n xs := by
  obtain ⟨h1, h2⟩ := h
  refine ⟨h1, ?_⟩
  rcases h2 with h2 | ⟨g, cap, cur, hv, hg, hh, r⟩
  · exact .inl h2
  · exact .inr ⟨g, cap, cur, hv, hg, (hb.block g (Nat.lt_of_lt_of_le (Array.getElem?_eq_some_iff.1 hh).1 hB)).trans hh, r⟩
theorem OwnR.after (h : OwnR W base e size v n xs) (hb : Below W.heap.size W W') : OwnR W' base e size v n xs := h.below hb (Nat.le_refl _)
theorem OwnR.alloc (h : OwnR W base e size v n xs) (o : Obj) : OwnR (W.alloc o) base e size v n xs := h.after ((Below.refl _ _).alloc (Nat.le_refl _) o)
end
set_option maxRecDepth 100000 in
set_option maxHeartbeats 4000000 in
theorem rSeen_any (l : List Sub) (v : Value) (a : Lab) (w0 : World) (hl : SubsAt w0.heap.size w0 v l) (hle : l.length ≤ 1000) :
    Calls Tryd.prog 27 #[v, .agg #[.int .i64 a.lv, .int .u64 (u a.c), .int .i64 a.ig]] w0 fun e w' => ∃ v', e = .returned v' ∧ w'.ownsRow w0.heap.size 3 1 v' (seenL l a).length (nums (seenL l a)) ∧ Below w0.heap.size w0 w' := by
  obtain ⟨i0, hi, hz0, hz1, hz2⟩ := info_parts infoIntS
  obtain ⟨sA, sc, rfl, hcap, hsc, _⟩ := hl.slice
  have HL := Lib.hid hl
  clear hl
  go_enter Tryd.func27, Tryd.ntmps27
  go_wp2_with fail
  go_loopw [5, 6] (fun v i wr => ∃ (k : Nat) (vv : Value), vv = v ∧ i = .int .i64 k ∧ k ≤ l.length ∧ wr.ownsRow w0.heap.size 3 1 vv (seenTo l a k).length (nums (seenTo l a k)) ∧ Blk wr w0.heap.size 25 #[.int .i64 a.lv, .int .u64 (u a.c), .int .i64 a.ig] ∧ Below w0.heap.size w0 wr) (fun _ i _ => l.length - (intOf i).toNat)
  case atStart => exact ⟨0, _, rfl, rfl, Nat.zero_le _, World.ownsRow_nil _ _ _ _, Blk.new' rfl, below_alloc (Below.refl _ _) _⟩
  case round =>
    obtain ⟨k, v, rfl, rfl, hk, hown, hA, hB⟩ := hrel
    have hlen := seenTo_len l a k
    have HB := Lib.hid hB
    have B1 := Lib.hid hA
    clear hB hA
    by_cases hkl : k < l.length
    · obtain ⟨x, hx⟩ : ∃ x, l[k]? = some x := ⟨_, List.getElem?_eq_getElem hkl⟩
      obtain ⟨b, off, hA, hlt, he⟩ := (HL.out.later HB.out HB.out.size).el hx (Nat.le_refl _)
      subst hA
      have B0 := Lib.hid (show Els wr b (off + k * 8) #[.int .i64 x.par, .int .i64 x.st, .int .i64 x.cur.lv, .int .u64 (u x.cur.c), .int .i64 x.cur.ig, .int .i64 x.high.lv, .int .u64 (u x.high.c), .int .i64 x.high.ig] from he)
      have HX := Lib.hid hx
      have hkz : (0 : Int) ≤ (k : Int) := by omega
      have hkz2 : (k : Int) < (l.length : Int) := by omega
      clear he hx
      cases hs : (x.st != 0)
      · have HN := Lib.hid (seenTo_no (a := a) HX.out (by unfold seenB; rw [hs]; rfl))
        generalize seenTo l a k = L at *
        have B2 := Lib.hid (show OwnR wr w0.heap.size 3 1 v L.length (nums L) from hown)
        clear hown
        go_wp2_with fail
        refine wp_region_gen (S := (fun W' => Els W' (b) (off + k * 8) #[.int .i64 x.par, .int .i64 x.st, .int .i64 x.cur.lv, .int .u64 (u x.cur.c), .int .i64 x.cur.ig, .int .i64 x.high.lv, .int .u64 (u x.high.c), .int .i64 x.high.ig] ∧ Blk W' (w0.heap.size) 25 #[.int .i64 a.lv, .int .u64 (u a.c), .int .i64 a.ig] ∧ OwnR W' w0.heap.size 3 1 v L.length (nums L) ∧ Below w0.heap.size w0 W')) (by kernel_rfl) ⟨(by repeat (first | exact B0.out | refine Els.drew ?_ | refine Els.alloc ?_ _)), (by repeat (first | exact B1.out | exact Blk.new' (by simp; done) | exact Blk.new' rfl | refine Blk.drew ?_ | refine Blk.alloc ?_ _)), (by repeat (first | exact B2.out | refine OwnR.drew ?_ | refine OwnR.alloc ?_ _)), (by repeat (first | exact HB.out | refine below_alloc ?_ _ | refine Below.drew ?_ | refine below_set ?_ (by omega) _))⟩ (fun w1 hS => ?_)
        refine wpAnyH_take (i := 0) (v := ?_) (op_at rfl) (by kernel_rfl) (by kernel_rfl) (by kernel_rfl) (fun _ _ _ h => h) (Or.inl ⟨by rfl, ?_⟩) hS ?_; rotate_left; focus ((intro w' hSw; clear hSw; go_simp) <;> with_reducible rfl)
        try simp only [Act.put, List.setIfInBounds_toArray, List.set_cons_zero, List.set_cons_succ]
        refine wpAnyH_take (i := 1) (v := ?_) (op_at rfl) (by kernel_rfl) (by kernel_rfl) (by kernel_rfl) (fun _ _ _ h => h) (Or.inl ⟨by rfl, ?_⟩) hS ?_; rotate_left; focus ((intro w' hSw; clear hSw; go_simp) <;> with_reducible rfl)
        try simp only [Act.put, List.setIfInBounds_toArray, List.set_cons_zero, List.set_cons_succ]
        refine wpAnyH_take (i := 2) (v := ?_) (op_at rfl) (by kernel_rfl) (by kernel_rfl) (by kernel_rfl) (fun _ _ _ h => h) (Or.inl ⟨by rfl, ?_⟩) hS ?_; rotate_left; focus ((intro w' hSw; clear hSw; go_simp) <;> with_reducible rfl)
        try simp only [Act.put, List.setIfInBounds_toArray, List.set_cons_zero, List.set_cons_succ]
        refine wpAnyH_take (i := 3) (v := ?_) (op_at rfl) (by kernel_rfl) (by kernel_rfl) (by kernel_rfl) (fun _ _ _ h => h) (Or.inl ⟨by rfl, ?_⟩) hS ?_; rotate_left; focus ((intro w' hSw; clear hSw; go_simp) <;> with_reducible rfl)
        try simp only [Act.put, List.setIfInBounds_toArray, List.set_cons_zero, List.set_cons_succ]
        refine wpAnyH_take (i := 4) (v := ?_) (op_at rfl) (by kernel_rfl) (by kernel_rfl) (by kernel_rfl) (fun _ _ _ h => h) (Or.inl ⟨by rfl, ?_⟩) hS ?_; rotate_left; focus ((intro w' hSw; obtain ⟨q, -⟩ := hSw; have c1 : w'.cell? ⟨b, off + k * 8 + 1, none⟩ = some (.int .i64 x.st) := q.at_ (i := 1) (v := .int .i64 x.st) rfl; clear q; go_simp) <;> with_reducible rfl)
        try simp only [Act.put, List.setIfInBounds_toArray, List.set_cons_zero, List.set_cons_succ]
        refine wpAnyH_take (i := 5) (v := ?_) (op_at rfl) (by kernel_rfl) (by kernel_rfl) (by kernel_rfl) (fun _ _ _ h => h) (Or.inl ⟨by rfl, ?_⟩) hS ?_; rotate_left; focus ((intro w' hSw; clear hSw; go_simp) <;> with_reducible rfl)
        try simp only [Act.put, List.setIfInBounds_toArray, List.set_cons_zero, List.set_cons_succ]
        refine wpAnyH_take (i := 6) (v := ?_) (op_at rfl) (by kernel_rfl) (by kernel_rfl) (by kernel_rfl) (fun _ _ _ h => h) (Or.inl ⟨by rfl, ?_⟩) hS ?_; rotate_left; focus ((intro w' hSw; clear hSw; go_simp) <;> with_reducible rfl)
        try simp only [Act.put, List.setIfInBounds_toArray, List.set_cons_zero, List.set_cons_succ]
        refine wpAnyH_take (i := 7) (v := undef) (op_at rfl) (by kernel_rfl) (by kernel_rfl) (by kernel_rfl) (fun _ _ _ h => h) (Or.inr ⟨by rfl, rfl⟩) hS ?_
        try simp only [Act.put, List.setIfInBounds_toArray, List.set_cons_zero, List.set_cons_succ]
        refine wpAnyH_take (i := 8) (v := undef) (op_at rfl) (by kernel_rfl) (by kernel_rfl) (by kernel_rfl) (fun _ _ _ h => h) (Or.inr ⟨by rfl, rfl⟩) hS ?_
        try simp only [Act.put, List.setIfInBounds_toArray, List.set_cons_zero, List.set_cons_succ]
        refine wpAnyH_take (i := 9) (v := undef) (op_at rfl) (by kernel_rfl) (by kernel_rfl) (by kernel_rfl) (fun _ _ _ h => h) (Or.inr ⟨by rfl, rfl⟩) hS ?_
        try simp only [Act.put, List.setIfInBounds_toArray, List.set_cons_zero, List.set_cons_succ]
        refine wpAnyH_take (i := 10) (v := undef) (op_at rfl) (by kernel_rfl) (by kernel_rfl) (by kernel_rfl) (fun _ _ _ h => h) (Or.inr ⟨by rfl, rfl⟩) hS ?_
        try simp only [Act.put, List.setIfInBounds_toArray, List.set_cons_zero, List.set_cons_succ]
        refine wpAnyH_take (i := 11) (v := undef) (op_at rfl) (by kernel_rfl) (by kernel_rfl) (by kernel_rfl) (fun _ _ _ h => h) (Or.inr ⟨by rfl, rfl⟩) hS ?_
        try simp only [Act.put, List.setIfInBounds_toArray, List.set_cons_zero, List.set_cons_succ]
        refine wpAnyH_take (i := 12) (v := undef) (op_at rfl) (by kernel_rfl) (by kernel_rfl) (by kernel_rfl) (fun _ _ _ h => h) (Or.inr ⟨by rfl, rfl⟩) hS ?_
        try simp only [Act.put, List.setIfInBounds_toArray, List.set_cons_zero, List.set_cons_succ]
        refine wpAnyH_take (i := 13) (v := undef) (op_at rfl) (by kernel_rfl) (by kernel_rfl) (by kernel_rfl) (fun _ _ _ h => h) (Or.inr ⟨by rfl, rfl⟩) hS ?_
        try simp only [Act.put, List.setIfInBounds_toArray, List.set_cons_zero, List.set_cons_succ]
        refine wpAnyH_take (i := 14) (v := ?_) (op_at rfl) (by kernel_rfl) (by kernel_rfl) (by kernel_rfl) (fun _ _ _ h => h) (Or.inl ⟨by rfl, ?_⟩) hS ?_; rotate_left; focus ((intro w' hSw; clear hSw; go_simp) <;> with_reducible rfl)
        try simp only [Act.put, List.setIfInBounds_toArray, List.set_cons_zero, List.set_cons_succ]
        refine wpAnyH_done (by kernel_rfl) ?_ _
        obtain ⟨b0, b1, b2, hb⟩ := hS
        replace B0 := Lib.hid b0
        clear b0
        replace B1 := Lib.hid b1
        clear b1
        replace B2 := Lib.hid b2
        clear b2
        replace HB := Lib.hid hb
        clear hb
        go_wp2_with fail
        go_roundw
        case rel => exact ⟨k + 1, _, rfl, by go_num, by omega, by rw [HN.out]; exact B2.out, B1.out, HB.out⟩
        case measure => simp [intOf]; omega
      · cases hu : underL x.cur a
        · have HN := Lib.hid (seenTo_no (a := a) HX.out (by unfold seenB; rw [hs, hu]; rfl))
          have HU := Lib.hid hu
          generalize seenTo l a k = L at *
          have B2 := Lib.hid (show OwnR wr w0.heap.size 3 1 v L.length (nums L) from hown)
          clear hown hu
          go_wp2_with fail
          refine wp_region_gen (S := (fun W' => Els W' (b) (off + k * 8) #[.int .i64 x.par, .int .i64 x.st, .int .i64 x.cur.lv, .int .u64 (u x.cur.c), .int .i64 x.cur.ig, .int .i64 x.high.lv, .int .u64 (u x.high.c), .int .i64 x.high.ig] ∧ Blk W' (w0.heap.size) 25 #[.int .i64 a.lv, .int .u64 (u a.c), .int .i64 a.ig] ∧ OwnR W' w0.heap.size 3 1 v L.length (nums L) ∧ Below w0.heap.size w0 W')) (by kernel_rfl) ⟨(by repeat (first | exact B0.out | refine Els.drew ?_ | refine Els.alloc ?_ _)), (by repeat (first | exact B1.out | exact Blk.new' (by simp; done) | exact Blk.new' rfl | refine Blk.drew ?_ | refine Blk.alloc ?_ _)), (by repeat (first | exact B2.out | refine OwnR.drew ?_ | refine OwnR.alloc ?_ _)), (by repeat (first | exact HB.out | refine below_alloc ?_ _ | refine Below.drew ?_ | refine below_set ?_ (by omega) _))⟩ (fun w1 hS => ?_)
          refine wpAnyH_take (i := 0) (v := ?_) (op_at rfl) (by kernel_rfl) (by kernel_rfl) (by kernel_rfl) (fun _ _ _ h => h) (Or.inl ⟨by rfl, ?_⟩) hS ?_; rotate_left; focus ((intro w' hSw; clear hSw; go_simp) <;> with_reducible rfl)
          try simp only [Act.put, List.setIfInBounds_toArray, List.set_cons_zero, List.set_cons_succ]
          refine wpAnyH_take (i := 1) (v := ?_) (op_at rfl) (by kernel_rfl) (by kernel_rfl) (by kernel_rfl) (fun _ _ _ h => h) (Or.inl ⟨by rfl, ?_⟩) hS ?_; rotate_left; focus ((intro w' hSw; clear hSw; go_simp) <;> with_reducible rfl)
          try simp only [Act.put, List.setIfInBounds_toArray, List.set_cons_zero, List.set_cons_succ]
          refine wpAnyH_take (i := 2) (v := ?_) (op_at rfl) (by kernel_rfl) (by kernel_rfl) (by kernel_rfl) (fun _ _ _ h => h) (Or.inl ⟨by rfl, ?_⟩) hS ?_; rotate_left; focus ((intro w' hSw; clear hSw; go_simp) <;> with_reducible rfl)
          try simp only [Act.put, List.setIfInBounds_toArray, List.set_cons_zero, List.set_cons_succ]
          refine wpAnyH_take (i := 3) (v := ?_) (op_at rfl) (by kernel_rfl) (by kernel_rfl) (by kernel_rfl) (fun _ _ _ h => h) (Or.inl ⟨by rfl, ?_⟩) hS ?_; rotate_left; focus ((intro w' hSw; clear hSw; go_simp) <;> with_reducible rfl)
          try simp only [Act.put, List.setIfInBounds_toArray, List.set_cons_zero, List.set_cons_succ]
          refine wpAnyH_take (i := 4) (v := ?_) (op_at rfl) (by kernel_rfl) (by kernel_rfl) (by kernel_rfl) (fun _ _ _ h => h) (Or.inl ⟨by rfl, ?_⟩) hS ?_; rotate_left; focus ((intro w' hSw; obtain ⟨q, -⟩ := hSw; have c1 : w'.cell? ⟨b, off + k * 8 + 1, none⟩ = some (.int .i64 x.st) := q.at_ (i := 1) (v := .int .i64 x.st) rfl; clear q; go_simp) <;> with_reducible rfl)
          try simp only [Act.put, List.setIfInBounds_toArray, List.set_cons_zero, List.set_cons_succ]
          refine wpAnyH_take (i := 5) (v := ?_) (op_at rfl) (by kernel_rfl) (by kernel_rfl) (by kernel_rfl) (fun _ _ _ h => h) (Or.inl ⟨by rfl, ?_⟩) hS ?_; rotate_left; focus ((intro w' hSw; clear hSw; go_simp) <;> with_reducible rfl)
          try simp only [Act.put, List.setIfInBounds_toArray, List.set_cons_zero, List.set_cons_succ]
          refine wpAnyH_take (i := 6) (v := ?_) (op_at rfl) (by kernel_rfl) (by kernel_rfl) (by kernel_rfl) (fun _ _ _ h => h) (Or.inl ⟨by rfl, ?_⟩) hS ?_; rotate_left; focus ((intro w' hSw; clear hSw; go_simp) <;> with_reducible rfl)
          try simp only [Act.put, List.setIfInBounds_toArray, List.set_cons_zero, List.set_cons_succ]
          refine wpAnyH_take (i := 7) (v := ?_) (op_at rfl) (by kernel_rfl) (by kernel_rfl) (by kernel_rfl) (fun _ _ _ h => h) (Or.inl ⟨by rfl, ?_⟩) hS ?_; rotate_left; focus ((intro w' hSw; clear hSw; go_simp) <;> with_reducible rfl)
          try simp only [Act.put, List.setIfInBounds_toArray, List.set_cons_zero, List.set_cons_succ]
          refine wpAnyH_take (i := 8) (v := ?_) (op_at rfl) (by kernel_rfl) (by kernel_rfl) (by kernel_rfl) (fun _ _ _ h => h) (Or.inl ⟨by rfl, ?_⟩) hS ?_; rotate_left; focus ((intro w' hSw; clear hSw; go_simp) <;> with_reducible rfl)
          try simp only [Act.put, List.setIfInBounds_toArray, List.set_cons_zero, List.set_cons_succ]
          refine wpAnyH_take (i := 9) (v := ?_) (op_at rfl) (by kernel_rfl) (by kernel_rfl) (by kernel_rfl) (fun _ _ _ h => h) (Or.inl ⟨by rfl, ?_⟩) hS ?_; rotate_left; focus ((intro w' hSw; clear hSw; go_simp) <;> with_reducible rfl)
          try simp only [Act.put, List.setIfInBounds_toArray, List.set_cons_zero, List.set_cons_succ]
          refine wpAnyH_take (i := 10) (v := ?_) (op_at rfl) (by kernel_rfl) (by kernel_rfl) (by kernel_rfl) (fun _ _ _ h => h) (Or.inl ⟨by rfl, ?_⟩) hS ?_; rotate_left; focus ((intro w' hSw; clear hSw; go_simp) <;> with_reducible rfl)
          try simp only [Act.put, List.setIfInBounds_toArray, List.set_cons_zero, List.set_cons_succ]
          refine wpAnyH_take (i := 11) (v := ?_) (op_at rfl) (by kernel_rfl) (by kernel_rfl) (by kernel_rfl) (fun _ _ _ h => h) (Or.inl ⟨by rfl, ?_⟩) hS ?_; rotate_left; focus ((intro w' hSw; obtain ⟨q, -⟩ := hSw; have c2 : w'.cell? ⟨b, off + k * 8 + 2, none⟩ = some (.int .i64 x.cur.lv) := q.at_ (i := 2) (v := .int .i64 x.cur.lv) rfl; have c3 : w'.cell? ⟨b, off + k * 8 + 3, none⟩ = some (.int .u64 (u x.cur.c)) := q.at_ (i := 3) (v := .int .u64 (u x.cur.c)) rfl; have c4 : w'.cell? ⟨b, off + k * 8 + 4, none⟩ = some (.int .i64 x.cur.ig) := q.at_ (i := 4) (v := .int .i64 x.cur.ig) rfl; clear q; go_simp) <;> with_reducible rfl)
          try simp only [Act.put, List.setIfInBounds_toArray, List.set_cons_zero, List.set_cons_succ]
          refine wpAnyH_take (i := 12) (v := ?_) (op_at rfl) (by kernel_rfl) (by kernel_rfl) (by kernel_rfl) (fun _ _ _ h => h) (Or.inl ⟨by rfl, ?_⟩) hS ?_; rotate_left; focus ((intro w' hSw; obtain ⟨-, q, -⟩ := hSw; have c0 := q.at_ (i := 0) (v := .int .i64 a.lv) rfl; have c1 := q.at_ (i := 1) (v := .int .u64 (u a.c)) rfl; have c2 := q.at_ (i := 2) (v := .int .i64 a.ig) rfl; clear q; go_simp) <;> with_reducible rfl)
          try simp only [Act.put, List.setIfInBounds_toArray, List.set_cons_zero, List.set_cons_succ]
          refine wpAnyH_ready (rs := [13]) (by kernel_rfl) (by simp) ?_
          refine (AllReadyH.cons (op_at rfl) (fun K hK => ?_) AllReadyH.nil)
          go_simp
          obtain ⟨b0, b1, b2, hb⟩ := hS
          refine (rUnderIs HU.out _).mono ?_
          rintro e w2 ⟨rfl, hB⟩
          refine hK.out _ _ ⟨b0.after hB, b1.after hB, b2.after hB, below_call hb hB⟩ (fun hS => ?_)
          clear hK K hB b0 b1 b2 hb
          try simp only [Act.put, List.setIfInBounds_toArray, List.set_cons_zero, List.set_cons_succ]
          refine wpAnyH_take (i := 14) (v := ?_) (op_at rfl) (by kernel_rfl) (by kernel_rfl) (by kernel_rfl) (fun _ _ _ h => h) (Or.inl ⟨by rfl, ?_⟩) hS ?_; rotate_left; focus ((intro w' hSw; clear hSw; go_simp) <;> with_reducible rfl)
          try simp only [Act.put, List.setIfInBounds_toArray, List.set_cons_zero, List.set_cons_succ]
          refine wpAnyH_done (by kernel_rfl) ?_ _
          obtain ⟨b0, b1, b2, hb⟩ := hS
          replace B0 := Lib.hid b0
          clear b0
          replace B1 := Lib.hid b1
          clear b1
          replace B2 := Lib.hid b2
          clear b2
          replace HB := Lib.hid hb
          clear hb
          go_wp2_with fail
          go_roundw
          case rel => exact ⟨k + 1, _, rfl, by go_num, by omega, by rw [HN.out]; exact B2.out, B1.out, HB.out⟩
          case measure => simp [intOf]; omega
        · have HN := Lib.hid (seenTo_yes (a := a) HX.out (by unfold seenB; rw [hs, hu]; rfl))
          have HU := Lib.hid hu
          generalize seenTo l a k = L at *
          have B2 := Lib.hid (show OwnR wr w0.heap.size 3 1 v L.length (nums L) from hown)
          clear hown hu
          go_wp2_with fail
          refine wp_region_gen (S := (fun W' => Els W' (b) (off + k * 8) #[.int .i64 x.par, .int .i64 x.st, .int .i64 x.cur.lv, .int .u64 (u x.cur.c), .int .i64 x.cur.ig, .int .i64 x.high.lv, .int .u64 (u x.high.c), .int .i64 x.high.ig] ∧ Blk W' (w0.heap.size) 25 #[.int .i64 a.lv, .int .u64 (u a.c), .int .i64 a.ig] ∧ OwnR W' w0.heap.size 3 1 v L.length (nums L) ∧ Below w0.heap.size w0 W')) (by kernel_rfl) ⟨(by repeat (first | exact B0.out | refine Els.drew ?_ | refine Els.alloc ?_ _)), (by repeat (first | exact B1.out | exact Blk.new' (by simp; done) | exact Blk.new' rfl | refine Blk.drew ?_ | refine Blk.alloc ?_ _)), (by repeat (first | exact B2.out | refine OwnR.drew ?_ | refine OwnR.alloc ?_ _)), (by repeat (first | exact HB.out | refine below_alloc ?_ _ | refine Below.drew ?_ | refine below_set ?_ (by omega) _))⟩ (fun w1 hS => ?_)
          refine wpAnyH_take (i := 0) (v := ?_) (op_at rfl) (by kernel_rfl) (by kernel_rfl) (by kernel_rfl) (fun _ _ _ h => h) (Or.inl ⟨by rfl, ?_⟩) hS ?_; rotate_left; focus ((intro w' hSw; clear hSw; go_simp) <;> with_reducible rfl)
          try simp only [Act.put, List.setIfInBounds_toArray, List.set_cons_zero, List.set_cons_succ]
          refine wpAnyH_take (i := 1) (v := ?_) (op_at rfl) (by kernel_rfl) (by kernel_rfl) (by kernel_rfl) (fun _ _ _ h => h) (Or.inl ⟨by rfl, ?_⟩) hS ?_; rotate_left; focus ((intro w' hSw; clear hSw; go_simp) <;> with_reducible rfl)
          try simp only [Act.put, List.setIfInBounds_toArray, List.set_cons_zero, List.set_cons_succ]
          refine wpAnyH_take (i := 2) (v := ?_) (op_at rfl) (by kernel_rfl) (by kernel_rfl) (by kernel_rfl) (fun _ _ _ h => h) (Or.inl ⟨by rfl, ?_⟩) hS ?_; rotate_left; focus ((intro w' hSw; clear hSw; go_simp) <;> with_reducible rfl)
          try simp only [Act.put, List.setIfInBounds_toArray, List.set_cons_zero, List.set_cons_succ]
          refine wpAnyH_take (i := 3) (v := ?_) (op_at rfl) (by kernel_rfl) (by kernel_rfl) (by kernel_rfl) (fun _ _ _ h => h) (Or.inl ⟨by rfl, ?_⟩) hS ?_; rotate_left; focus ((intro w' hSw; clear hSw; go_simp) <;> with_reducible rfl)
          try simp only [Act.put, List.setIfInBounds_toArray, List.set_cons_zero, List.set_cons_succ]
          refine wpAnyH_take (i := 4) (v := ?_) (op_at rfl) (by kernel_rfl) (by kernel_rfl) (by kernel_rfl) (fun _ _ _ h => h) (Or.inl ⟨by rfl, ?_⟩) hS ?_; rotate_left; focus ((intro w' hSw; obtain ⟨q, -⟩ := hSw; have c1 : w'.cell? ⟨b, off + k * 8 + 1, none⟩ = some (.int .i64 x.st) := q.at_ (i := 1) (v := .int .i64 x.st) rfl; clear q; go_simp) <;> with_reducible rfl)
          try simp only [Act.put, List.setIfInBounds_toArray, List.set_cons_zero, List.set_cons_succ]
          refine wpAnyH_take (i := 5) (v := ?_) (op_at rfl) (by kernel_rfl) (by kernel_rfl) (by kernel_rfl) (fun _ _ _ h => h) (Or.inl ⟨by rfl, ?_⟩) hS ?_; rotate_left; focus ((intro w' hSw; clear hSw; go_simp) <;> with_reducible rfl)
          try simp only [Act.put, List.setIfInBounds_toArray, List.set_cons_zero, List.set_cons_succ]
          refine wpAnyH_take (i := 6) (v := ?_) (op_at rfl) (by kernel_rfl) (by kernel_rfl) (by kernel_rfl) (fun _ _ _ h => h) (Or.inl ⟨by rfl, ?_⟩) hS ?_; rotate_left; focus ((intro w' hSw; clear hSw; go_simp) <;> with_reducible rfl)
          try simp only [Act.put, List.setIfInBounds_toArray, List.set_cons_zero, List.set_cons_succ]
          refine wpAnyH_take (i := 7) (v := ?_) (op_at rfl) (by kernel_rfl) (by kernel_rfl) (by kernel_rfl) (fun _ _ _ h => h) (Or.inl ⟨by rfl, ?_⟩) hS ?_; rotate_left; focus ((intro w' hSw; clear hSw; go_simp) <;> with_reducible rfl)
          try simp only [Act.put, List.setIfInBounds_toArray, List.set_cons_zero, List.set_cons_succ]
          refine wpAnyH_take (i := 8) (v := ?_) (op_at rfl) (by kernel_rfl) (by kernel_rfl) (by kernel_rfl) (fun _ _ _ h => h) (Or.inl ⟨by rfl, ?_⟩) hS ?_; rotate_left; focus ((intro w' hSw; clear hSw; go_simp) <;> with_reducible rfl)
          try simp only [Act.put, List.setIfInBounds_toArray, List.set_cons_zero, List.set_cons_succ]
          refine wpAnyH_take (i := 9) (v := ?_) (op_at rfl) (by kernel_rfl) (by kernel_rfl) (by kernel_rfl) (fun _ _ _ h => h) (Or.inl ⟨by rfl, ?_⟩) hS ?_; rotate_left; focus ((intro w' hSw; clear hSw; go_simp) <;> with_reducible rfl)
          try simp only [Act.put, List.setIfInBounds_toArray, List.set_cons_zero, List.set_cons_succ]
          refine wpAnyH_take (i := 10) (v := ?_) (op_at rfl) (by kernel_rfl) (by kernel_rfl) (by kernel_rfl) (fun _ _ _ h => h) (Or.inl ⟨by rfl, ?_⟩) hS ?_; rotate_left; focus ((intro w' hSw; clear hSw; go_simp) <;> with_reducible rfl)
          try simp only [Act.put, List.setIfInBounds_toArray, List.set_cons_zero, List.set_cons_succ]
          refine wpAnyH_take (i := 11) (v := ?_) (op_at rfl) (by kernel_rfl) (by kernel_rfl) (by kernel_rfl) (fun _ _ _ h => h) (Or.inl ⟨by rfl, ?_⟩) hS ?_; rotate_left; focus ((intro w' hSw; obtain ⟨q, -⟩ := hSw; have c2 : w'.cell? ⟨b, off + k * 8 + 2, none⟩ = some (.int .i64 x.cur.lv) := q.at_ (i := 2) (v := .int .i64 x.cur.lv) rfl; have c3 : w'.cell? ⟨b, off + k * 8 + 3, none⟩ = some (.int .u64 (u x.cur.c)) := q.at_ (i := 3) (v := .int .u64 (u x.cur.c)) rfl; have c4 : w'.cell? ⟨b, off + k * 8 + 4, none⟩ = some (.int .i64 x.cur.ig) := q.at_ (i := 4) (v := .int .i64 x.cur.ig) rfl; clear q; go_simp) <;> with_reducible rfl)
          try simp only [Act.put, List.setIfInBounds_toArray, List.set_cons_zero, List.set_cons_succ]
          refine wpAnyH_take (i := 12) (v := ?_) (op_at rfl) (by kernel_rfl) (by kernel_rfl) (by kernel_rfl) (fun _ _ _ h => h) (Or.inl ⟨by rfl, ?_⟩) hS ?_; rotate_left; focus ((intro w' hSw; obtain ⟨-, q, -⟩ := hSw; have c0 := q.at_ (i := 0) (v := .int .i64 a.lv) rfl; have c1 := q.at_ (i := 1) (v := .int .u64 (u a.c)) rfl; have c2 := q.at_ (i := 2) (v := .int .i64 a.ig) rfl; clear q; go_simp) <;> with_reducible rfl)
          try simp only [Act.put, List.setIfInBounds_toArray, List.set_cons_zero, List.set_cons_succ]
          refine wpAnyH_ready (rs := [13]) (by kernel_rfl) (by simp) ?_
          refine (AllReadyH.cons (op_at rfl) (fun K hK => ?_) AllReadyH.nil)
          go_simp
          obtain ⟨b0, b1, b2, hb⟩ := hS
          refine (rUnderIs HU.out _).mono ?_
          rintro e w2 ⟨rfl, hB⟩
          refine hK.out _ _ ⟨b0.after hB, b1.after hB, b2.after hB, below_call hb hB⟩ (fun hS => ?_)
          clear hK K hB b0 b1 b2 hb
          try simp only [Act.put, List.setIfInBounds_toArray, List.set_cons_zero, List.set_cons_succ]
          refine wpAnyH_take (i := 14) (v := ?_) (op_at rfl) (by kernel_rfl) (by kernel_rfl) (by kernel_rfl) (fun _ _ _ h => h) (Or.inl ⟨by rfl, ?_⟩) hS ?_; rotate_left; focus ((intro w' hSw; clear hSw; go_simp) <;> with_reducible rfl)
          try simp only [Act.put, List.setIfInBounds_toArray, List.set_cons_zero, List.set_cons_succ]
          refine wpAnyH_done (by kernel_rfl) ?_ _
          obtain ⟨b0, b1, b2, hb⟩ := hS
          replace B0 := Lib.hid b0
          clear b0
          replace B1 := Lib.hid b1
          clear b1
          replace B2 := Lib.hid b2
          clear b2
          replace HB := Lib.hid hb
          clear hb
          have hown : World.ownsRow w2 w0.heap.size 3 1 v L.length (nums L) := B2.out
          have hsz := HB.out.size
          have hA := B1.out
          go_wp2_with (at_builtin; refine wpList_append_own _ rfl _ _ 48 rfl w0.heap.size 3 i0 (.int .i64 0) 1 8 Tryd.underlying48 hi hz0 hz1 hz2 rfl (by decide) _ _ _ rfl (hown.alloc _) ⟨w2.heap.size, 0, none⟩ 1 1 [.int .i64 (k : Int)] rfl rfl (cell_one_new _ _ _) (by simp [Value.oneCell']) (by unfold maxLen; omega) (by omega) (by simp; omega) ?_; intro v' w9 hown' hgrow _)
          have hB2 : Below w0.heap.size w0 w9 := (HB.out.alloc HB.out.size _).grown hgrow (by simp; omega) (fun j e => (hown.lt j e).1)
          have hA2 : Blk w9 w0.heap.size 25 #[.int .i64 a.lv, .int .u64 (u a.c), .int .i64 a.ig] := Blk.grown (hA.alloc _) hgrow (hA.not_row (by decide) hown)
          go_wp2_with fail
          go_roundw
          case rel => exact ⟨k + 1, _, rfl, by go_num, by omega, by rw [HN.out, nums_snoc]; simpa using hown', hA2, hB2⟩
          case measure => simp [intOf]; omega
    · have hke : k = l.length := by omega
      subst hke
      have HO := Lib.hid hown
      clear hown
      go_wp2_with fail
      go_ret
      exact ⟨_, rfl, HO.out, HB.out⟩
end

section
open Go.RowKit

/-- A slice value that reads as a list of integers (nil too), in blocks below B. -/
def IntsAt (B : Nat) (w : World) (v : Value) (l : List Int) : Prop :=
  (v = .slice none 0 0 ∧ l = []) ∨ ∃ b off cap, v = .slice (some ⟨b, off, none⟩) l.length cap ∧ b < B ∧ l.length ≤ 9223372036854775807 ∧ l.length ≤ cap ∧ ∀ k, k < l.length → w.cell? ⟨b, off + k, none⟩ = some (.int .i64 (l[k]?.getD 0))
theorem IntsAt.below {B : Nat} {w w' : World} {v : Value} {l : List Int} (h : IntsAt B w v l) (hb : Below B w w') : IntsAt B w' v l := by
  rcases h with h | ⟨b, off, cap, hv, hlt, hn, hcap, hc⟩
  · exact .inl h
  · exact .inr ⟨b, off, cap, hv, hlt, hn, hcap, fun k hk => (hb.cell (p := ⟨b, off + k, none⟩) hlt).trans (hc k hk)⟩
theorem IntsAt.nil (B : Nat) (w : World) : IntsAt B w (.slice none 0 0) [] := .inl ⟨rfl, rfl⟩
theorem IntsAt.mono {B B' : Nat} {w : World} {v : Value} {l : List Int} (h : IntsAt B w v l) (hb : B ≤ B') : IntsAt B' w v l := by
  rcases h with h | ⟨b, off, cap, hv, hlt, hn, hcap, hc⟩
  · exact .inl h
  · exact .inr ⟨b, off, cap, hv, by omega, hn, hcap, hc⟩
def ints (l : List Nat) : List Int := l.map fun k : Nat => (k : Int)
theorem ints_get (L : List Nat) (k : Nat) (h : k < L.length) : (nums L)[k]? = some (.int .i64 ((ints L)[k]?.getD 0)) := by
  unfold nums ints
  rw [List.getElem?_map, List.getElem?_map, List.getElem?_eq_getElem h]; rfl
theorem ints_len (L : List Nat) : (ints L).length = L.length := by simp [ints]
/-- what the call owns reads as a list -/
theorem owns_ints {w : World} {base : Nat} {v : Value} {L : List Nat} (h : w.ownsRow base 3 1 v L.length (nums L)) (hn : L.length ≤ 9223372036854775807) : IntsAt w.heap.size w v (ints L) := by
  have hh := h
  rcases h.2 with ⟨rfl, h0⟩ | ⟨g, cap, cur, rfl, hb, hg, hcap, hmax, _, _⟩
  · exact .inl ⟨rfl, by rw [List.length_eq_zero_iff.1 h0]; rfl⟩
  · refine .inr ⟨g, 0, cap, by rw [ints_len], (Array.getElem?_eq_some_iff.1 hg).1, by rw [ints_len]; exact hn, by rw [ints_len]; exact hcap, fun k hk => ?_⟩
    rw [ints_len] at hk
    have hc := hh.cells (g := g) rfl k _ (ints_get L k hk)
    have hadd : (⟨g, 0, none⟩ : Addr).add k = ⟨g, 0 + k, none⟩ := by unfold Addr.add; split <;> simp_all
    rw [hadd] at hc
    exact hc
theorem rInts_any (v1 v2 : Value) (l1 l2 : List Int) (w : World) (h1 : IntsAt w.heap.size w v1 l1) (h2 : IntsAt w.heap.size w v2 l2) :
    Calls Tryd.prog 26 #[v1, v2] w fun e w' => e = .returned (.bool (decide (l1 = l2))) ∧ Below w.heap.size w w' := by
  by_cases hlen : l1.length = l2.length
  · have hl : ((l1.length : Int) != (l2.length : Int)) = false := by rw [bne_eq_false_iff_eq]; omega
    rcases h1 with ⟨rfl, rfl⟩ | ⟨b1, o1, c1, rfl, hb1, hn1, hc1, hr1⟩
    · obtain rfl : l2 = [] := List.length_eq_zero_iff.1 hlen.symm
      rw [decide_eq_true rfl]
      rcases h2 with ⟨rfl, -⟩ | ⟨b2, o2, c2, rfl, hb2, hn2, hc2, hr2⟩
      all_goals
        clear hlen
        go_enter Tryd.func26, Tryd.ntmps26
        go_wp2
        go_rounds 1
        all_goals go_ret
        all_goals exact ⟨rfl, Below.refl _ _⟩
    · rcases h2 with ⟨rfl, rfl⟩ | ⟨b2, o2, c2, rfl, hb2, hn2, hc2, hr2⟩
      · obtain rfl : l1 = [] := List.length_eq_zero_iff.1 hlen
        rw [decide_eq_true rfl]
        clear hlen hr1
        go_enter Tryd.func26, Tryd.ntmps26
        go_wp2
        go_rounds 1
        all_goals go_ret
        all_goals exact ⟨rfl, Below.refl _ _⟩
      · have HL := Lib.hid hlen
        have HR1 := Lib.hid hr1
        have HR2 := Lib.hid hr2
        have hle : l1.length ≤ l2.length := by omega
        clear hr1 hr2 hlen
        go_enter Tryd.func26, Tryd.ntmps26
        go_wp2
        go_loopw [5] (fun i wr => ∃ k : Nat, k ≤ l1.length ∧ i = .int .i64 k ∧ Below w.heap.size w wr ∧ ∀ j, j < k → l1[j]?.getD 0 = l2[j]?.getD 0) (fun i _ => l1.length - (intOf i).toNat)
        case atStart => exact ⟨0, by omega, rfl, Below.refl _ _, fun j hj => by omega⟩
        case round =>
          obtain ⟨k, hk, rfl, hB, hall⟩ := hrel
          have HA := Lib.hid hall
          clear hall
          by_cases hlt : k < l1.length
          · have hlt2 : k < l2.length := by omega
            have g1 := (hB.cell (p := ⟨b1, o1 + k, none⟩) hb1).trans (HR1.out k hlt)
            have g2 := (hB.cell (p := ⟨b2, o2 + k, none⟩) hb2).trans (HR2.out k hlt2)
            have z1 : (0 : Int) ≤ (k : Int) := by omega
            have z2 : (k : Int) < (l1.length : Int) := by omega
            have z3 : (k : Int) < (l2.length : Int) := by omega
            by_cases he : l1[k]?.getD 0 = l2[k]?.getD 0
            · have HN : Hid (∀ j, j < k + 1 → l1[j]?.getD 0 = l2[j]?.getD 0) := fun j hj => by
                by_cases e : j = k
                · subst e; exact he
                · exact HA.out j (by omega)
              rw [← he] at g2
              clear he
              generalize l1[k]?.getD 0 = p at *
              have hne : (p != p) = false := by simp
              go_wp2
              go_quiet (fail)
              go_wp2
              go_roundw
              case rel => exact ⟨k + 1, by omega, by go_num, below_drewN hB _, HN.out⟩
              case measure => simp [intOf]; omega
            · have HN : Hid (l1 ≠ l2) := fun e => he (by rw [e])
              have hne : ((l1[k]?.getD 0) != (l2[k]?.getD 0)) = true := by simpa [bne_iff_ne] using he
              clear he
              generalize l1[k]?.getD 0 = p at *
              generalize l2[k]?.getD 0 = q at *
              go_wp2
              go_quiet (fail)
              go_wp2
              go_ret
              rw [decide_eq_false HN.out]
              exact ⟨rfl, below_drewN hB _⟩
          · obtain rfl : k = l1.length := by omega
            have HN : Hid (l1 = l2) := by
              refine List.ext_getElem HL.out fun i h1 h2 => ?_
              have := HA.out i h1
              rw [List.getElem?_eq_getElem h1, List.getElem?_eq_getElem h2] at this
              exact this
            go_wp2
            go_ret
            rw [decide_eq_true HN.out]
            exact ⟨rfl, hB⟩
  · have hne : l1 ≠ l2 := fun e => hlen (by rw [e])
    rw [decide_eq_false hne]
    have hl : ((l1.length : Int) != (l2.length : Int)) = true := by rw [bne_iff_ne]; omega
    rcases h1 with ⟨rfl, rfl⟩ | ⟨b1, o1, c1, rfl, -⟩ <;> rcases h2 with ⟨rfl, rfl⟩ | ⟨b2, o2, c2, rfl, -⟩
    · exact absurd rfl hlen
    · have hl0 : ((0 : Int) != (l2.length : Int)) = true := hl
      clear hne hlen hl
      go_enter Tryd.func26, Tryd.ntmps26
      go_wp2
      go_ret
      exact ⟨rfl, Below.refl _ _⟩
    · have hl0 : ((l1.length : Int) != (0 : Int)) = true := hl
      clear hne hlen hl
      go_enter Tryd.func26, Tryd.ntmps26
      go_wp2
      go_ret
      exact ⟨rfl, Below.refl _ _⟩
    · clear hne hlen
      go_enter Tryd.func26, Tryd.ntmps26
      go_wp2
      go_ret
      exact ⟨rfl, Below.refl _ _⟩
end

section
open Go.RowKit

def SubsW (w : World) (v : Value) (l : List Sub) : Prop := SubsAt w.heap.size w v l
theorem SubsW.drew {w : World} {v : Value} {l : List Sub} (h : SubsW w v l) : SubsW w.drew v l := h
theorem SubsW.after {w w' : World} {v : Value} {l : List Sub} (h : SubsW w v l) (hb : Below w.heap.size w w') : SubsW w' v l := RowsAt.later h hb hb.size
theorem SubsW.alloc {w : World} {v : Value} {l : List Sub} (h : SubsW w v l) (o : Obj) : SubsW (w.alloc o) v l := h.after ((Below.refl _ _).alloc (Nat.le_refl _) o)
def NumsW (w : World) (v : Value) (s : List Nat) : Prop := RowsAt encN 1 w.heap.size w v s
theorem NumsW.drew {w : World} {v : Value} {l : List Nat} (h : NumsW w v l) : NumsW w.drew v l := h
theorem NumsW.after {w w' : World} {v : Value} {l : List Nat} (h : NumsW w v l) (hb : Below w.heap.size w w') : NumsW w' v l := RowsAt.later h hb hb.size
theorem NumsW.alloc {w : World} {v : Value} {l : List Nat} (h : NumsW w v l) (o : Obj) : NumsW (w.alloc o) v l := h.after ((Below.refl _ _).alloc (Nat.le_refl _) o)
theorem encN_size (x : Nat) : (encN x).size = 1 := rfl
theorem nums_flat (l : List Nat) : nums l = l.flatMap fun x => (encN x).toList := by
  unfold nums
  induction l with
  | nil => rfl
  | cons x l ih => rw [List.map_cons, List.flatMap_cons, ih]; rfl
theorem NumsW.of_own {w : World} {base : Nat} {v : Value} {s : List Nat} (h : w.ownsRow base 3 1 v s.length (nums s)) : NumsW w v s := RowsAt.of_own encN_size (nums_flat s ▸ h) rfl
theorem NumsW.ints {w : World} {v : Value} {s : List Nat} (h : NumsW w v s) : IntsAt w.heap.size w v (ints s) := by
  rcases h with ⟨rfl, rfl⟩ | ⟨b, off, cap, rfl, hlt, hcap, hn, hc⟩
  · exact IntsAt.nil _ _
  · refine .inr ⟨b, off, cap, by rw [ints_len], hlt, by rw [ints_len]; omega, by rw [ints_len]; exact hcap, fun k hk => ?_⟩
    rw [ints_len] at hk
    have := hc k _ (List.getElem?_eq_getElem hk) 0 (.int .i64 ((s[k] : Nat) : Int)) rfl
    rw [Nat.mul_one, Nat.add_zero] at this
    rw [this]
    unfold Go.Proofs.YteepgbkblgcegaaDoor.ints
    rw [List.getElem?_map, List.getElem?_eq_getElem hk]; rfl
section
variable {l m : List Sub} {s t : List Nat} {v v2 : Value} {W : World} {who child n : Int} {a : Lab} {r : Bool} {sa : Addr}
theorem pack {W w' : World} {v' : Value} {m : List Sub} {n : Int} {e : Ending} (h : e = .returned (.tuple #[v', .int .i64 n]) ∧ SubsAt w'.heap.size w' v' m ∧ Below W.heap.size W w') :
    ∃ A c, e = .returned (.tuple #[.slice A m.length c, .int .i64 n]) ∧ SubsW w' (.slice A m.length c) m ∧ Below W.heap.size W w' := by
  obtain ⟨rfl, h2, h3⟩ := h
  obtain ⟨A, c, rfl, _⟩ := h2.slice
  exact ⟨A, c, rfl, h2, h3⟩
theorem startIs (he : startE l who child = n) (hm : startL l who child = m) (hle : l.length ≤ 1000) (hh : Handle W) (hl : SubsW W v l) :
    Calls Tryd.prog 12 #[v, .int .i64 who, .int .i64 child] W fun e w' => ∃ A c, e = .returned (.tuple #[.slice A m.length c, .int .i64 n]) ∧ SubsW w' (.slice A m.length c) m ∧ Below W.heap.size W w' := by
  subst he hm; exact (Start_any l v who child W hl hle hh).mono fun e w' ⟨_, h⟩ => pack h
theorem rStartIs (he : startE l who child = n) (hm : startL l who child = m) (hle : l.length ≤ 1000) (hl : SubsW W v l) :
    Calls Tryd.prog 13 #[v, .int .i64 who, .int .i64 child] W fun e w' => ∃ A c, e = .returned (.tuple #[.slice A m.length c, .int .i64 n]) ∧ SubsW w' (.slice A m.length c) m ∧ Below W.heap.size W w' := by
  subst he hm; exact (rStart_any l v who child W hl hle).mono fun e w' ⟨_, h⟩ => pack h
theorem sfloatIs (he : sfloatE l who a = n) (hm : sfloatL l who a = m) (hle : l.length ≤ 1000) (hh : Env sa W) (hl : SubsW W v l) :
    Calls Tryd.prog 14 #[v, .int .i64 who, .agg #[.int .i64 a.lv, .int .u64 (u a.c), .int .i64 a.ig]] W fun e w' => ∃ A c, e = .returned (.tuple #[.slice A m.length c, .int .i64 n]) ∧ SubsW w' (.slice A m.length c) m ∧ Below W.heap.size W w' := by
  subst he hm; exact (FloatS_any l v who a sa W hl hle hh).mono fun e w' ⟨_, h⟩ => pack h
theorem rsFloatIs (he : sfloatE l who a = n) (hm : sfloatL l who a = m) (hle : l.length ≤ 1000) (hl : SubsW W v l) :
    Calls Tryd.prog 15 #[v, .int .i64 who, .agg #[.int .i64 a.lv, .int .u64 (u a.c), .int .i64 a.ig]] W fun e w' => ∃ A c, e = .returned (.tuple #[.slice A m.length c, .int .i64 n]) ∧ SubsW w' (.slice A m.length c) m ∧ Below W.heap.size W w' := by
  subst he hm; exact (rFloatS_any l v who a W hl hle).mono fun e w' ⟨_, h⟩ => pack h
theorem exitIs (he : exitE l who = n) (hm : exitL l who = m) (hle : l.length ≤ 1000) (hh : Handle W) (hl : SubsW W v l) :
    Calls Tryd.prog 16 #[v, .int .i64 who] W fun e w' => ∃ A c, e = .returned (.tuple #[.slice A m.length c, .int .i64 n]) ∧ SubsW w' (.slice A m.length c) m ∧ Below W.heap.size W w' := by
  subst he hm; exact (Exit_any l v who W hl hle hh).mono fun e w' ⟨_, h⟩ => pack h
theorem rExitIs (he : exitE l who = n) (hm : exitL l who = m) (hle : l.length ≤ 1000) (hl : SubsW W v l) :
    Calls Tryd.prog 17 #[v, .int .i64 who] W fun e w' => ∃ A c, e = .returned (.tuple #[.slice A m.length c, .int .i64 n]) ∧ SubsW w' (.slice A m.length c) m ∧ Below W.heap.size W w' := by
  subst he hm; exact (rExit_any l v who W hl hle).mono fun e w' ⟨_, h⟩ => pack h
theorem packN {W w' : World} {v' : Value} {s : List Nat} {e : Ending} {base : Nat} (h : e = .returned v' ∧ w'.ownsRow base 3 1 v' s.length (nums s) ∧ Below W.heap.size W w') :
    ∃ A c, e = .returned (.slice A s.length c) ∧ NumsW w' (.slice A s.length c) s ∧ Below W.heap.size W w' := by
  obtain ⟨rfl, h2, h3⟩ := h
  have h4 := NumsW.of_own h2
  obtain ⟨A, c, rfl, _⟩ := RowsAt.slice h4
  exact ⟨A, c, rfl, h4, h3⟩
theorem seenIs (hs : seenL l a = s) (hle : l.length ≤ 1000) (hl : SubsW W v l) :
    Calls Tryd.prog 23 #[v, .agg #[.int .i64 a.lv, .int .u64 (u a.c), .int .i64 a.ig]] W fun e w' => ∃ A c, e = .returned (.slice A s.length c) ∧ NumsW w' (.slice A s.length c) s ∧ Below W.heap.size W w' := by
  subst hs; exact (Seen_any l v a W hl hle).mono fun e w' ⟨_, h⟩ => packN h
theorem rSeenIs (hs : seenL l a = s) (hle : l.length ≤ 1000) (hl : SubsW W v l) :
    Calls Tryd.prog 27 #[v, .agg #[.int .i64 a.lv, .int .u64 (u a.c), .int .i64 a.ig]] W fun e w' => ∃ A c, e = .returned (.slice A s.length c) ∧ NumsW w' (.slice A s.length c) s ∧ Below W.heap.size W w' := by
  subst hs; exact (rSeen_any l v a W hl hle).mono fun e w' ⟨_, h⟩ => packN h
theorem rIntsIs (hr : decide (s = t) = r) (hs : NumsW W v s) (ht : NumsW W v2 t) :
    Calls Tryd.prog 26 #[v, v2] W fun e w' => e = .returned (.bool r) ∧ Below W.heap.size W w' := by
  have hd : decide (ints s = ints t) = r := by
    rw [← hr]
    refine decide_eq_decide.2 ⟨fun h => ?_, fun h => by rw [h]⟩
    unfold ints at h
    exact (List.map_inj_right (f := fun k : Nat => (k : Int)) (fun x y e => by have e2 : (x : Int) = (y : Int) := e; omega)).1 h
  rw [← hd]; exact rInts_any v v2 _ _ W hs.ints ht.ints
theorem sameIs (hr : r = true ↔ l = m) (hl : SubsW W v l) (hm : SubsW W v2 m) : Calls Tryd.prog 28 #[v, v2] W fun e w' => e = .returned (.bool r) ∧ Below W.heap.size W w' :=
  same_any l m v v2 r hr W hl hm
theorem rSameIs (hr : r = true ↔ l = m) (hl : SubsW W v l) (hm : SubsW W v2 m) : Calls Tryd.prog 18 #[v, v2] W fun e w' => e = .returned (.bool r) ∧ Below W.heap.size W w' :=
  rSame_any l m v v2 r hr W hl hm
theorem fewIs (hm : l.take 10 = m) (hl : SubsW W v l) : Calls Tryd.prog 11 #[v] W fun e w' => ∃ A c, e = .returned (.slice A m.length c) ∧ SubsW W (.slice A m.length c) m ∧ W = w' := by
  subst hm
  refine (Few_any l v W hl).mono ?_
  rintro e w' ⟨v', rfl, h, rfl⟩
  obtain ⟨A, c, rfl, _⟩ := h.slice
  exact ⟨A, c, rfl, h, rfl⟩
end
end

section
open Go.ChangeShapes Go.WideShapes Go.ChangeAt Go.RowKit Go.Deep

section
variable {H : Type} {enc : TypeId × Value → H} {w : World} {base : Nat} {spare : Nat → Bool} {held : Bool}
theorem cellsOfSub : Tryd.prog.cellsOf 41 = 8 := by kernel_rfl
set_option maxRecDepth 100000 in
theorem sub_cells {fuel : Nat} {cs : List Value} {x : DataW H × List MemPlace} (h : DataW.trod enc Tryd.prog w base spare held fuel 41 cs = some x) : ∃ a : Sub, cs = (encS a).toList := by
  obtain ⟨xs, n, _, _, hl, hlen, hf⟩ := DataW.trod_struct Tryd.underlying41 h
  rw [cellsOfSub] at hl
  match cs, hl with
  | [c0, c1, c2, c3, c4, c5, c6, c7], _ =>
    have h0 : DataW.trod enc Tryd.prog w base spare held n 3 (List.take (Tryd.prog.cellsOf 3) [c0, c1, c2, c3, c4, c5, c6, c7]) = xs[0]? := hf 0 _ rfl
    have h1 : DataW.trod enc Tryd.prog w base spare held n 3 (List.take (Tryd.prog.cellsOf 3) [c1, c2, c3, c4, c5, c6, c7]) = xs[1]? := hf 1 _ rfl
    have h2 : DataW.trod enc Tryd.prog w base spare held n 25 (List.take (Tryd.prog.cellsOf 25) [c2, c3, c4, c5, c6, c7]) = xs[2]? := hf 2 _ rfl
    have h3 : DataW.trod enc Tryd.prog w base spare held n 25 (List.take (Tryd.prog.cellsOf 25) [c5, c6, c7]) = xs[3]? := hf 3 _ rfl
    rw [cellsOfInt] at h0 h1
    rw [cellsOfLab] at h2 h3
    obtain ⟨z0, rfl⟩ := int_cell h0 (some_of_len hlen (by decide))
    obtain ⟨z1, rfl⟩ := int_cell h1 (some_of_len hlen (by decide))
    obtain ⟨y2, hy2⟩ := some_of_len hlen (show 2 < _ by decide)
    obtain ⟨y3, hy3⟩ := some_of_len hlen (show 3 < _ by decide)
    obtain ⟨a, ha⟩ := lab_cells (h2.trans hy2)
    obtain ⟨b, hb⟩ := lab_cells (h3.trans hy3)
    simp only [List.take_succ_cons, List.take_zero, List.cons.injEq, and_true] at ha hb
    obtain ⟨rfl, rfl, rfl⟩ := ha
    obtain ⟨rfl, rfl, rfl⟩ := hb
    exact ⟨⟨z0, z1, a, b⟩, rfl⟩
set_option maxRecDepth 100000 in
/-- a slice whose elements' cells can be read reads as a list -/
theorem rows_of {α : Type} {encA : α → Array Value} {s : Nat} {st e : TypeId} (hs : ∀ x, (encA x).size = s) (hc : Tryd.prog.cellsOf e = s) (hu : Tryd.prog.underlying st = some (.slice e))
    (hel : ∀ (fuel : Nat) (cs : List Value) (x : DataW H × List MemPlace), DataW.trod enc Tryd.prog w 0 (fun _ => true) true fuel e cs = some x → ∃ a : α, cs = (encA a).toList)
    {v : Value} {d : DataW H} {p : List MemPlace} (hval : Value.okWide Tryd.prog w .any base st v) (h : DataW.Trod enc Tryd.prog w 0 (fun _ => true) true st v d p) : ∃ l, RowsAt encA s w.heap.size w v l := by
  obtain ⟨a0, len, cap, rfl⟩ := okWide_slice hu hval
  obtain ⟨fuel, hf⟩ := h
  rcases open_slice hu hf with ⟨hcs, _⟩ | ⟨a, len', cap', m, n, D, Pl, hcs, _, hl, hm, hmm, _, hi⟩
  · simp only [Value.cells, List.cons.injEq, Value.slice.injEq, and_true] at hcs
    obtain ⟨rfl, rfl, rfl⟩ := hcs
    exact ⟨[], .inl ⟨rfl, rfl⟩⟩
  · simp only [Value.cells, List.cons.injEq, Value.slice.injEq, and_true] at hcs
    obtain ⟨rfl, rfl, rfl⟩ := hcs
    obtain ⟨hsp, hb, _, hcap⟩ := slice_addr hu hval
    obtain ⟨b, off, spot⟩ := a
    obtain rfl : spot = none := hsp
    rw [if_pos rfl] at hmm
    have hmax : (IntKind.i64.max : Int) = 9223372036854775807 := by decide
    have hx : ∀ i, i < len → ∃ x : α, ∀ (j : Nat) (u : Value), (encA x)[j]? = some u → w.cell? ⟨b, off + i * s + j, none⟩ = some u := by
      intro i hlt
      obtain ⟨cs', hc', ht⟩ := hi i (by omega)
      obtain ⟨x, rfl⟩ := hel _ _ _ ht
      rw [hc] at hc'
      obtain ⟨_, _, hat⟩ := World.cells?_some hc'
      refine ⟨x, fun j u hu' => ?_⟩
      have hj : j < s := by have := (Array.getElem?_eq_some_iff.1 hu').1; rw [hs] at this; exact this
      have g := hat j hj
      rw [add_off, add_off] at g
      rw [g, Array.getElem?_toList]; exact hu'
    refine ⟨List.ofFn (fun i : Fin len => Classical.choose (hx i.1 i.2)), .inr ⟨b, off, cap, by rw [List.length_ofFn], hb, by rw [List.length_ofFn]; exact hl, by omega, fun k x hk => ?_⟩⟩
    rw [List.getElem?_ofFn] at hk
    split at hk
    · cases hk
      exact Classical.choose_spec (hx k (by assumption))
    · cases hk
set_option maxRecDepth 100000 in
theorem subs_of {v : Value} {d : DataW H} {p : List MemPlace} (hval : Value.okWide Tryd.prog w .any base 22 v)
    (h : DataW.Trod enc Tryd.prog w 0 (fun _ => true) true 22 v d p) : ∃ l, SubsW w v l :=
  rows_of encS_size cellsOfSub Tryd.underlying22 (fun _ _ _ h => sub_cells h) hval h
end
end

section
open Go.RowKit

attribute [local go_sem] u_and u_or u_andNot u_add u_sub u_bit u_eq_zero u_beq

theorem less_all (W : World) : Calls Tryd.prog 49 #[.int .u64 18446744073709551615, .int .u64 0] W fun e w' => e = .returned (.int .u64 18446744073709551615) ∧ W = w' := by
  have h := less_any (BitVec.allOnes 64) 0#64 W
  rw [show u (BitVec.allOnes 64) = 18446744073709551615 by decide +kernel, show u 0#64 = 0 by decide +kernel, show u (BitVec.allOnes 64 &&& ~~~0#64) = 18446744073709551615 by decide +kernel] at h
  exact h
theorem Top16 (w : World) : Calls Tryd.prog 30 #[] w fun e w' => e = .returned (.agg #[.int .i64 topL.lv, .int .u64 (u topL.c), .int .i64 topL.ig]) ∧ Below w.heap.size w w' := by
  rw [show u topL.c = 18446744073709551615 by decide +kernel]
  go_enter Tryd.func30, Tryd.ntmps30
  go_wp2_with (go_at_call 49; refine (less_all _).mono ?_; rintro e w1 ⟨rfl, rfl⟩)
  go_returns
  exact ⟨rfl, by go_grown⟩
def T0w : List Sub := [⟨-1, 1, botL, topL⟩, ⟨0, 0, zeroL, ⟨1, 1#64, 5⟩⟩]
theorem tabW {w : World} {g : Nat} {T0 : List Sub} (hT : T0w = T0) (h : Blk w g 41 #[.int .i64 (-1), .int .i64 1, .int .i64 botL.lv, .int .u64 (u botL.c), .int .i64 botL.ig, .int .i64 topL.lv, .int .u64 (u topL.c), .int .i64 topL.ig, .int .i64 0, .int .i64 0, .int .i64 0, .int .u64 0, .int .i64 0, .int .i64 1, .int .u64 1, .int .i64 5]) : SubsW w (.slice (some ⟨g, 0, none⟩) 2 2) T0 := by
  subst hT
  exact RowsAt.of_blk (l := T0w) (cap := 2) encS_size h ⟨[], rfl⟩ (by decide) (by decide)
set_option maxRecDepth 100000 in
set_option maxHeartbeats 8000000 in
theorem shown_core (sa : Addr) (T0 T1 T2 T3 M4 M5 : List Sub) (y : Sub) (w : World) (hh : Env sa w) (h_y : T2[1]? = some y) (h_T0 : T0w = T0) (h_sfloatE_T0_011645Lab : sfloatE T0 0 (⟨1, 1#64, 5⟩ : Lab) = 0) (h_sfloatL_T0_011645Lab : sfloatL T0 0 (⟨1, 1#64, 5⟩ : Lab) = T1) (h_len_T0 : T0.length ≤ 1000) (h_startE_T1_01 : startE T1 0 1 = 0) (h_startL_T1_01 : startL T1 0 1 = T2) (h_len_T1 : T1.length ≤ 1000) (h_startE_T2_01 : startE T2 0 1 = 162) (h_startL_T2_01 : startL T2 0 1 = M4) (h_len_T2 : T2.length ≤ 1000) (h_exitE_T2_0 : exitE T2 0 = 0) (h_exitL_T2_0 : exitL T2 0 = T3) (h_exitE_T3_0 : exitE T3 0 = 161) (h_exitL_T3_0 : exitL T3 0 = M5) (h_len_T3 : T3.length ≤ 1000) (h_rightTT0 : rightT T0 = true) (h_q_eql_ycur_11645Lab : eqL y.cur (⟨1, 1#64, 5⟩ : Lab) = true) (h_aliveTT31 : aliveT T3 1 = true) (h_aliveTT30 : aliveT T3 0 = false) (v0 : ((T2.length : Int) == 2) = true) :
    Calls Tryd.prog 10 #[] w (Yes w) := by
  have HH := Lib.hid hh
  clear hh
  have H_y := Lib.hid h_y
  clear h_y
  have H_T0 := Lib.hid h_T0
  clear h_T0
  have H_sfloatE_T0_011645Lab := Lib.hid h_sfloatE_T0_011645Lab
  clear h_sfloatE_T0_011645Lab
  have H_sfloatL_T0_011645Lab := Lib.hid h_sfloatL_T0_011645Lab
  clear h_sfloatL_T0_011645Lab
  have H_len_T0 := Lib.hid h_len_T0
  clear h_len_T0
  have H_startE_T1_01 := Lib.hid h_startE_T1_01
  clear h_startE_T1_01
  have H_startL_T1_01 := Lib.hid h_startL_T1_01
  clear h_startL_T1_01
  have H_len_T1 := Lib.hid h_len_T1
  clear h_len_T1
  have H_startE_T2_01 := Lib.hid h_startE_T2_01
  clear h_startE_T2_01
  have H_startL_T2_01 := Lib.hid h_startL_T2_01
  clear h_startL_T2_01
  have H_len_T2 := Lib.hid h_len_T2
  clear h_len_T2
  have H_exitE_T2_0 := Lib.hid h_exitE_T2_0
  clear h_exitE_T2_0
  have H_exitL_T2_0 := Lib.hid h_exitL_T2_0
  clear h_exitL_T2_0
  have H_exitE_T3_0 := Lib.hid h_exitE_T3_0
  clear h_exitE_T3_0
  have H_exitL_T3_0 := Lib.hid h_exitL_T3_0
  clear h_exitL_T3_0
  have H_len_T3 := Lib.hid h_len_T3
  clear h_len_T3
  have H_rightTT0 := Lib.hid h_rightTT0
  clear h_rightTT0
  have H_q_eql_ycur_11645Lab := Lib.hid h_q_eql_ycur_11645Lab
  clear h_q_eql_ycur_11645Lab
  have H_aliveTT31 := Lib.hid h_aliveTT31
  clear h_aliveTT31
  have H_aliveTT30 := Lib.hid h_aliveTT30
  clear h_aliveTT30
  have e_q_eql_ycur_11645Lab : ∀ W, (binOp .eql 25 (.agg #[.int .i64 y.cur.lv, .int .u64 (u y.cur.c), .int .i64 y.cur.ig]) (.agg #[.int .i64 1, .int .u64 1, .int .i64 5])).run Tryd.prog W = .ok (.bool true) W := fun W => by
    have h := eqlIs H_q_eql_ycur_11645Lab.out W
    dsimp only at h
    rw [show u 1#64 = 1 by decide +kernel] at h
    exact h
  have lt_T2_0 : (1 : Int) < (T2.length : Int) := by have := (List.getElem?_eq_some_iff.1 H_y.out).1; omega
  have HB := Lib.hid (Below.refl w.heap.size w)
  go_enter Tryd.func10, Tryd.ntmps10
  go_upto_region 2 with fail
  go_cut [2] (fun s2 wx => ∃ g3 : Nat, s2 = .slice (some ⟨g3, 0, none⟩) 2 2 ∧ Blk wx (g3) 41 #[.int .i64 (-1), .int .i64 1, .int .i64 botL.lv, .int .u64 (u botL.c), .int .i64 botL.ig, .int .i64 topL.lv, .int .u64 (u topL.c), .int .i64 topL.ig, .int .i64 0, .int .i64 0, .int .i64 0, .int .u64 0, .int .i64 0, .int .i64 1, .int .u64 1, .int .i64 5] ∧ Blk wx (w.heap.size) 25 #[.int .i64 1, .int .u64 1, .int .i64 5] ∧ Below w.heap.size w wx ∧ w.heap.size ≠ g3 ∧ w.heap.size ≤ g3)
  case first =>
    refine wp_region_gen (S := (fun W' => Blk W' (w.heap.size) 25 #[.int .i64 1, .int .u64 1, .int .i64 5] ∧ Below w.heap.size w W')) (by kernel_rfl) ⟨(by repeat (first | exact Blk.new' (by simp; done) | exact Blk.new' rfl | refine Blk.drew ?_ | refine Blk.alloc ?_ _)), (by repeat (first | exact HB.out | refine below_alloc ?_ _ | refine Below.drew ?_ | refine below_set ?_ (by omega) _))⟩ (fun w1 hS => ?_)
    refine wpAnyH_take (i := 3) (v := ?_) (op_at rfl) (by kernel_rfl) (by kernel_rfl) (by kernel_rfl) (fun _ _ _ h => h) (Or.inl ⟨by rfl, ?_⟩) hS ?_; rotate_left; focus ((intro w' hSw; obtain ⟨q, -⟩ := hSw; have c0 := q.at_ (i := 0) (v := .int .i64 1) rfl; have c1 := q.at_ (i := 1) (v := .int .u64 1) rfl; have c2 := q.at_ (i := 2) (v := .int .i64 5) rfl; clear q; go_simp) <;> with_reducible rfl)
    try simp only [Act.put, List.setIfInBounds_toArray, List.set_cons_zero, List.set_cons_succ]
    refine wpAnyH_take (i := 4) (v := ?_) (op_at rfl) (by kernel_rfl) (by kernel_rfl) (by kernel_rfl) (fun _ _ _ h => h) (Or.inl ⟨by rfl, ?_⟩) hS ?_; rotate_left; focus ((intro w' hSw; clear hSw; go_simp) <;> with_reducible rfl)
    try simp only [Act.put, List.setIfInBounds_toArray, List.set_cons_zero, List.set_cons_succ]
    refine wpAnyH_ready (rs := [0]) (by kernel_rfl) (by simp) ?_
    refine (AllReadyH.cons (op_at rfl) (fun K hK => ?_) AllReadyH.nil)
    go_simp
    obtain ⟨b0, hb⟩ := hS
    refine (Bottom_any _).mono ?_
    rintro e w2 ⟨rfl, hB⟩
    refine hK.out _ _ ⟨b0.after hB, below_call hb hB⟩ (fun hS => ?_)
    clear hK K hB b0 hb
    try simp only [Act.put, List.setIfInBounds_toArray, List.set_cons_zero, List.set_cons_succ]
    refine wpAnyH_ready (rs := [1]) (by kernel_rfl) (by simp) ?_
    refine (AllReadyH.cons (op_at rfl) (fun K hK => ?_) AllReadyH.nil)
    go_simp
    obtain ⟨b0, hb⟩ := hS
    refine (Top16 _).mono ?_
    rintro e w3 ⟨rfl, hB⟩
    refine hK.out _ _ ⟨b0.after hB, below_call hb hB⟩ (fun hS => ?_)
    clear hK K hB b0 hb
    try simp only [Act.put, List.setIfInBounds_toArray, List.set_cons_zero, List.set_cons_succ]
    refine wpAnyH_take (i := 2) (v := ?_) (op_at rfl) (by kernel_rfl) (by kernel_rfl) (by kernel_rfl) (fun _ _ _ h => h) (Or.inl ⟨by rfl, ?_⟩) hS ?_; rotate_left; focus ((intro w' hSw; clear hSw; go_simp) <;> with_reducible rfl)
    try simp only [Act.put, List.setIfInBounds_toArray, List.set_cons_zero, List.set_cons_succ]
    refine wpAnyH_ready (rs := [5]) (by kernel_rfl) (by simp) ?_
    refine (AllReadyH.cons (op_at rfl) (fun K hK => ?_) AllReadyH.nil)
    go_simp
    obtain ⟨b0, hb⟩ := hS
    have N0 : Hid (Blk (w3.alloc (.cells #[.int .i64 (-1), .int .i64 1, .int .i64 botL.lv, .int .u64 (u botL.c), .int .i64 botL.ig, .int .i64 topL.lv, .int .u64 (u topL.c), .int .i64 topL.ig, .int .i64 0, .int .i64 0, .int .i64 0, .int .u64 0, .int .i64 0, .int .i64 1, .int .u64 1, .int .i64 5] 41)) w3.heap.size 41 #[.int .i64 (-1), .int .i64 1, .int .i64 botL.lv, .int .u64 (u botL.c), .int .i64 botL.ig, .int .i64 topL.lv, .int .u64 (u topL.c), .int .i64 topL.ig, .int .i64 0, .int .i64 0, .int .i64 0, .int .u64 0, .int .i64 0, .int .i64 1, .int .u64 1, .int .i64 5]) := Lib.hid (Blk.new' rfl)
    have d0_N0 : w.heap.size ≠ w3.heap.size := Nat.ne_of_lt b0.lt
    have dd_N0 : w.heap.size ≤ w3.heap.size := hb.size
    refine hK.out _ _ ⟨b0.alloc _, below_alloc hb _⟩ (fun hS => ?_)
    clear hK K b0 hb
    try simp only [Act.put, List.setIfInBounds_toArray, List.set_cons_zero, List.set_cons_succ]
    refine wpAnyH_take (i := 6) (v := ?_) (op_at rfl) (by kernel_rfl) (by kernel_rfl) (by kernel_rfl) (fun _ _ _ h => h) (Or.inl ⟨by rfl, ?_⟩) hS ?_; rotate_left; focus ((intro w' hSw; clear hSw; go_simp) <;> with_reducible rfl)
    try simp only [Act.put, List.setIfInBounds_toArray, List.set_cons_zero, List.set_cons_succ]
    refine wpAnyH_done (by kernel_rfl) ?_ _
    obtain ⟨b0, hb⟩ := hS
    go_wp2_with fail
    go_meet
    exact ⟨_, rfl, N0.out, b0, hb, d0_N0, dd_N0⟩
  case rest =>
    obtain ⟨g3, rfl, hn, h_0, hb, e0_g3, ee_g3⟩ := hcut
    replace B0 := Lib.hid h_0
    clear h_0
    have B1 := Lib.hid hn
    clear hn
    replace HB := Lib.hid hb
    clear hb
    have p0_0 := B0.out.at_ (i := 0) (v := .int .i64 1) rfl
    have p0_1 := B0.out.at_ (i := 1) (v := .int .u64 1) rfl
    have p0_2 := B0.out.at_ (i := 2) (v := .int .i64 5) rfl
    have k0_0 : w.heap.size < wc.heap.size := by have := B0.out.lt; omega
    go_wp2_with fail
    refine (sfloatIs H_sfloatE_T0_011645Lab.out H_sfloatL_T0_011645Lab.out H_len_T0.out (HH.out.up (by repeat (first | exact HB.out | refine below_alloc ?_ _ | refine Below.drew ?_ | refine below_set ?_ (by omega) _))) (tabW H_T0.out (by repeat (first | exact B1.out | exact Blk.new' (by simp; done) | exact Blk.new' rfl | refine Blk.drew ?_ | refine Blk.alloc ?_ _)))).mono ?_
    rintro e w4 ⟨A1, c1, rfl, hR1, hB⟩
    replace HB := Lib.hid (below_call (w := w) (by repeat (first | exact HB.out | refine below_alloc ?_ _ | refine Below.drew ?_ | refine below_set ?_ (by omega) _)) hB)
    have z4 : w.heap.size ≤ w4.heap.size := HB.out.size
    replace B0 : Hid (Blk w4 (w.heap.size) 25 #[.int .i64 1, .int .u64 1, .int .i64 5]) := Lib.hid (Blk.after (by repeat (first | exact B0.out | exact Blk.new' (by simp; done) | exact Blk.new' rfl | refine Blk.drew ?_ | refine Blk.alloc ?_ _)) hB)
    replace B1 : Hid (Blk w4 (g3) 41 #[.int .i64 (-1), .int .i64 1, .int .i64 botL.lv, .int .u64 (u botL.c), .int .i64 botL.ig, .int .i64 topL.lv, .int .u64 (u topL.c), .int .i64 topL.ig, .int .i64 0, .int .i64 0, .int .i64 0, .int .u64 0, .int .i64 0, .int .i64 1, .int .u64 1, .int .i64 5]) := Lib.hid (Blk.after (by repeat (first | exact B1.out | exact Blk.new' (by simp; done) | exact Blk.new' rfl | refine Blk.drew ?_ | refine Blk.alloc ?_ _)) hB)
    clear p0_0 p0_1 p0_2 k0_0
    clear hB
    have B2 := Lib.hid (show SubsW w4 (.slice A1 T1.length c1) T1 from hR1)
    clear hR1
    go_wp2_with fail
    refine (startIs H_startE_T1_01.out H_startL_T1_01.out H_len_T1.out (HH.out.up (by repeat (first | exact HB.out | refine below_alloc ?_ _ | refine Below.drew ?_ | refine below_set ?_ (by omega) _))).h (by repeat (first | exact B2.out | refine SubsW.drew ?_ | refine SubsW.alloc ?_ _))).mono ?_
    rintro e w5 ⟨A2, c2, rfl, hR2, hB⟩
    replace HB := Lib.hid (below_call (w := w) (by repeat (first | exact HB.out | refine below_alloc ?_ _ | refine Below.drew ?_ | refine below_set ?_ (by omega) _)) hB)
    have z5 : w.heap.size ≤ w5.heap.size := HB.out.size
    replace B0 : Hid (Blk w5 (w.heap.size) 25 #[.int .i64 1, .int .u64 1, .int .i64 5]) := Lib.hid (Blk.after (by repeat (first | exact B0.out | exact Blk.new' (by simp; done) | exact Blk.new' rfl | refine Blk.drew ?_ | refine Blk.alloc ?_ _)) hB)
    replace B1 : Hid (Blk w5 (g3) 41 #[.int .i64 (-1), .int .i64 1, .int .i64 botL.lv, .int .u64 (u botL.c), .int .i64 botL.ig, .int .i64 topL.lv, .int .u64 (u topL.c), .int .i64 topL.ig, .int .i64 0, .int .i64 0, .int .i64 0, .int .u64 0, .int .i64 0, .int .i64 1, .int .u64 1, .int .i64 5]) := Lib.hid (Blk.after (by repeat (first | exact B1.out | exact Blk.new' (by simp; done) | exact Blk.new' rfl | refine Blk.drew ?_ | refine Blk.alloc ?_ _)) hB)
    clear hB
    obtain ⟨bT2, oT2, hA, _, he⟩ := RowsAt.el hR2 H_y.out (Nat.le_refl _)
    subst hA
    have B3 := Lib.hid (show Els w5 (bT2) (oT2 + 8) #[.int .i64 y.par, .int .i64 y.st, .int .i64 y.cur.lv, .int .u64 (u y.cur.c), .int .i64 y.cur.ig, .int .i64 y.high.lv, .int .u64 (u y.high.c), .int .i64 y.high.ig] from he)
    clear he
    have B4 := Lib.hid (show SubsW w5 (.slice (some ⟨bT2, oT2, none⟩) T2.length c2) T2 from hR2)
    clear hR2
    go_wp2_with fail
    refine (startIs H_startE_T2_01.out H_startL_T2_01.out H_len_T2.out (HH.out.up (by repeat (first | exact HB.out | refine below_alloc ?_ _ | refine Below.drew ?_ | refine below_set ?_ (by omega) _))).h (by repeat (first | exact B4.out | refine SubsW.drew ?_ | refine SubsW.alloc ?_ _))).mono ?_
    rintro e w6 ⟨A3, c3, rfl, hR3, hB⟩
    replace HB := Lib.hid (below_call (w := w) (by repeat (first | exact HB.out | refine below_alloc ?_ _ | refine Below.drew ?_ | refine below_set ?_ (by omega) _)) hB)
    have z6 : w.heap.size ≤ w6.heap.size := HB.out.size
    replace B0 : Hid (Blk w6 (w.heap.size) 25 #[.int .i64 1, .int .u64 1, .int .i64 5]) := Lib.hid (Blk.after (by repeat (first | exact B0.out | exact Blk.new' (by simp; done) | exact Blk.new' rfl | refine Blk.drew ?_ | refine Blk.alloc ?_ _)) hB)
    replace B1 : Hid (Blk w6 (g3) 41 #[.int .i64 (-1), .int .i64 1, .int .i64 botL.lv, .int .u64 (u botL.c), .int .i64 botL.ig, .int .i64 topL.lv, .int .u64 (u topL.c), .int .i64 topL.ig, .int .i64 0, .int .i64 0, .int .i64 0, .int .u64 0, .int .i64 0, .int .i64 1, .int .u64 1, .int .i64 5]) := Lib.hid (Blk.after (by repeat (first | exact B1.out | exact Blk.new' (by simp; done) | exact Blk.new' rfl | refine Blk.drew ?_ | refine Blk.alloc ?_ _)) hB)
    replace B3 : Hid (Els w6 (bT2) (oT2 + 8) #[.int .i64 y.par, .int .i64 y.st, .int .i64 y.cur.lv, .int .u64 (u y.cur.c), .int .i64 y.cur.ig, .int .i64 y.high.lv, .int .u64 (u y.high.c), .int .i64 y.high.ig]) := Lib.hid (Els.after (by repeat (first | exact B3.out | refine Els.drew ?_ | refine Els.alloc ?_ _)) hB)
    replace B4 : Hid (SubsW w6 (.slice (some ⟨bT2, oT2, none⟩) T2.length c2) T2) := Lib.hid (SubsW.after (by repeat (first | exact B4.out | refine SubsW.drew ?_ | refine SubsW.alloc ?_ _)) hB)
    clear hB
    have B5 := Lib.hid (show SubsW w6 (.slice A3 M4.length c3) M4 from hR3)
    clear hR3
    go_wp2_with fail
    refine (exitIs H_exitE_T2_0.out H_exitL_T2_0.out H_len_T2.out (HH.out.up (by repeat (first | exact HB.out | refine below_alloc ?_ _ | refine Below.drew ?_ | refine below_set ?_ (by omega) _))).h (by repeat (first | exact B4.out | refine SubsW.drew ?_ | refine SubsW.alloc ?_ _))).mono ?_
    rintro e w7 ⟨A4, c4, rfl, hR4, hB⟩
    replace HB := Lib.hid (below_call (w := w) (by repeat (first | exact HB.out | refine below_alloc ?_ _ | refine Below.drew ?_ | refine below_set ?_ (by omega) _)) hB)
    have z7 : w.heap.size ≤ w7.heap.size := HB.out.size
    replace B0 : Hid (Blk w7 (w.heap.size) 25 #[.int .i64 1, .int .u64 1, .int .i64 5]) := Lib.hid (Blk.after (by repeat (first | exact B0.out | exact Blk.new' (by simp; done) | exact Blk.new' rfl | refine Blk.drew ?_ | refine Blk.alloc ?_ _)) hB)
    replace B1 : Hid (Blk w7 (g3) 41 #[.int .i64 (-1), .int .i64 1, .int .i64 botL.lv, .int .u64 (u botL.c), .int .i64 botL.ig, .int .i64 topL.lv, .int .u64 (u topL.c), .int .i64 topL.ig, .int .i64 0, .int .i64 0, .int .i64 0, .int .u64 0, .int .i64 0, .int .i64 1, .int .u64 1, .int .i64 5]) := Lib.hid (Blk.after (by repeat (first | exact B1.out | exact Blk.new' (by simp; done) | exact Blk.new' rfl | refine Blk.drew ?_ | refine Blk.alloc ?_ _)) hB)
    replace B3 : Hid (Els w7 (bT2) (oT2 + 8) #[.int .i64 y.par, .int .i64 y.st, .int .i64 y.cur.lv, .int .u64 (u y.cur.c), .int .i64 y.cur.ig, .int .i64 y.high.lv, .int .u64 (u y.high.c), .int .i64 y.high.ig]) := Lib.hid (Els.after (by repeat (first | exact B3.out | refine Els.drew ?_ | refine Els.alloc ?_ _)) hB)
    clear hB
    have B6 := Lib.hid (show SubsW w7 (.slice A4 T3.length c4) T3 from hR4)
    clear hR4
    go_wp2_with fail
    refine (exitIs H_exitE_T3_0.out H_exitL_T3_0.out H_len_T3.out (HH.out.up (by repeat (first | exact HB.out | refine below_alloc ?_ _ | refine Below.drew ?_ | refine below_set ?_ (by omega) _))).h (by repeat (first | exact B6.out | refine SubsW.drew ?_ | refine SubsW.alloc ?_ _))).mono ?_
    rintro e w8 ⟨A5, c5, rfl, hR5, hB⟩
    replace HB := Lib.hid (below_call (w := w) (by repeat (first | exact HB.out | refine below_alloc ?_ _ | refine Below.drew ?_ | refine below_set ?_ (by omega) _)) hB)
    have z8 : w.heap.size ≤ w8.heap.size := HB.out.size
    replace B0 : Hid (Blk w8 (w.heap.size) 25 #[.int .i64 1, .int .u64 1, .int .i64 5]) := Lib.hid (Blk.after (by repeat (first | exact B0.out | exact Blk.new' (by simp; done) | exact Blk.new' rfl | refine Blk.drew ?_ | refine Blk.alloc ?_ _)) hB)
    replace B1 : Hid (Blk w8 (g3) 41 #[.int .i64 (-1), .int .i64 1, .int .i64 botL.lv, .int .u64 (u botL.c), .int .i64 botL.ig, .int .i64 topL.lv, .int .u64 (u topL.c), .int .i64 topL.ig, .int .i64 0, .int .i64 0, .int .i64 0, .int .u64 0, .int .i64 0, .int .i64 1, .int .u64 1, .int .i64 5]) := Lib.hid (Blk.after (by repeat (first | exact B1.out | exact Blk.new' (by simp; done) | exact Blk.new' rfl | refine Blk.drew ?_ | refine Blk.alloc ?_ _)) hB)
    replace B3 : Hid (Els w8 (bT2) (oT2 + 8) #[.int .i64 y.par, .int .i64 y.st, .int .i64 y.cur.lv, .int .u64 (u y.cur.c), .int .i64 y.cur.ig, .int .i64 y.high.lv, .int .u64 (u y.high.c), .int .i64 y.high.ig]) := Lib.hid (Els.after (by repeat (first | exact B3.out | refine Els.drew ?_ | refine Els.alloc ?_ _)) hB)
    replace B6 : Hid (SubsW w8 (.slice A4 T3.length c4) T3) := Lib.hid (SubsW.after (by repeat (first | exact B6.out | refine SubsW.drew ?_ | refine SubsW.alloc ?_ _)) hB)
    clear hB
    have B7 := Lib.hid (show SubsW w8 (.slice A5 M5.length c5) M5 from hR5)
    clear hR5
    go_wp2_with fail
    refine wp_region_gen (S := (fun W' => Blk W' (w.heap.size) 25 #[.int .i64 1, .int .u64 1, .int .i64 5] ∧ Blk W' (g3) 41 #[.int .i64 (-1), .int .i64 1, .int .i64 botL.lv, .int .u64 (u botL.c), .int .i64 botL.ig, .int .i64 topL.lv, .int .u64 (u topL.c), .int .i64 topL.ig, .int .i64 0, .int .i64 0, .int .i64 0, .int .u64 0, .int .i64 0, .int .i64 1, .int .u64 1, .int .i64 5] ∧ Els W' (bT2) (oT2 + 8) #[.int .i64 y.par, .int .i64 y.st, .int .i64 y.cur.lv, .int .u64 (u y.cur.c), .int .i64 y.cur.ig, .int .i64 y.high.lv, .int .u64 (u y.high.c), .int .i64 y.high.ig] ∧ SubsW W' (.slice A4 T3.length c4) T3 ∧ Below w.heap.size w W')) (by kernel_rfl) ⟨(by repeat (first | exact B0.out | exact Blk.new' (by simp; done) | exact Blk.new' rfl | refine Blk.drew ?_ | refine Blk.alloc ?_ _)), (by repeat (first | exact B1.out | exact Blk.new' (by simp; done) | exact Blk.new' rfl | refine Blk.drew ?_ | refine Blk.alloc ?_ _)), (by repeat (first | exact B3.out | refine Els.drew ?_ | refine Els.alloc ?_ _)), (by repeat (first | exact B6.out | refine SubsW.drew ?_ | refine SubsW.alloc ?_ _)), (by repeat (first | exact HB.out | refine below_alloc ?_ _ | refine Below.drew ?_ | refine below_set ?_ (by omega) _))⟩ (fun w9 hS => ?_)
    refine wpAnyH_take (i := 0) (v := ?_) (op_at rfl) (by kernel_rfl) (by kernel_rfl) (by kernel_rfl) (fun _ _ _ h => h) (Or.inl ⟨by rfl, ?_⟩) hS ?_; rotate_left; focus ((intro w' hSw; clear hSw; go_simp) <;> with_reducible rfl)
    try simp only [Act.put, List.setIfInBounds_toArray, List.set_cons_zero, List.set_cons_succ]
    refine wpAnyH_ready (rs := [1]) (by kernel_rfl) (by simp) ?_
    refine (AllReadyH.cons (op_at rfl) (fun K hK => ?_) AllReadyH.nil)
    go_simp
    obtain ⟨b0, b1, b2, b3, hb⟩ := hS
    refine (rightSIs H_rightTT0.out (tabW H_T0.out b1)).mono ?_
    rintro e w10 ⟨rfl, hB⟩
    refine hK.out _ _ ⟨b0.after hB, b1.after hB, b2.after hB, b3.after hB, below_call hb hB⟩ (fun hS => ?_)
    clear hK K hB b0 b1 b2 b3 hb
    try simp only [Act.put, List.setIfInBounds_toArray, List.set_cons_zero, List.set_cons_succ]
    refine wpAnyH_take (i := 2) (v := ?_) (op_at rfl) (by kernel_rfl) (by kernel_rfl) (by kernel_rfl) (fun _ _ _ h => h) (Or.inl ⟨by rfl, ?_⟩) hS ?_; rotate_left; focus ((intro w' hSw; clear hSw; go_simp) <;> with_reducible rfl)
    try simp only [Act.put, List.setIfInBounds_toArray, List.set_cons_zero, List.set_cons_succ]
    refine wpAnyH_take (i := 3) (v := ?_) (op_at rfl) (by kernel_rfl) (by kernel_rfl) (by kernel_rfl) (fun _ _ _ h => h) (Or.inl ⟨by rfl, ?_⟩) hS ?_; rotate_left; focus ((intro w' hSw; clear hSw; go_simp) <;> with_reducible rfl)
    try simp only [Act.put, List.setIfInBounds_toArray, List.set_cons_zero, List.set_cons_succ]
    refine wpAnyH_take (i := 4) (v := ?_) (op_at rfl) (by kernel_rfl) (by kernel_rfl) (by kernel_rfl) (fun _ _ _ h => h) (Or.inl ⟨by rfl, ?_⟩) hS ?_; rotate_left; focus ((intro w' hSw; clear hSw; go_simp) <;> with_reducible rfl)
    try simp only [Act.put, List.setIfInBounds_toArray, List.set_cons_zero, List.set_cons_succ]
    refine wpAnyH_take (i := 5) (v := ?_) (op_at rfl) (by kernel_rfl) (by kernel_rfl) (by kernel_rfl) (fun _ _ _ h => h) (Or.inl ⟨by rfl, ?_⟩) hS ?_; rotate_left; focus ((intro w' hSw; clear hSw; go_simp) <;> with_reducible rfl)
    try simp only [Act.put, List.setIfInBounds_toArray, List.set_cons_zero, List.set_cons_succ]
    refine wpAnyH_take (i := 6) (v := ?_) (op_at rfl) (by kernel_rfl) (by kernel_rfl) (by kernel_rfl) (fun _ _ _ h => h) (Or.inl ⟨by rfl, ?_⟩) hS ?_; rotate_left; focus ((intro w' hSw; clear hSw; go_simp) <;> with_reducible rfl)
    try simp only [Act.put, List.setIfInBounds_toArray, List.set_cons_zero, List.set_cons_succ]
    refine wpAnyH_take (i := 7) (v := ?_) (op_at rfl) (by kernel_rfl) (by kernel_rfl) (by kernel_rfl) (fun _ _ _ h => h) (Or.inl ⟨by rfl, ?_⟩) hS ?_; rotate_left; focus ((intro w' hSw; clear hSw; go_simp) <;> with_reducible rfl)
    try simp only [Act.put, List.setIfInBounds_toArray, List.set_cons_zero, List.set_cons_succ]
    refine wpAnyH_take (i := 8) (v := ?_) (op_at rfl) (by kernel_rfl) (by kernel_rfl) (by kernel_rfl) (fun _ _ _ h => h) (Or.inl ⟨by rfl, ?_⟩) hS ?_; rotate_left; focus ((intro w' hSw; clear hSw; go_simp) <;> with_reducible rfl)
    try simp only [Act.put, List.setIfInBounds_toArray, List.set_cons_zero, List.set_cons_succ]
    refine wpAnyH_take (i := 9) (v := ?_) (op_at rfl) (by kernel_rfl) (by kernel_rfl) (by kernel_rfl) (fun _ _ _ h => h) (Or.inl ⟨by rfl, ?_⟩) hS ?_; rotate_left; focus ((intro w' hSw; clear hSw; go_simp) <;> with_reducible rfl)
    try simp only [Act.put, List.setIfInBounds_toArray, List.set_cons_zero, List.set_cons_succ]
    refine wpAnyH_take (i := 10) (v := ?_) (op_at rfl) (by kernel_rfl) (by kernel_rfl) (by kernel_rfl) (fun _ _ _ h => h) (Or.inl ⟨by rfl, ?_⟩) hS ?_; rotate_left; focus ((intro w' hSw; clear hSw; go_simp) <;> with_reducible rfl)
    try simp only [Act.put, List.setIfInBounds_toArray, List.set_cons_zero, List.set_cons_succ]
    refine wpAnyH_take (i := 11) (v := ?_) (op_at rfl) (by kernel_rfl) (by kernel_rfl) (by kernel_rfl) (fun _ _ _ h => h) (Or.inl ⟨by rfl, ?_⟩) hS ?_; rotate_left; focus ((intro w' hSw; clear hSw; go_simp) <;> with_reducible rfl)
    try simp only [Act.put, List.setIfInBounds_toArray, List.set_cons_zero, List.set_cons_succ]
    refine wpAnyH_take (i := 12) (v := ?_) (op_at rfl) (by kernel_rfl) (by kernel_rfl) (by kernel_rfl) (fun _ _ _ h => h) (Or.inl ⟨by rfl, ?_⟩) hS ?_; rotate_left; focus ((intro w' hSw; clear hSw; go_simp) <;> with_reducible rfl)
    try simp only [Act.put, List.setIfInBounds_toArray, List.set_cons_zero, List.set_cons_succ]
    refine wpAnyH_take (i := 13) (v := ?_) (op_at rfl) (by kernel_rfl) (by kernel_rfl) (by kernel_rfl) (fun _ _ _ h => h) (Or.inl ⟨by rfl, ?_⟩) hS ?_; rotate_left; focus ((intro w' hSw; clear hSw; go_simp) <;> with_reducible rfl)
    try simp only [Act.put, List.setIfInBounds_toArray, List.set_cons_zero, List.set_cons_succ]
    refine wpAnyH_take (i := 14) (v := ?_) (op_at rfl) (by kernel_rfl) (by kernel_rfl) (by kernel_rfl) (fun _ _ _ h => h) (Or.inl ⟨by rfl, ?_⟩) hS ?_; rotate_left; focus ((intro w' hSw; clear hSw; go_simp) <;> with_reducible rfl)
    try simp only [Act.put, List.setIfInBounds_toArray, List.set_cons_zero, List.set_cons_succ]
    refine wpAnyH_take (i := 15) (v := ?_) (op_at rfl) (by kernel_rfl) (by kernel_rfl) (by kernel_rfl) (fun _ _ _ h => h) (Or.inl ⟨by rfl, ?_⟩) hS ?_; rotate_left; focus ((intro w' hSw; clear hSw; go_simp) <;> with_reducible rfl)
    try simp only [Act.put, List.setIfInBounds_toArray, List.set_cons_zero, List.set_cons_succ]
    refine wpAnyH_take (i := 16) (v := ?_) (op_at rfl) (by kernel_rfl) (by kernel_rfl) (by kernel_rfl) (fun _ _ _ h => h) (Or.inl ⟨by rfl, ?_⟩) hS ?_; rotate_left; focus ((intro w' hSw; clear hSw; go_simp) <;> with_reducible rfl)
    try simp only [Act.put, List.setIfInBounds_toArray, List.set_cons_zero, List.set_cons_succ]
    refine wpAnyH_take (i := 17) (v := ?_) (op_at rfl) (by kernel_rfl) (by kernel_rfl) (by kernel_rfl) (fun _ _ _ h => h) (Or.inl ⟨by rfl, ?_⟩) hS ?_; rotate_left; focus ((intro w' hSw; clear hSw; go_simp) <;> with_reducible rfl)
    try simp only [Act.put, List.setIfInBounds_toArray, List.set_cons_zero, List.set_cons_succ]
    refine wpAnyH_take (i := 18) (v := ?_) (op_at rfl) (by kernel_rfl) (by kernel_rfl) (by kernel_rfl) (fun _ _ _ h => h) (Or.inl ⟨by rfl, ?_⟩) hS ?_; rotate_left; focus ((intro w' hSw; clear hSw; go_simp) <;> with_reducible rfl)
    try simp only [Act.put, List.setIfInBounds_toArray, List.set_cons_zero, List.set_cons_succ]
    refine wpAnyH_take (i := 19) (v := ?_) (op_at rfl) (by kernel_rfl) (by kernel_rfl) (by kernel_rfl) (fun _ _ _ h => h) (Or.inl ⟨by rfl, ?_⟩) hS ?_; rotate_left; focus ((intro w' hSw; clear hSw; go_simp) <;> with_reducible rfl)
    try simp only [Act.put, List.setIfInBounds_toArray, List.set_cons_zero, List.set_cons_succ]
    refine wpAnyH_take (i := 20) (v := ?_) (op_at rfl) (by kernel_rfl) (by kernel_rfl) (by kernel_rfl) (fun _ _ _ h => h) (Or.inl ⟨by rfl, ?_⟩) hS ?_; rotate_left; focus ((intro w' hSw; clear hSw; go_simp) <;> with_reducible rfl)
    try simp only [Act.put, List.setIfInBounds_toArray, List.set_cons_zero, List.set_cons_succ]
    refine wpAnyH_take (i := 21) (v := ?_) (op_at rfl) (by kernel_rfl) (by kernel_rfl) (by kernel_rfl) (fun _ _ _ h => h) (Or.inl ⟨by rfl, ?_⟩) hS ?_; rotate_left; focus ((intro w' hSw; clear hSw; go_simp) <;> with_reducible rfl)
    try simp only [Act.put, List.setIfInBounds_toArray, List.set_cons_zero, List.set_cons_succ]
    refine wpAnyH_take (i := 22) (v := ?_) (op_at rfl) (by kernel_rfl) (by kernel_rfl) (by kernel_rfl) (fun _ _ _ h => h) (Or.inl ⟨by rfl, ?_⟩) hS ?_; rotate_left; focus ((intro w' hSw; clear hSw; go_simp) <;> with_reducible rfl)
    try simp only [Act.put, List.setIfInBounds_toArray, List.set_cons_zero, List.set_cons_succ]
    refine wpAnyH_take (i := 23) (v := ?_) (op_at rfl) (by kernel_rfl) (by kernel_rfl) (by kernel_rfl) (fun _ _ _ h => h) (Or.inl ⟨by rfl, ?_⟩) hS ?_; rotate_left; focus ((intro w' hSw; clear hSw; go_simp) <;> with_reducible rfl)
    try simp only [Act.put, List.setIfInBounds_toArray, List.set_cons_zero, List.set_cons_succ]
    refine wpAnyH_take (i := 24) (v := ?_) (op_at rfl) (by kernel_rfl) (by kernel_rfl) (by kernel_rfl) (fun _ _ _ h => h) (Or.inl ⟨by rfl, ?_⟩) hS ?_; rotate_left; focus ((intro w' hSw; clear hSw; go_simp) <;> with_reducible rfl)
    try simp only [Act.put, List.setIfInBounds_toArray, List.set_cons_zero, List.set_cons_succ]
    refine wpAnyH_take (i := 25) (v := ?_) (op_at rfl) (by kernel_rfl) (by kernel_rfl) (by kernel_rfl) (fun _ _ _ h => h) (Or.inl ⟨by rfl, ?_⟩) hS ?_; rotate_left; focus ((intro w' hSw; clear hSw; go_simp) <;> with_reducible rfl)
    try simp only [Act.put, List.setIfInBounds_toArray, List.set_cons_zero, List.set_cons_succ]
    refine wpAnyH_take (i := 26) (v := ?_) (op_at rfl) (by kernel_rfl) (by kernel_rfl) (by kernel_rfl) (fun _ _ _ h => h) (Or.inl ⟨by rfl, ?_⟩) hS ?_; rotate_left; focus ((intro w' hSw; clear hSw; go_simp) <;> with_reducible rfl)
    try simp only [Act.put, List.setIfInBounds_toArray, List.set_cons_zero, List.set_cons_succ]
    refine wpAnyH_take (i := 27) (v := ?_) (op_at rfl) (by kernel_rfl) (by kernel_rfl) (by kernel_rfl) (fun _ _ _ h => h) (Or.inl ⟨by rfl, ?_⟩) hS ?_; rotate_left; focus ((intro w' hSw; clear hSw; go_simp) <;> with_reducible rfl)
    try simp only [Act.put, List.setIfInBounds_toArray, List.set_cons_zero, List.set_cons_succ]
    refine wpAnyH_take (i := 28) (v := ?_) (op_at rfl) (by kernel_rfl) (by kernel_rfl) (by kernel_rfl) (fun _ _ _ h => h) (Or.inl ⟨by rfl, ?_⟩) hS ?_; rotate_left; focus ((intro w' hSw; clear hSw; go_simp) <;> with_reducible rfl)
    try simp only [Act.put, List.setIfInBounds_toArray, List.set_cons_zero, List.set_cons_succ]
    refine wpAnyH_take (i := 29) (v := ?_) (op_at rfl) (by kernel_rfl) (by kernel_rfl) (by kernel_rfl) (fun _ _ _ h => h) (Or.inl ⟨by rfl, ?_⟩) hS ?_; rotate_left; focus ((intro w' hSw; clear hSw; go_simp) <;> with_reducible rfl)
    try simp only [Act.put, List.setIfInBounds_toArray, List.set_cons_zero, List.set_cons_succ]
    refine wpAnyH_take (i := 30) (v := ?_) (op_at rfl) (by kernel_rfl) (by kernel_rfl) (by kernel_rfl) (fun _ _ _ h => h) (Or.inl ⟨by rfl, ?_⟩) hS ?_; rotate_left; focus ((intro w' hSw; clear hSw; go_simp) <;> with_reducible rfl)
    try simp only [Act.put, List.setIfInBounds_toArray, List.set_cons_zero, List.set_cons_succ]
    refine wpAnyH_take (i := 31) (v := ?_) (op_at rfl) (by kernel_rfl) (by kernel_rfl) (by kernel_rfl) (fun _ _ _ h => h) (Or.inl ⟨by rfl, ?_⟩) hS ?_; rotate_left; focus ((intro w' hSw; obtain ⟨-, -, q, -⟩ := hSw; have c2 : w'.cell? ⟨bT2, oT2 + 10, none⟩ = some (.int .i64 y.cur.lv) := q.at_ (i := 2) (v := .int .i64 y.cur.lv) rfl; have c3 : w'.cell? ⟨bT2, oT2 + 11, none⟩ = some (.int .u64 (u y.cur.c)) := q.at_ (i := 3) (v := .int .u64 (u y.cur.c)) rfl; have c4 : w'.cell? ⟨bT2, oT2 + 12, none⟩ = some (.int .i64 y.cur.ig) := q.at_ (i := 4) (v := .int .i64 y.cur.ig) rfl; clear q; go_simp) <;> with_reducible rfl)
    try simp only [Act.put, List.setIfInBounds_toArray, List.set_cons_zero, List.set_cons_succ]
    refine wpAnyH_take (i := 32) (v := ?_) (op_at rfl) (by kernel_rfl) (by kernel_rfl) (by kernel_rfl) (fun _ _ _ h => h) (Or.inl ⟨by rfl, ?_⟩) hS ?_; rotate_left; focus ((intro w' hSw; obtain ⟨q, -⟩ := hSw; have c0 := q.at_ (i := 0) (v := .int .i64 1) rfl; have c1 := q.at_ (i := 1) (v := .int .u64 1) rfl; have c2 := q.at_ (i := 2) (v := .int .i64 5) rfl; clear q; go_simp) <;> with_reducible rfl)
    try simp only [Act.put, List.setIfInBounds_toArray, List.set_cons_zero, List.set_cons_succ]
    refine wpAnyH_take (i := 33) (v := ?_) (op_at rfl) (by kernel_rfl) (by kernel_rfl) (by kernel_rfl) (fun _ _ _ h => h) (Or.inl ⟨by rfl, ?_⟩) hS ?_; rotate_left; focus ((intro w' hSw; clear hSw; go_simp) <;> with_reducible rfl)
    try simp only [Act.put, List.setIfInBounds_toArray, List.set_cons_zero, List.set_cons_succ]
    refine wpAnyH_take (i := 34) (v := ?_) (op_at rfl) (by kernel_rfl) (by kernel_rfl) (by kernel_rfl) (fun _ _ _ h => h) (Or.inl ⟨by rfl, ?_⟩) hS ?_; rotate_left; focus ((intro w' hSw; clear hSw; go_simp) <;> with_reducible rfl)
    try simp only [Act.put, List.setIfInBounds_toArray, List.set_cons_zero, List.set_cons_succ]
    refine wpAnyH_take (i := 35) (v := ?_) (op_at rfl) (by kernel_rfl) (by kernel_rfl) (by kernel_rfl) (fun _ _ _ h => h) (Or.inl ⟨by rfl, ?_⟩) hS ?_; rotate_left; focus ((intro w' hSw; clear hSw; go_simp) <;> with_reducible rfl)
    try simp only [Act.put, List.setIfInBounds_toArray, List.set_cons_zero, List.set_cons_succ]
    refine wpAnyH_take (i := 36) (v := ?_) (op_at rfl) (by kernel_rfl) (by kernel_rfl) (by kernel_rfl) (fun _ _ _ h => h) (Or.inl ⟨by rfl, ?_⟩) hS ?_; rotate_left; focus ((intro w' hSw; clear hSw; go_simp) <;> with_reducible rfl)
    try simp only [Act.put, List.setIfInBounds_toArray, List.set_cons_zero, List.set_cons_succ]
    refine wpAnyH_ready (rs := [37]) (by kernel_rfl) (by simp) ?_
    refine (AllReadyH.cons (op_at rfl) (fun K hK => ?_) AllReadyH.nil)
    go_simp
    obtain ⟨b0, b1, b2, b3, hb⟩ := hS
    refine (aliveIs H_aliveTT31.out b3).mono ?_
    rintro e w11 ⟨rfl, hB⟩
    refine hK.out _ _ ⟨b0.after hB, b1.after hB, b2.after hB, b3.after hB, below_call hb hB⟩ (fun hS => ?_)
    clear hK K hB b0 b1 b2 b3 hb
    try simp only [Act.put, List.setIfInBounds_toArray, List.set_cons_zero, List.set_cons_succ]
    refine wpAnyH_take (i := 38) (v := ?_) (op_at rfl) (by kernel_rfl) (by kernel_rfl) (by kernel_rfl) (fun _ _ _ h => h) (Or.inl ⟨by rfl, ?_⟩) hS ?_; rotate_left; focus ((intro w' hSw; clear hSw; go_simp) <;> with_reducible rfl)
    try simp only [Act.put, List.setIfInBounds_toArray, List.set_cons_zero, List.set_cons_succ]
    refine wpAnyH_take (i := 39) (v := ?_) (op_at rfl) (by kernel_rfl) (by kernel_rfl) (by kernel_rfl) (fun _ _ _ h => h) (Or.inl ⟨by rfl, ?_⟩) hS ?_; rotate_left; focus ((intro w' hSw; clear hSw; go_simp) <;> with_reducible rfl)
    try simp only [Act.put, List.setIfInBounds_toArray, List.set_cons_zero, List.set_cons_succ]
    refine wpAnyH_take (i := 40) (v := ?_) (op_at rfl) (by kernel_rfl) (by kernel_rfl) (by kernel_rfl) (fun _ _ _ h => h) (Or.inl ⟨by rfl, ?_⟩) hS ?_; rotate_left; focus ((intro w' hSw; clear hSw; go_simp) <;> with_reducible rfl)
    try simp only [Act.put, List.setIfInBounds_toArray, List.set_cons_zero, List.set_cons_succ]
    refine wpAnyH_ready (rs := [41]) (by kernel_rfl) (by simp) ?_
    refine (AllReadyH.cons (op_at rfl) (fun K hK => ?_) AllReadyH.nil)
    go_simp
    obtain ⟨b0, b1, b2, b3, hb⟩ := hS
    refine (aliveIs H_aliveTT30.out b3).mono ?_
    rintro e w12 ⟨rfl, hB⟩
    refine hK.out _ _ ⟨b0.after hB, b1.after hB, b2.after hB, b3.after hB, below_call hb hB⟩ (fun hS => ?_)
    clear hK K hB b0 b1 b2 b3 hb
    try simp only [Act.put, List.setIfInBounds_toArray, List.set_cons_zero, List.set_cons_succ]
    refine wpAnyH_take (i := 42) (v := ?_) (op_at rfl) (by kernel_rfl) (by kernel_rfl) (by kernel_rfl) (fun _ _ _ h => h) (Or.inl ⟨by rfl, ?_⟩) hS ?_; rotate_left; focus ((intro w' hSw; clear hSw; go_simp) <;> with_reducible rfl)
    try simp only [Act.put, List.setIfInBounds_toArray, List.set_cons_zero, List.set_cons_succ]
    refine wpAnyH_take (i := 43) (v := ?_) (op_at rfl) (by kernel_rfl) (by kernel_rfl) (by kernel_rfl) (fun _ _ _ h => h) (Or.inl ⟨by rfl, ?_⟩) hS ?_; rotate_left; focus ((intro w' hSw; clear hSw; go_simp) <;> with_reducible rfl)
    try simp only [Act.put, List.setIfInBounds_toArray, List.set_cons_zero, List.set_cons_succ]
    refine wpAnyH_take (i := 44) (v := ?_) (op_at rfl) (by kernel_rfl) (by kernel_rfl) (by kernel_rfl) (fun _ _ _ h => h) (Or.inl ⟨by rfl, ?_⟩) hS ?_; rotate_left; focus ((intro w' hSw; clear hSw; go_simp) <;> with_reducible rfl)
    try simp only [Act.put, List.setIfInBounds_toArray, List.set_cons_zero]
    refine wpAnyH_done (by kernel_rfl) ?_ _
    obtain ⟨b0, b1, b2, b3, hb⟩ := hS
    replace B0 := Lib.hid b0
    clear b0
    replace B1 := Lib.hid b1
    clear b1
    replace B3 := Lib.hid b2
    clear b2
    replace B6 := Lib.hid b3
    clear b3
    replace HB := Lib.hid hb
    clear hb
    go_wp2_with fail
    go_ret
    exact ⟨rfl, (by repeat (first | exact HB.out | refine below_alloc ?_ _ | refine Below.drew ?_ | refine below_set ?_ (by omega) _))⟩
end

section
open Go.RowKit

attribute [local go_sem] u_and u_or u_andNot u_add u_sub u_bit u_eq_zero u_beq

theorem shown_any (sa : Addr) (w : World) (hh : Env sa w) : Calls Tryd.prog 10 #[] w (Yes w) :=
  shown_core sa T0w _ _ _ _ _ ⟨0, 1, ⟨1, 1#64, 5⟩, ⟨1, 1#64, 5⟩⟩ w hh (by kernel_rfl) rfl (by decide +kernel) rfl (by decide +kernel) (by decide +kernel) rfl (by decide +kernel) (by decide +kernel) rfl (by decide +kernel) (by decide +kernel) rfl (by decide +kernel) rfl (by decide +kernel) (by decide +kernel) (by decide +kernel) (by decide +kernel) (by decide +kernel) (by decide +kernel)
theorem true_iff_self {l : List Sub} : true = true ↔ l = l := ⟨fun _ => rfl, fun _ => rfl⟩
set_option maxRecDepth 100000 in
set_option maxHeartbeats 8000000 in
theorem acts_core (sa : Addr) (l m b d j : List Sub) (v : Value) (who child e g k : Int) (a : Lab) (w : World) (hh : Env sa w) (hl0 : SubsW w (v) l) (h_few_l : l.take 10 = m) (h_startE_m_whochild : startE m who child = e) (h_startL_m_whochild : startL m who child = b) (h_len_m : m.length ≤ 1000) (h_sfloatE_m_whoa : sfloatE m who a = g) (h_sfloatL_m_whoa : sfloatL m who a = d) (h_exitE_m_who : exitE m who = k) (h_exitL_m_who : exitL m who = j) :
    Calls Tryd.prog 3 #[v, .int .i64 who, .int .i64 child, .agg #[.int .i64 a.lv, .int .u64 (u a.c), .int .i64 a.ig]] w (Yes w) := by
  have HH := Lib.hid hh
  clear hh
  have H_few_l := Lib.hid h_few_l
  clear h_few_l
  have H_startE_m_whochild := Lib.hid h_startE_m_whochild
  clear h_startE_m_whochild
  have H_startL_m_whochild := Lib.hid h_startL_m_whochild
  clear h_startL_m_whochild
  have H_len_m := Lib.hid h_len_m
  clear h_len_m
  have H_sfloatE_m_whoa := Lib.hid h_sfloatE_m_whoa
  clear h_sfloatE_m_whoa
  have H_sfloatL_m_whoa := Lib.hid h_sfloatL_m_whoa
  clear h_sfloatL_m_whoa
  have H_exitE_m_who := Lib.hid h_exitE_m_who
  clear h_exitE_m_who
  have H_exitL_m_who := Lib.hid h_exitL_m_who
  clear h_exitL_m_who
  have B0 := Lib.hid hl0
  clear hl0
  have HB := Lib.hid (Below.refl w.heap.size w)
  go_enter Tryd.func3, Tryd.ntmps3
  go_wp2_with fail
  refine (shown_any sa _ (HH.out.up (by repeat (first | exact HB.out | refine below_alloc ?_ _ | refine Below.drew ?_ | refine below_set ?_ (by omega) _)))).mono ?_
  rintro e w1 ⟨rfl, hB⟩
  replace HB := Lib.hid (below_call (w := w) (by repeat (first | exact HB.out | refine below_alloc ?_ _ | refine Below.drew ?_ | refine below_set ?_ (by omega) _)) hB)
  have z1 : w.heap.size ≤ w1.heap.size := HB.out.size
  replace B0 : Hid (SubsW w1 (v) l) := Lib.hid (SubsW.after (by repeat (first | exact B0.out | refine SubsW.drew ?_ | refine SubsW.alloc ?_ _)) hB)
  have B1 : Hid (Blk w1 (w.heap.size) 25 #[.int .i64 a.lv, .int .u64 (u a.c), .int .i64 a.ig]) := Lib.hid (Blk.after (by repeat (first | exact Blk.new' (by simp; done) | exact Blk.new' rfl | refine Blk.drew ?_ | refine Blk.alloc ?_ _)) hB)
  clear hB
  go_wp2_with fail
  refine (fewIs H_few_l.out (by repeat (first | exact B0.out | refine SubsW.drew ?_ | refine SubsW.alloc ?_ _))).mono ?_
  rintro e w' ⟨A1, c1, rfl, hR1, rfl⟩
  have B2 := Lib.hid hR1
  clear hR1
  go_wp2_with fail
  refine (startIs H_startE_m_whochild.out H_startL_m_whochild.out H_len_m.out (HH.out.up (by repeat (first | exact HB.out | refine below_alloc ?_ _ | refine Below.drew ?_ | refine below_set ?_ (by omega) _))).h (by repeat (first | exact B2.out | refine SubsW.drew ?_ | refine SubsW.alloc ?_ _))).mono ?_
  rintro e w2 ⟨A2, c2, rfl, hR2, hB⟩
  replace HB := Lib.hid (below_call (w := w) (by repeat (first | exact HB.out | refine below_alloc ?_ _ | refine Below.drew ?_ | refine below_set ?_ (by omega) _)) hB)
  have z2 : w.heap.size ≤ w2.heap.size := HB.out.size
  replace B1 : Hid (Blk w2 (w.heap.size) 25 #[.int .i64 a.lv, .int .u64 (u a.c), .int .i64 a.ig]) := Lib.hid (Blk.after (by repeat (first | exact B1.out | exact Blk.new' (by simp; done) | exact Blk.new' rfl | refine Blk.drew ?_ | refine Blk.alloc ?_ _)) hB)
  replace B2 : Hid (SubsW w2 (.slice A1 m.length c1) m) := Lib.hid (SubsW.after (by repeat (first | exact B2.out | refine SubsW.drew ?_ | refine SubsW.alloc ?_ _)) hB)
  clear hB
  have B3 := Lib.hid (show SubsW w2 (.slice A2 b.length c2) b from hR2)
  clear hR2
  go_wp2_with fail
  refine (rStartIs H_startE_m_whochild.out H_startL_m_whochild.out H_len_m.out (by repeat (first | exact B2.out | refine SubsW.drew ?_ | refine SubsW.alloc ?_ _))).mono ?_
  rintro e w3 ⟨A3, c3, rfl, hR3, hB⟩
  replace HB := Lib.hid (below_call (w := w) (by repeat (first | exact HB.out | refine below_alloc ?_ _ | refine Below.drew ?_ | refine below_set ?_ (by omega) _)) hB)
  have z3 : w.heap.size ≤ w3.heap.size := HB.out.size
  replace B1 : Hid (Blk w3 (w.heap.size) 25 #[.int .i64 a.lv, .int .u64 (u a.c), .int .i64 a.ig]) := Lib.hid (Blk.after (by repeat (first | exact B1.out | exact Blk.new' (by simp; done) | exact Blk.new' rfl | refine Blk.drew ?_ | refine Blk.alloc ?_ _)) hB)
  replace B2 : Hid (SubsW w3 (.slice A1 m.length c1) m) := Lib.hid (SubsW.after (by repeat (first | exact B2.out | refine SubsW.drew ?_ | refine SubsW.alloc ?_ _)) hB)
  replace B3 : Hid (SubsW w3 (.slice A2 b.length c2) b) := Lib.hid (SubsW.after (by repeat (first | exact B3.out | refine SubsW.drew ?_ | refine SubsW.alloc ?_ _)) hB)
  clear hB
  have B4 := Lib.hid (show SubsW w3 (.slice A3 b.length c3) b from hR3)
  clear hR3
  have p1_0 := B1.out.at_ (i := 0) (v := .int .i64 a.lv) rfl
  have p1_1 := B1.out.at_ (i := 1) (v := .int .u64 (u a.c)) rfl
  have p1_2 := B1.out.at_ (i := 2) (v := .int .i64 a.ig) rfl
  have k1_0 : w.heap.size < w3.heap.size := by have := B1.out.lt; omega
  go_wp2_with fail
  refine (sfloatIs H_sfloatE_m_whoa.out H_sfloatL_m_whoa.out H_len_m.out (HH.out.up (by repeat (first | exact HB.out | refine below_alloc ?_ _ | refine Below.drew ?_ | refine below_set ?_ (by omega) _))) (by repeat (first | exact B2.out | refine SubsW.drew ?_ | refine SubsW.alloc ?_ _))).mono ?_
  rintro e w4 ⟨A4, c4, rfl, hR4, hB⟩
  replace HB := Lib.hid (below_call (w := w) (by repeat (first | exact HB.out | refine below_alloc ?_ _ | refine Below.drew ?_ | refine below_set ?_ (by omega) _)) hB)
  have z4 : w.heap.size ≤ w4.heap.size := HB.out.size
  replace B1 : Hid (Blk w4 (w.heap.size) 25 #[.int .i64 a.lv, .int .u64 (u a.c), .int .i64 a.ig]) := Lib.hid (Blk.after (by repeat (first | exact B1.out | exact Blk.new' (by simp; done) | exact Blk.new' rfl | refine Blk.drew ?_ | refine Blk.alloc ?_ _)) hB)
  replace B2 : Hid (SubsW w4 (.slice A1 m.length c1) m) := Lib.hid (SubsW.after (by repeat (first | exact B2.out | refine SubsW.drew ?_ | refine SubsW.alloc ?_ _)) hB)
  replace B3 : Hid (SubsW w4 (.slice A2 b.length c2) b) := Lib.hid (SubsW.after (by repeat (first | exact B3.out | refine SubsW.drew ?_ | refine SubsW.alloc ?_ _)) hB)
  replace B4 : Hid (SubsW w4 (.slice A3 b.length c3) b) := Lib.hid (SubsW.after (by repeat (first | exact B4.out | refine SubsW.drew ?_ | refine SubsW.alloc ?_ _)) hB)
  clear p1_0 p1_1 p1_2 k1_0
  clear hB
  have B5 := Lib.hid (show SubsW w4 (.slice A4 d.length c4) d from hR4)
  clear hR4
  have p1_0 := B1.out.at_ (i := 0) (v := .int .i64 a.lv) rfl
  have p1_1 := B1.out.at_ (i := 1) (v := .int .u64 (u a.c)) rfl
  have p1_2 := B1.out.at_ (i := 2) (v := .int .i64 a.ig) rfl
  have k1_0 : w.heap.size < w4.heap.size := by have := B1.out.lt; omega
  go_wp2_with fail
  refine (rsFloatIs H_sfloatE_m_whoa.out H_sfloatL_m_whoa.out H_len_m.out (by repeat (first | exact B2.out | refine SubsW.drew ?_ | refine SubsW.alloc ?_ _))).mono ?_
  rintro e w5 ⟨A5, c5, rfl, hR5, hB⟩
  replace HB := Lib.hid (below_call (w := w) (by repeat (first | exact HB.out | refine below_alloc ?_ _ | refine Below.drew ?_ | refine below_set ?_ (by omega) _)) hB)
  have z5 : w.heap.size ≤ w5.heap.size := HB.out.size
  replace B2 : Hid (SubsW w5 (.slice A1 m.length c1) m) := Lib.hid (SubsW.after (by repeat (first | exact B2.out | refine SubsW.drew ?_ | refine SubsW.alloc ?_ _)) hB)
  replace B3 : Hid (SubsW w5 (.slice A2 b.length c2) b) := Lib.hid (SubsW.after (by repeat (first | exact B3.out | refine SubsW.drew ?_ | refine SubsW.alloc ?_ _)) hB)
  replace B4 : Hid (SubsW w5 (.slice A3 b.length c3) b) := Lib.hid (SubsW.after (by repeat (first | exact B4.out | refine SubsW.drew ?_ | refine SubsW.alloc ?_ _)) hB)
  replace B5 : Hid (SubsW w5 (.slice A4 d.length c4) d) := Lib.hid (SubsW.after (by repeat (first | exact B5.out | refine SubsW.drew ?_ | refine SubsW.alloc ?_ _)) hB)
  clear p1_0 p1_1 p1_2 k1_0
  clear hB
  have B6 := Lib.hid (show SubsW w5 (.slice A5 d.length c5) d from hR5)
  clear hR5
  go_wp2_with fail
  refine (exitIs H_exitE_m_who.out H_exitL_m_who.out H_len_m.out (HH.out.up (by repeat (first | exact HB.out | refine below_alloc ?_ _ | refine Below.drew ?_ | refine below_set ?_ (by omega) _))).h (by repeat (first | exact B2.out | refine SubsW.drew ?_ | refine SubsW.alloc ?_ _))).mono ?_
  rintro e w6 ⟨A6, c6, rfl, hR6, hB⟩
  replace HB := Lib.hid (below_call (w := w) (by repeat (first | exact HB.out | refine below_alloc ?_ _ | refine Below.drew ?_ | refine below_set ?_ (by omega) _)) hB)
  have z6 : w.heap.size ≤ w6.heap.size := HB.out.size
  replace B2 : Hid (SubsW w6 (.slice A1 m.length c1) m) := Lib.hid (SubsW.after (by repeat (first | exact B2.out | refine SubsW.drew ?_ | refine SubsW.alloc ?_ _)) hB)
  replace B3 : Hid (SubsW w6 (.slice A2 b.length c2) b) := Lib.hid (SubsW.after (by repeat (first | exact B3.out | refine SubsW.drew ?_ | refine SubsW.alloc ?_ _)) hB)
  replace B4 : Hid (SubsW w6 (.slice A3 b.length c3) b) := Lib.hid (SubsW.after (by repeat (first | exact B4.out | refine SubsW.drew ?_ | refine SubsW.alloc ?_ _)) hB)
  replace B5 : Hid (SubsW w6 (.slice A4 d.length c4) d) := Lib.hid (SubsW.after (by repeat (first | exact B5.out | refine SubsW.drew ?_ | refine SubsW.alloc ?_ _)) hB)
  replace B6 : Hid (SubsW w6 (.slice A5 d.length c5) d) := Lib.hid (SubsW.after (by repeat (first | exact B6.out | refine SubsW.drew ?_ | refine SubsW.alloc ?_ _)) hB)
  clear hB
  have B7 := Lib.hid (show SubsW w6 (.slice A6 j.length c6) j from hR6)
  clear hR6
  go_wp2_with fail
  refine (rExitIs H_exitE_m_who.out H_exitL_m_who.out H_len_m.out (by repeat (first | exact B2.out | refine SubsW.drew ?_ | refine SubsW.alloc ?_ _))).mono ?_
  rintro e w7 ⟨A7, c7, rfl, hR7, hB⟩
  replace HB := Lib.hid (below_call (w := w) (by repeat (first | exact HB.out | refine below_alloc ?_ _ | refine Below.drew ?_ | refine below_set ?_ (by omega) _)) hB)
  have z7 : w.heap.size ≤ w7.heap.size := HB.out.size
  replace B3 : Hid (SubsW w7 (.slice A2 b.length c2) b) := Lib.hid (SubsW.after (by repeat (first | exact B3.out | refine SubsW.drew ?_ | refine SubsW.alloc ?_ _)) hB)
  replace B4 : Hid (SubsW w7 (.slice A3 b.length c3) b) := Lib.hid (SubsW.after (by repeat (first | exact B4.out | refine SubsW.drew ?_ | refine SubsW.alloc ?_ _)) hB)
  replace B5 : Hid (SubsW w7 (.slice A4 d.length c4) d) := Lib.hid (SubsW.after (by repeat (first | exact B5.out | refine SubsW.drew ?_ | refine SubsW.alloc ?_ _)) hB)
  replace B6 : Hid (SubsW w7 (.slice A5 d.length c5) d) := Lib.hid (SubsW.after (by repeat (first | exact B6.out | refine SubsW.drew ?_ | refine SubsW.alloc ?_ _)) hB)
  replace B7 : Hid (SubsW w7 (.slice A6 j.length c6) j) := Lib.hid (SubsW.after (by repeat (first | exact B7.out | refine SubsW.drew ?_ | refine SubsW.alloc ?_ _)) hB)
  clear hB
  have B8 := Lib.hid (show SubsW w7 (.slice A7 j.length c7) j from hR7)
  clear hR7
  go_wp2_with fail
  refine (rSameIs true_iff_self (by repeat (first | exact B3.out | refine SubsW.drew ?_ | refine SubsW.alloc ?_ _)) (by repeat (first | exact B4.out | refine SubsW.drew ?_ | refine SubsW.alloc ?_ _))).mono ?_
  rintro e w8 ⟨rfl, hB⟩
  replace HB := Lib.hid (below_call (w := w) (by repeat (first | exact HB.out | refine below_alloc ?_ _ | refine Below.drew ?_ | refine below_set ?_ (by omega) _)) hB)
  have z8 : w.heap.size ≤ w8.heap.size := HB.out.size
  replace B5 : Hid (SubsW w8 (.slice A4 d.length c4) d) := Lib.hid (SubsW.after (by repeat (first | exact B5.out | refine SubsW.drew ?_ | refine SubsW.alloc ?_ _)) hB)
  replace B6 : Hid (SubsW w8 (.slice A5 d.length c5) d) := Lib.hid (SubsW.after (by repeat (first | exact B6.out | refine SubsW.drew ?_ | refine SubsW.alloc ?_ _)) hB)
  replace B7 : Hid (SubsW w8 (.slice A6 j.length c6) j) := Lib.hid (SubsW.after (by repeat (first | exact B7.out | refine SubsW.drew ?_ | refine SubsW.alloc ?_ _)) hB)
  replace B8 : Hid (SubsW w8 (.slice A7 j.length c7) j) := Lib.hid (SubsW.after (by repeat (first | exact B8.out | refine SubsW.drew ?_ | refine SubsW.alloc ?_ _)) hB)
  clear hB
  go_wp2_with fail
  refine (rSameIs true_iff_self (by repeat (first | exact B5.out | refine SubsW.drew ?_ | refine SubsW.alloc ?_ _)) (by repeat (first | exact B6.out | refine SubsW.drew ?_ | refine SubsW.alloc ?_ _))).mono ?_
  rintro e w9 ⟨rfl, hB⟩
  replace HB := Lib.hid (below_call (w := w) (by repeat (first | exact HB.out | refine below_alloc ?_ _ | refine Below.drew ?_ | refine below_set ?_ (by omega) _)) hB)
  have z9 : w.heap.size ≤ w9.heap.size := HB.out.size
  replace B7 : Hid (SubsW w9 (.slice A6 j.length c6) j) := Lib.hid (SubsW.after (by repeat (first | exact B7.out | refine SubsW.drew ?_ | refine SubsW.alloc ?_ _)) hB)
  replace B8 : Hid (SubsW w9 (.slice A7 j.length c7) j) := Lib.hid (SubsW.after (by repeat (first | exact B8.out | refine SubsW.drew ?_ | refine SubsW.alloc ?_ _)) hB)
  clear hB
  go_wp2_with fail
  refine (rSameIs true_iff_self (by repeat (first | exact B7.out | refine SubsW.drew ?_ | refine SubsW.alloc ?_ _)) (by repeat (first | exact B8.out | refine SubsW.drew ?_ | refine SubsW.alloc ?_ _))).mono ?_
  rintro e w10 ⟨rfl, hB⟩
  replace HB := Lib.hid (below_call (w := w) (by repeat (first | exact HB.out | refine below_alloc ?_ _ | refine Below.drew ?_ | refine below_set ?_ (by omega) _)) hB)
  have z10 : w.heap.size ≤ w10.heap.size := HB.out.size
  clear hB
  go_wp2_with fail
  go_ret
  exact ⟨rfl, (by repeat (first | exact HB.out | refine below_alloc ?_ _ | refine Below.drew ?_ | refine below_set ?_ (by omega) _))⟩
theorem acts_walk (sa : Addr) (l : List Sub) (v : Value) (who child : Int) (a : Lab) (w : World) (hh : Env sa w) (hl : SubsW w v l) :
    Calls Tryd.prog 3 #[v, .int .i64 who, .int .i64 child, .agg #[.int .i64 a.lv, .int .u64 (u a.c), .int .i64 a.ig]] w (Yes w) :=
  acts_core sa l (l.take 10) _ _ _ v who child _ _ _ a w hh hl rfl rfl rfl (by rw [List.length_take]; omega) rfl rfl rfl rfl
end

end Go.Proofs.YteepgbkblgcegaaDoor
