/-
  errors.As at label's own error, and label.told.
-/
import Derived.Test.YtmbafllkiofhnaaDoorLabE
import Derived.Maps.AppendAt
namespace Go.Proofs.YtmbafllkiofhnaaDoor
open Go.RowKit Go.Extern.Stop Go.Stop Go.Extern

/-- errors' own handle of the type 'error', as the program's text lays it -/
def Handle (w : World) : Prop := 1 < w.heap.size ∧ w.cell? ⟨1, 0, none⟩ = some (.iface 95 (.agg #[.pointer (some ⟨2, 45, none⟩)]))
theorem Handle.below {w w' : World} {B : Nat} (h : Handle w) (hb : Below B w w') (hB : 1 < B) : Handle w' :=
  ⟨Nat.lt_of_lt_of_le h.1 hb.size, (hb.cell (p := ⟨1, 0, none⟩) hB).trans h.2⟩
theorem Handle.up {w w' : World} (h : Handle w) (hb : Below w.heap.size w w') : Handle w' := h.below hb h.1

set_option maxRecDepth 100000 in
set_option maxHeartbeats 4000000 in
theorem as2_hit (x : Lab) (tb ab : Nat) (w : World) (ha : w.cell? ⟨ab, 0, none⟩ = some (.pointer (some ⟨tb, 0, none⟩))) (hab : ab < w.heap.size) (htb : tb < w.heap.size)
    (t0 : w.cell? ⟨tb, 0, none⟩ = some (.int .i64 0)) (t1 : w.cell? ⟨tb, 1, none⟩ = some (.int .u64 0)) (t2 : w.cell? ⟨tb, 2, none⟩ = some (.int .i64 0))
    (f0 : w.frozen? ⟨tb, 0, none⟩ = false) (f1 : w.frozen? ⟨tb, 1, none⟩ = false) (f2 : w.frozen? ⟨tb, 2, none⟩ = false) :
    Calls Tryd.prog 61 #[.iface 72 (.agg #[.int .i64 x.lv, .int .u64 (u x.c), .int .i64 x.ig]), .iface 77 (.pointer (some ⟨tb, 0, none⟩)), .agg #[.pointer (some ⟨2, 77, none⟩), .pointer (some ⟨ab, 0, none⟩), .int .u64 150], .iface 95 (.agg #[.pointer (some ⟨2, 72, none⟩)])] w
      fun e w' => e = .returned (.bool true) ∧ w.grownBy w' (some tb) := by
  have c1 := typeOfW
  have c2 := assignW
  have c3 := valueOfW
  have hA : ∀ (o : Obj) (p : Addr), p.block < w.heap.size → (w.alloc o).cell? p = w.cell? p := fun o p h => World.cell?_alloc_lt _ _ p h
  have hA2 : ∀ (o o' : Obj) (p : Addr), p.block < w.heap.size → ((w.alloc o).alloc o').cell? p = w.cell? p := fun o o' p h => (World.cell?_alloc_lt _ _ p (by simp; omega)).trans (World.cell?_alloc_lt _ _ p h)
  have hF2 : ∀ (o o' : Obj) (p : Addr), p.block < w.heap.size → ((w.alloc o).alloc o').frozen? p = w.frozen? p := fun o o' p h => (World.frozen?_alloc_old _ _ p (by simp; omega)).trans (World.frozen?_alloc_old _ _ p (by omega))
  have c4 := elemVP ⟨ab, 0, none⟩ ⟨tb, 0, none⟩ (w.alloc (.cells #[.pointer (some ⟨2, 77, none⟩), .pointer (some ⟨ab, 0, none⟩), .int .u64 150] 87)) ((hA _ _ hab).trans ha)
  have c5 := setW tb (w.heap.size + 1) x.lv x.ig x.c (.int .i64 0) (.int .u64 0) (.int .i64 0)
    ((w.alloc (.cells #[.pointer (some ⟨2, 77, none⟩), .pointer (some ⟨ab, 0, none⟩), .int .u64 150] 87)).alloc (.cells #[.int .i64 x.lv, .int .u64 (u x.c), .int .i64 x.ig] 72))
    (World.cell?_alloc_at _ _ _ _ (by simp)) (World.cell?_alloc_at _ _ _ _ (by simp)) (World.cell?_alloc_at _ _ _ _ (by simp))
    ((hA2 _ _ _ htb).trans t0) ((hA2 _ _ _ htb).trans t1) ((hA2 _ _ _ htb).trans t2) ((hF2 _ _ _ htb).trans f0) ((hF2 _ _ _ htb).trans f1) ((hF2 _ _ _ htb).trans f2)
  clear hA hA2 hF2 ha t0 t1 t2 f0 f1 f2 hab htb
  go_enter Tryd.func61, Tryd.ntmps61
  go_wp2_with fail
  refine wp_loop_rounds 1 ?_
  rw [rounds_succ]
  go_wp2
  go_ret
  refine ⟨rfl, ?_⟩
  have hset : ∀ (W : World) (o : Nat) (v : Value), W.grownBy (W.setCell ⟨tb, o, none⟩ v) (some tb) := fun W o v =>
    ⟨rfl, rfl, rfl, by simp [World.setCell], fun k _ hne => Below.heap_setCell _ _ _ _ (fun e => hne (by rw [e]))⟩
  exact ((((World.grownBy_alloc _ _ _).trans (World.grownBy_alloc _ _ _)).trans (hset _ _ _)).trans (hset _ _ _)).trans (hset _ _ _)
set_option maxRecDepth 100000 in
set_option maxHeartbeats 4000000 in
theorem as_hit (x : Lab) (tb : Nat) (w : World) (hh : Handle w) (htb : tb < w.heap.size)
    (t0 : w.cell? ⟨tb, 0, none⟩ = some (.int .i64 0)) (t1 : w.cell? ⟨tb, 1, none⟩ = some (.int .u64 0)) (t2 : w.cell? ⟨tb, 2, none⟩ = some (.int .i64 0))
    (f0 : w.frozen? ⟨tb, 0, none⟩ = false) (f1 : w.frozen? ⟨tb, 1, none⟩ = false) (f2 : w.frozen? ⟨tb, 2, none⟩ = false) :
    Calls Tryd.prog 46 #[.iface 72 (.agg #[.int .i64 x.lv, .int .u64 (u x.c), .int .i64 x.ig]), .iface 77 (.pointer (some ⟨tb, 0, none⟩))] w
      fun e w' => e = .returned (.bool true) ∧ w.grownBy w' (some tb) := by
  have c1 := valueOfP
  have c2 := typeP
  have c3 := kindP
  have c4 := kindW
  have c5 := elemP
  have c6 := implW
  have hg := hh.2
  have hlt := hh.1
  clear hh
  have hA2 : ∀ (o o' : Obj) (p : Addr), p.block < w.heap.size → ((w.alloc o).alloc o').cell? p = w.cell? p := fun o o' p h => (World.cell?_alloc_lt _ _ p (by simp; omega)).trans (World.cell?_alloc_lt _ _ p h)
  have hF2 : ∀ (o o' : Obj) (p : Addr), p.block < w.heap.size → ((w.alloc o).alloc o').frozen? p = w.frozen? p := fun o o' p h => (World.frozen?_alloc_old _ _ p (by simp; omega)).trans (World.frozen?_alloc_old _ _ p (by omega))
  have c7 := isNilP ⟨w.heap.size, 0, none⟩ ⟨tb, 0, none⟩
    ((w.alloc (.cells #[.pointer (some ⟨tb, 0, none⟩)] 77)).alloc (.cells #[.pointer (some ⟨2, 77, none⟩), .pointer (some ⟨w.heap.size, 0, none⟩), .int .u64 150] 87))
    ((World.cell?_alloc_lt _ _ _ (by simp)).trans (World.cell?_alloc_at _ _ _ _ rfl))
  have hgA := (hA2 (.cells #[.pointer (some ⟨tb, 0, none⟩)] 77) (.cells #[.pointer (some ⟨2, 77, none⟩), .pointer (some ⟨w.heap.size, 0, none⟩), .int .u64 150] 87) ⟨1, 0, none⟩ hlt).trans hg
  have HA := Lib.hid (as2_hit x tb w.heap.size
    ((w.alloc (.cells #[.pointer (some ⟨tb, 0, none⟩)] 77)).alloc (.cells #[.pointer (some ⟨2, 77, none⟩), .pointer (some ⟨w.heap.size, 0, none⟩), .int .u64 150] 87))
    ((World.cell?_alloc_lt _ _ _ (by simp)).trans (World.cell?_alloc_at _ _ _ _ rfl)) (by simp; omega) (by simp; omega)
    ((hA2 _ _ _ htb).trans t0) ((hA2 _ _ _ htb).trans t1) ((hA2 _ _ _ htb).trans t2) ((hF2 _ _ _ htb).trans f0) ((hF2 _ _ _ htb).trans f1) ((hF2 _ _ _ htb).trans f2))
  clear hA2 hF2 t0 t1 t2 f0 f1 f2 htb
  go_enter Tryd.func46, Tryd.ntmps46
  go_wp2_with fail
  refine HA.out.mono ?_
  rintro e w' ⟨rfl, hg2⟩
  go_wp2
  go_ret
  exact ⟨rfl, ((World.grownBy_alloc _ _ _).trans (World.grownBy_alloc _ _ _)).trans hg2⟩

theorem told_nil (w : World) :
    Calls Tryd.prog 41 #[.nilIface] w fun e w' => e = .returned (.int .i64 0) ∧ Below w.heap.size w w' := by
  go_enter Tryd.func41, Tryd.ntmps41
  go_wp2_with (go_at_call 46; refine (as_nil _ _).mono ?_; rintro e w' ⟨rfl, rfl⟩)
  go_ret
  exact ⟨rfl, (Below.refl _ _).alloc (Nat.le_refl _) _⟩
theorem told_wrong (x : Lab) (w : World) (hh : Handle w) :
    Calls Tryd.prog 41 #[.iface 72 (.agg #[.int .i64 x.lv, .int .u64 (u x.c), .int .i64 x.ig])] w fun e w' => e = .returned (.int .i64 20) ∧ Below w.heap.size w w' := by
  have hB0 : Below w.heap.size w (w.alloc (.cells #[.int .i64 0, .int .u64 0, .int .i64 0] 72)) := (Below.refl _ _).alloc (Nat.le_refl _) _
  have HA := Lib.hid (as_hit x w.heap.size (w.alloc (.cells #[.int .i64 0, .int .u64 0, .int .i64 0] 72)) (hh.up hB0) (by simp)
    (World.cell?_alloc_at _ _ _ _ rfl) (World.cell?_alloc_at _ _ _ _ rfl) (World.cell?_alloc_at _ _ _ _ rfl) (by simp) (by simp) (by simp))
  clear hh hB0
  go_enter Tryd.func41, Tryd.ntmps41
  go_wp2_with fail
  refine HA.out.mono ?_
  rintro e w' ⟨rfl, hg⟩
  go_wp2
  go_ret
  exact ⟨rfl, ((Below.refl _ _).alloc (Nat.le_refl _) _).grown hg (by simp) (fun k e => by injection e with e; omega)⟩
end Go.Proofs.YtmbafllkiofhnaaDoor
