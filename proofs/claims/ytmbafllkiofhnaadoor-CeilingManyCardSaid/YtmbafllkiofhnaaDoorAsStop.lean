/-
  errors.As BY ITS CONTRACT at ceiling's own error (printed by wip/genas.py).
-/
import Derived.Test.YtmbafllkiofhnaaDoorLabF
namespace Go.Proofs.YtmbafllkiofhnaaDoor
open Go.RowKit Go.Extern.Stop Go.Stop Go.Extern

/-! ### errors.As: closed facts -/
theorem valueOfPS (t : Addr) (w : World) : (callFunc 58 #[.iface 70 (.pointer (some t))]).run Tryd.prog w
    = .ok (.value (.agg #[.pointer (some ⟨2, 70, none⟩), .pointer (some ⟨w.heap.size, 0, none⟩), .int .u64 150])) (w.alloc (.cells #[.pointer (some t)] 70)) := by kernel_rfl
theorem typePS (a : Addr) (w : World) : (callFunc 59 #[.agg #[.pointer (some ⟨2, 70, none⟩), .pointer (some a), .int .u64 150]]).run Tryd.prog w
    = .ok (.value (.iface 95 (.agg #[.pointer (some ⟨2, 70, none⟩)]))) w := by kernel_rfl
theorem kindPS (w : World) : (callFunc 78 #[.pointer (some ⟨2, 70, none⟩)]).run Tryd.prog w = .ok (.value (.int .u8 22)) w := by kernel_rfl
theorem kindWS (w : World) : (callFunc 78 #[.pointer (some ⟨2, 67, none⟩)]).run Tryd.prog w = .ok (.value (.int .u8 25)) w := by kernel_rfl
theorem elemPS (w : World) : (callFunc 90 #[.agg #[.pointer (some ⟨2, 70, none⟩)]]).run Tryd.prog w
    = .ok (.value (.iface 95 (.agg #[.pointer (some ⟨2, 67, none⟩)]))) w := by kernel_rfl
theorem implWS (w : World) : (callFunc 91 #[.agg #[.pointer (some ⟨2, 67, none⟩)], .iface 95 (.agg #[.pointer (some ⟨2, 45, none⟩)])]).run Tryd.prog w = .ok (.value (.bool true)) w := by kernel_rfl
theorem typeOfWS (v : Value) (w : World) : (callFunc 56 #[.iface 67 v]).run Tryd.prog w
    = .ok (.value (.iface 95 (.agg #[.pointer (some ⟨2, 67, none⟩)]))) w := by kernel_rfl
theorem assignWS (w : World) : (callFunc 88 #[.agg #[.pointer (some ⟨2, 67, none⟩)], .iface 95 (.agg #[.pointer (some ⟨2, 67, none⟩)])]).run Tryd.prog w = .ok (.value (.bool true)) w := by kernel_rfl
theorem valueOfWS (c0 c1 c2 c3 : Value) (w : World) : (callFunc 58 #[.iface 67 (.agg #[c0, c1, c2, c3])]).run Tryd.prog w
    = .ok (.value (.agg #[.pointer (some ⟨2, 67, none⟩), .pointer (some ⟨w.heap.size, 0, none⟩), .int .u64 153])) (w.alloc (.cells #[c0, c1, c2, c3] 67)) := by kernel_rfl
theorem partsPS (a : Addr) (w : World) : (ReflectliteValue.parts (.agg #[.pointer (some ⟨2, 70, none⟩), .pointer (some a), .int .u64 150])).run Tryd.prog w = .ok (some (70, a, 150)) w := by kernel_rfl
theorem isNilPS (a p : Addr) (W : World) (ha : W.cell? a = some (.pointer (some p))) :
    (callFunc 60 #[.agg #[.pointer (some ⟨2, 70, none⟩), .pointer (some a), .int .u64 150]]).run Tryd.prog W = .ok (.value (.bool false)) W := by
  rw [@run_callFunc_extern Tryd.prog 60 _ (ReflectliteValue.method (ReflectliteValue.valueError "reflectlite.Value.IsNil" 0) ReflectliteValue.isNil) Tryd.func60 (by kernel_rfl) (by kernel_rfl) (by kernel_rfl) (by kernel_rfl), rlm]
  simp only [Sem.run_bind, partsPS, Result.andThen]
  simp [ReflectliteValue.isNil, loadVar, isAgg, underlying, Tryd.underlying70, ha, Result.andThen]
theorem elemOfPS (w : World) : (Rtype.elem? 70).run Tryd.prog w = .ok (some 67) w := by kernel_rfl
theorem mkWS (p : Addr) (w : World) : (ReflectliteValue.mk 67 p ReflectliteValue.flagAddr).run Tryd.prog w = .ok (.agg #[.pointer (some ⟨2, 67, none⟩), .pointer (some p), .int .u64 409]) w := by kernel_rfl
theorem elemVPS (a p : Addr) (W : World) (ha : W.cell? a = some (.pointer (some p))) :
    (callFunc 62 #[.agg #[.pointer (some ⟨2, 70, none⟩), .pointer (some a), .int .u64 150]]).run Tryd.prog W = .ok (.value (.agg #[.pointer (some ⟨2, 67, none⟩), .pointer (some p), .int .u64 409])) W := by
  rw [@run_callFunc_extern Tryd.prog 62 _ (ReflectliteValue.method (ReflectliteValue.valueError "reflectlite.Value.Elem" 0) ReflectliteValue.elem) Tryd.func62 (by kernel_rfl) (by kernel_rfl) (by kernel_rfl) (by kernel_rfl), rlm]
  simp only [Sem.run_bind, partsPS, Result.andThen]
  simp [ReflectliteValue.elem, loadVar, isAgg, underlying, Tryd.underlying70, ha, Result.andThen, elemOfPS, mkWS]
theorem partsWaS (a : Addr) (w : World) : (ReflectliteValue.parts (.agg #[.pointer (some ⟨2, 67, none⟩), .pointer (some a), .int .u64 409])).run Tryd.prog w = .ok (some (67, a, 409)) w := by kernel_rfl
theorem partsWS (a : Addr) (w : World) : (ReflectliteValue.parts (.agg #[.pointer (some ⟨2, 67, none⟩), .pointer (some a), .int .u64 153])).run Tryd.prog w = .ok (some (67, a, 153)) w := by kernel_rfl
theorem directWS (w : World) : (Rtype.directlyAssignable 67 67).run Tryd.prog w = .ok true w := by kernel_rfl
theorem setWS (tb bb : Nat) (x : Lab) (W : World)
    (h0 : W.cell? ⟨bb, 0, none⟩ = some (.nilIface)) (h1 : W.cell? ⟨bb, 1, none⟩ = some (.int .i64 x.lv)) (h2 : W.cell? ⟨bb, 2, none⟩ = some (.int .u64 (u x.c))) (h3 : W.cell? ⟨bb, 3, none⟩ = some (.int .i64 x.ig))
    (t0 : W.cell? ⟨tb, 0, none⟩ = some (.nilIface)) (t1 : W.cell? ⟨tb, 1, none⟩ = some (.int .i64 0)) (t2 : W.cell? ⟨tb, 2, none⟩ = some (.int .u64 0)) (t3 : W.cell? ⟨tb, 3, none⟩ = some (.int .i64 0))
    (f0 : W.frozen? ⟨tb, 0, none⟩ = false) (f1 : W.frozen? ⟨tb, 1, none⟩ = false) (f2 : W.frozen? ⟨tb, 2, none⟩ = false) (f3 : W.frozen? ⟨tb, 3, none⟩ = false) :
    (callFunc 63 #[.agg #[.pointer (some ⟨2, 67, none⟩), .pointer (some ⟨tb, 0, none⟩), .int .u64 409], .agg #[.pointer (some ⟨2, 67, none⟩), .pointer (some ⟨bb, 0, none⟩), .int .u64 153]]).run Tryd.prog W
      = .ok (.value (.tuple #[])) ((((W.setCell ⟨tb, 0, none⟩ (.nilIface)).setCell ⟨tb, 1, none⟩ (.int .i64 x.lv)).setCell ⟨tb, 2, none⟩ (.int .u64 (u x.c))).setCell ⟨tb, 3, none⟩ (.int .i64 x.ig)) := by
  rw [@run_callFunc_extern Tryd.prog 63 _ ReflectliteValue.set Tryd.func63 (by kernel_rfl) (by kernel_rfl) (by kernel_rfl) (by kernel_rfl), rls]
  simp only [Sem.run_bind, partsWaS, partsWS, Result.andThen]
  simp [ReflectliteValue.flagAddr, Result.andThen, directWS]
  go_simp
set_option maxRecDepth 100000 in
set_option maxHeartbeats 4000000 in
theorem as2_hitS (x : Lab) (tb ab : Nat) (w : World) (ha : w.cell? ⟨ab, 0, none⟩ = some (.pointer (some ⟨tb, 0, none⟩))) (hab : ab < w.heap.size) (htb : tb < w.heap.size)
    (t0 : w.cell? ⟨tb, 0, none⟩ = some (.nilIface)) (t1 : w.cell? ⟨tb, 1, none⟩ = some (.int .i64 0)) (t2 : w.cell? ⟨tb, 2, none⟩ = some (.int .u64 0)) (t3 : w.cell? ⟨tb, 3, none⟩ = some (.int .i64 0))
    (f0 : w.frozen? ⟨tb, 0, none⟩ = false) (f1 : w.frozen? ⟨tb, 1, none⟩ = false) (f2 : w.frozen? ⟨tb, 2, none⟩ = false) (f3 : w.frozen? ⟨tb, 3, none⟩ = false) :
    Calls Tryd.prog 61 #[.iface 67 (.agg #[.nilIface, .int .i64 x.lv, .int .u64 (u x.c), .int .i64 x.ig]), .iface 70 (.pointer (some ⟨tb, 0, none⟩)), .agg #[.pointer (some ⟨2, 70, none⟩), .pointer (some ⟨ab, 0, none⟩), .int .u64 150], .iface 95 (.agg #[.pointer (some ⟨2, 67, none⟩)])] w
      fun e w' => e = .returned (.bool true) ∧ w.grownBy w' (some tb) := by
  have c1 := typeOfWS
  have c2 := assignWS
  have c3 := valueOfWS
  have hA : ∀ (o : Obj) (p : Addr), p.block < w.heap.size → (w.alloc o).cell? p = w.cell? p := fun o p h => World.cell?_alloc_lt _ _ p h
  have hA2 : ∀ (o o' : Obj) (p : Addr), p.block < w.heap.size → ((w.alloc o).alloc o').cell? p = w.cell? p := fun o o' p h => (World.cell?_alloc_lt _ _ p (by simp; omega)).trans (World.cell?_alloc_lt _ _ p h)
  have hF2 : ∀ (o o' : Obj) (p : Addr), p.block < w.heap.size → ((w.alloc o).alloc o').frozen? p = w.frozen? p := fun o o' p h => (World.frozen?_alloc_old _ _ p (by simp; omega)).trans (World.frozen?_alloc_old _ _ p (by omega))
  have c4 := elemVPS ⟨ab, 0, none⟩ ⟨tb, 0, none⟩ (w.alloc (.cells #[.pointer (some ⟨2, 70, none⟩), .pointer (some ⟨ab, 0, none⟩), .int .u64 150] 87)) ((hA _ _ hab).trans ha)
  have c5 := setWS tb (w.heap.size + 1) x
    ((w.alloc (.cells #[.pointer (some ⟨2, 70, none⟩), .pointer (some ⟨ab, 0, none⟩), .int .u64 150] 87)).alloc (.cells #[.nilIface, .int .i64 x.lv, .int .u64 (u x.c), .int .i64 x.ig] 67))
    (World.cell?_alloc_at _ _ _ _ (by simp)) (World.cell?_alloc_at _ _ _ _ (by simp)) (World.cell?_alloc_at _ _ _ _ (by simp)) (World.cell?_alloc_at _ _ _ _ (by simp))
    ((hA2 _ _ _ htb).trans t0) ((hA2 _ _ _ htb).trans t1) ((hA2 _ _ _ htb).trans t2) ((hA2 _ _ _ htb).trans t3) ((hF2 _ _ _ htb).trans f0) ((hF2 _ _ _ htb).trans f1) ((hF2 _ _ _ htb).trans f2) ((hF2 _ _ _ htb).trans f3)
  clear hA hA2 hF2 ha t0 t1 t2 t3 f0 f1 f2 f3 hab htb
  go_enter Tryd.func61, Tryd.ntmps61
  go_wp2_with fail
  refine wp_loop_rounds 1 ?_
  rw [rounds_succ]
  go_wp2
  go_ret
  refine ⟨rfl, ?_⟩
  have hset : ∀ (W : World) (o : Nat) (v : Value), W.grownBy (W.setCell ⟨tb, o, none⟩ v) (some tb) := fun W o v =>
    ⟨rfl, rfl, rfl, by simp [World.setCell], fun k _ hne => Below.heap_setCell _ _ _ _ (fun e => hne (by rw [e]))⟩
  exact ((((((World.grownBy_alloc _ _ _).trans (World.grownBy_alloc _ _ _)).trans (hset _ _ _)).trans (hset _ _ _)).trans (hset _ _ _)).trans (hset _ _ _))
set_option maxRecDepth 100000 in
set_option maxHeartbeats 4000000 in
theorem as_hitS (x : Lab) (tb : Nat) (w : World) (hh : Handle w) (htb : tb < w.heap.size)
    (t0 : w.cell? ⟨tb, 0, none⟩ = some (.nilIface)) (t1 : w.cell? ⟨tb, 1, none⟩ = some (.int .i64 0)) (t2 : w.cell? ⟨tb, 2, none⟩ = some (.int .u64 0)) (t3 : w.cell? ⟨tb, 3, none⟩ = some (.int .i64 0))
    (f0 : w.frozen? ⟨tb, 0, none⟩ = false) (f1 : w.frozen? ⟨tb, 1, none⟩ = false) (f2 : w.frozen? ⟨tb, 2, none⟩ = false) (f3 : w.frozen? ⟨tb, 3, none⟩ = false) :
    Calls Tryd.prog 46 #[.iface 67 (.agg #[.nilIface, .int .i64 x.lv, .int .u64 (u x.c), .int .i64 x.ig]), .iface 70 (.pointer (some ⟨tb, 0, none⟩))] w
      fun e w' => e = .returned (.bool true) ∧ w.grownBy w' (some tb) := by
  have c1 := valueOfPS
  have c2 := typePS
  have c3 := kindPS
  have c4 := kindWS
  have c5 := elemPS
  have c6 := implWS
  have hg := hh.2
  have hlt := hh.1
  clear hh
  have hA2 : ∀ (o o' : Obj) (p : Addr), p.block < w.heap.size → ((w.alloc o).alloc o').cell? p = w.cell? p := fun o o' p h => (World.cell?_alloc_lt _ _ p (by simp; omega)).trans (World.cell?_alloc_lt _ _ p h)
  have hF2 : ∀ (o o' : Obj) (p : Addr), p.block < w.heap.size → ((w.alloc o).alloc o').frozen? p = w.frozen? p := fun o o' p h => (World.frozen?_alloc_old _ _ p (by simp; omega)).trans (World.frozen?_alloc_old _ _ p (by omega))
  have c7 := isNilPS ⟨w.heap.size, 0, none⟩ ⟨tb, 0, none⟩
    ((w.alloc (.cells #[.pointer (some ⟨tb, 0, none⟩)] 70)).alloc (.cells #[.pointer (some ⟨2, 70, none⟩), .pointer (some ⟨w.heap.size, 0, none⟩), .int .u64 150] 87))
    ((World.cell?_alloc_lt _ _ _ (by simp)).trans (World.cell?_alloc_at _ _ _ _ rfl))
  have hgA := (hA2 (.cells #[.pointer (some ⟨tb, 0, none⟩)] 70) (.cells #[.pointer (some ⟨2, 70, none⟩), .pointer (some ⟨w.heap.size, 0, none⟩), .int .u64 150] 87) ⟨1, 0, none⟩ hlt).trans hg
  have HA := Lib.hid (as2_hitS x tb w.heap.size
    ((w.alloc (.cells #[.pointer (some ⟨tb, 0, none⟩)] 70)).alloc (.cells #[.pointer (some ⟨2, 70, none⟩), .pointer (some ⟨w.heap.size, 0, none⟩), .int .u64 150] 87))
    ((World.cell?_alloc_lt _ _ _ (by simp)).trans (World.cell?_alloc_at _ _ _ _ rfl)) (by simp; omega) (by simp; omega)
    ((hA2 _ _ _ htb).trans t0) ((hA2 _ _ _ htb).trans t1) ((hA2 _ _ _ htb).trans t2) ((hA2 _ _ _ htb).trans t3) ((hF2 _ _ _ htb).trans f0) ((hF2 _ _ _ htb).trans f1) ((hF2 _ _ _ htb).trans f2) ((hF2 _ _ _ htb).trans f3))
  clear hA2 hF2 t0 t1 t2 t3 f0 f1 f2 f3 htb
  go_enter Tryd.func46, Tryd.ntmps46
  go_wp2_with fail
  refine HA.out.mono ?_
  rintro e w' ⟨rfl, hg2⟩
  go_wp2
  go_ret
  exact ⟨rfl, ((World.grownBy_alloc _ _ _).trans (World.grownBy_alloc _ _ _)).trans hg2⟩

end Go.Proofs.YtmbafllkiofhnaaDoor
