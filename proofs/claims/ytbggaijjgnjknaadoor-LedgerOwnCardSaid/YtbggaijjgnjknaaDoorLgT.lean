/-
  errors.As BY ITS CONTRACT at package ledger's error (printed by wip/genaslg.py); told.
-/
import Derived.Test.YtbggaijjgnjknaaDoorLgJ
import Derived.LaidEql
import Derived.Stop.Asserts
import Derived.RowKitTokens
import Derived.Maps.AppendAt
namespace Go.Proofs.YtbggaijjgnjknaaDoor
open Go.RowKit Go.Extern.Stop Go.Stop Go.Extern

theorem as_nil (t : Value) (w : World) :
    Calls Tryd.prog 61 #[.nilIface, t] w fun e w' => e = .returned (.bool false) ∧ w = w' := by
  go_enter Tryd.func61, Tryd.ntmps61
  go_wp2
  go_ret
  exact ⟨rfl, rfl⟩
/-- errors' own handle of the type 'error', as the program's text lays it -/
def Handle (w : World) : Prop := 0 < w.heap.size ∧ w.cell? ⟨0, 0, none⟩ = some (.iface 105 (.agg #[.pointer (some ⟨1, 51, none⟩)]))
theorem Handle.below {w w' : World} {B : Nat} (h : Handle w) (hb : Below B w w') (hB : 0 < B) : Handle w' :=
  ⟨Nat.lt_of_lt_of_le h.1 hb.size, (hb.cell (p := ⟨0, 0, none⟩) hB).trans h.2⟩
theorem Handle.up {w w' : World} (h : Handle w) (hb : Below w.heap.size w w') : Handle w' := h.below hb h.1

/-! ### errors.As: closed facts -/
theorem valueOfPG (t : Addr) (w : World) : (callFunc 67 #[.iface 85 (.pointer (some t))]).run Tryd.prog w
    = .ok (.value (.agg #[.pointer (some ⟨1, 85, none⟩), .pointer (some ⟨w.heap.size, 0, none⟩), .int .u64 150])) (w.alloc (.cells #[.pointer (some t)] 85)) := by kernel_rfl
theorem typePG (a : Addr) (w : World) : (callFunc 68 #[.agg #[.pointer (some ⟨1, 85, none⟩), .pointer (some a), .int .u64 150]]).run Tryd.prog w
    = .ok (.value (.iface 105 (.agg #[.pointer (some ⟨1, 85, none⟩)]))) w := by kernel_rfl
theorem kindPG (w : World) : (callFunc 90 #[.pointer (some ⟨1, 85, none⟩)]).run Tryd.prog w = .ok (.value (.int .u8 22)) w := by kernel_rfl
theorem kindWG (w : World) : (callFunc 90 #[.pointer (some ⟨1, 55, none⟩)]).run Tryd.prog w = .ok (.value (.int .u8 25)) w := by kernel_rfl
theorem elemPG (w : World) : (callFunc 101 #[.agg #[.pointer (some ⟨1, 85, none⟩)]]).run Tryd.prog w
    = .ok (.value (.iface 105 (.agg #[.pointer (some ⟨1, 55, none⟩)]))) w := by kernel_rfl
theorem implWG (w : World) : (callFunc 102 #[.agg #[.pointer (some ⟨1, 55, none⟩)], .iface 105 (.agg #[.pointer (some ⟨1, 51, none⟩)])]).run Tryd.prog w = .ok (.value (.bool true)) w := by kernel_rfl
theorem typeOfWG (v : Value) (w : World) : (callFunc 72 #[.iface 55 v]).run Tryd.prog w
    = .ok (.value (.iface 105 (.agg #[.pointer (some ⟨1, 55, none⟩)]))) w := by kernel_rfl
theorem assignWG (w : World) : (callFunc 99 #[.agg #[.pointer (some ⟨1, 55, none⟩)], .iface 105 (.agg #[.pointer (some ⟨1, 55, none⟩)])]).run Tryd.prog w = .ok (.value (.bool true)) w := by kernel_rfl
theorem valueOfWG (c0 : Value) (w : World) : (callFunc 67 #[.iface 55 (.agg #[c0])]).run Tryd.prog w
    = .ok (.value (.agg #[.pointer (some ⟨1, 55, none⟩), .pointer (some ⟨w.heap.size, 0, none⟩), .int .u64 153])) (w.alloc (.cells #[c0] 55)) := by kernel_rfl
theorem rlm (z : Sem Value) (f : TypeId → Addr → Nat → Nat → Sem Value) (v : Value) :
    ReflectliteValue.method z f #[v] = (do match ← ReflectliteValue.parts v with | none => z | some (t, a, fl) => f t a fl (fl % 32)) := rfl
theorem rls (v x : Value) : ReflectliteValue.set #[v, x] = (do
    let (some (dst, a, fl), some (src, b, _)) := (← ReflectliteValue.parts v, ← ReflectliteValue.parts x)
      | unsupported (.noEntry "extern/(internal/reflectlite.Value).Set.zeroValue")
    if fl / ReflectliteValue.flagAddr % 2 == 0 then unsupported (.noEntry "extern/(internal/reflectlite.Value).Set.unaddressable")
    let val ← loadVar src b
    if ← Rtype.directlyAssignable dst src then storeVar dst a val
    else if ← Rtype.implements dst src then
      if (← Rtype.kind src) == 20 then
        match val with
        | .nilIface => unsupported (.noEntry "extern/reflectlite: a nil value of one interface type handed on as a value of another")
        | _ => storeVar dst a val
      else storeVar dst a (.iface src val)
    else panicString ("reflectlite.Set: value of type " ++ (← Rtype.spelt src) ++ " is not assignable to type " ++ (← Rtype.spelt dst))
    pure (.tuple #[])) := rfl
theorem partsPG (a : Addr) (w : World) : (ReflectliteValue.parts (.agg #[.pointer (some ⟨1, 85, none⟩), .pointer (some a), .int .u64 150])).run Tryd.prog w = .ok (some (85, a, 150)) w := by kernel_rfl
theorem isNilPG (a p : Addr) (W : World) (ha : W.cell? a = some (.pointer (some p))) :
    (callFunc 69 #[.agg #[.pointer (some ⟨1, 85, none⟩), .pointer (some a), .int .u64 150]]).run Tryd.prog W = .ok (.value (.bool false)) W := by
  rw [@run_callFunc_extern Tryd.prog 69 _ (ReflectliteValue.method (ReflectliteValue.valueError "reflectlite.Value.IsNil" 0) ReflectliteValue.isNil) Tryd.func69 (by kernel_rfl) (by kernel_rfl) (by kernel_rfl) (by kernel_rfl), rlm]
  simp only [Sem.run_bind, partsPG, Result.andThen]
  simp [ReflectliteValue.isNil, loadVar, isAgg, underlying, Tryd.underlying85, ha, Result.andThen]
theorem elemOfPG (w : World) : (Rtype.elem? 85).run Tryd.prog w = .ok (some 55) w := by kernel_rfl
theorem mkWG (p : Addr) (w : World) : (ReflectliteValue.mk 55 p ReflectliteValue.flagAddr).run Tryd.prog w = .ok (.agg #[.pointer (some ⟨1, 55, none⟩), .pointer (some p), .int .u64 409]) w := by kernel_rfl
theorem elemVPG (a p : Addr) (W : World) (ha : W.cell? a = some (.pointer (some p))) :
    (callFunc 73 #[.agg #[.pointer (some ⟨1, 85, none⟩), .pointer (some a), .int .u64 150]]).run Tryd.prog W = .ok (.value (.agg #[.pointer (some ⟨1, 55, none⟩), .pointer (some p), .int .u64 409])) W := by
  rw [@run_callFunc_extern Tryd.prog 73 _ (ReflectliteValue.method (ReflectliteValue.valueError "reflectlite.Value.Elem" 0) ReflectliteValue.elem) Tryd.func73 (by kernel_rfl) (by kernel_rfl) (by kernel_rfl) (by kernel_rfl), rlm]
  simp only [Sem.run_bind, partsPG, Result.andThen]
  simp [ReflectliteValue.elem, loadVar, isAgg, underlying, Tryd.underlying85, ha, Result.andThen, elemOfPG, mkWG]
theorem partsWaG (a : Addr) (w : World) : (ReflectliteValue.parts (.agg #[.pointer (some ⟨1, 55, none⟩), .pointer (some a), .int .u64 409])).run Tryd.prog w = .ok (some (55, a, 409)) w := by kernel_rfl
theorem partsWG (a : Addr) (w : World) : (ReflectliteValue.parts (.agg #[.pointer (some ⟨1, 55, none⟩), .pointer (some a), .int .u64 153])).run Tryd.prog w = .ok (some (55, a, 153)) w := by kernel_rfl
theorem directWG (w : World) : (Rtype.directlyAssignable 55 55).run Tryd.prog w = .ok true w := by kernel_rfl
theorem setWG (tb bb : Nat) (why : Int) (W : World)
    (h0 : W.cell? ⟨bb, 0, none⟩ = some (.int .i64 why))
    (t0 : W.cell? ⟨tb, 0, none⟩ = some (.int .i64 0))
    (f0 : W.frozen? ⟨tb, 0, none⟩ = false) :
    (callFunc 74 #[.agg #[.pointer (some ⟨1, 55, none⟩), .pointer (some ⟨tb, 0, none⟩), .int .u64 409], .agg #[.pointer (some ⟨1, 55, none⟩), .pointer (some ⟨bb, 0, none⟩), .int .u64 153]]).run Tryd.prog W
      = .ok (.value (.tuple #[])) (W.setCell ⟨tb, 0, none⟩ (.int .i64 why)) := by
  rw [@run_callFunc_extern Tryd.prog 74 _ ReflectliteValue.set Tryd.func74 (by kernel_rfl) (by kernel_rfl) (by kernel_rfl) (by kernel_rfl), rls]
  simp only [Sem.run_bind, partsWaG, partsWG, Result.andThen]
  simp [ReflectliteValue.flagAddr, Result.andThen, directWG]
  go_simp
set_option maxRecDepth 100000 in
set_option maxHeartbeats 4000000 in
theorem as2_hitG (why : Int) (tb ab : Nat) (w : World) (ha : w.cell? ⟨ab, 0, none⟩ = some (.pointer (some ⟨tb, 0, none⟩))) (hab : ab < w.heap.size) (htb : tb < w.heap.size)
    (t0 : w.cell? ⟨tb, 0, none⟩ = some (.int .i64 0))
    (f0 : w.frozen? ⟨tb, 0, none⟩ = false) :
    Calls Tryd.prog 70 #[.iface 55 (.agg #[.int .i64 why]), .iface 85 (.pointer (some ⟨tb, 0, none⟩)), .agg #[.pointer (some ⟨1, 85, none⟩), .pointer (some ⟨ab, 0, none⟩), .int .u64 150], .iface 105 (.agg #[.pointer (some ⟨1, 55, none⟩)])] w
      fun e w' => e = .returned (.bool true) ∧ w'.cell? ⟨tb, 0, none⟩ = some (.int .i64 why) ∧ w.grownBy w' (some tb) := by
  have c1 := typeOfWG
  have c2 := assignWG
  have c3 := valueOfWG
  have hA : ∀ (o : Obj) (p : Addr), p.block < w.heap.size → (w.alloc o).cell? p = w.cell? p := fun o p h => World.cell?_alloc_lt _ _ p h
  have hA2 : ∀ (o o' : Obj) (p : Addr), p.block < w.heap.size → ((w.alloc o).alloc o').cell? p = w.cell? p := fun o o' p h => (World.cell?_alloc_lt _ _ p (by simp; omega)).trans (World.cell?_alloc_lt _ _ p h)
  have hF2 : ∀ (o o' : Obj) (p : Addr), p.block < w.heap.size → ((w.alloc o).alloc o').frozen? p = w.frozen? p := fun o o' p h => (World.frozen?_alloc_old _ _ p (by simp; omega)).trans (World.frozen?_alloc_old _ _ p (by omega))
  have c4 := elemVPG ⟨ab, 0, none⟩ ⟨tb, 0, none⟩ (w.alloc (.cells #[.pointer (some ⟨1, 85, none⟩), .pointer (some ⟨ab, 0, none⟩), .int .u64 150] 95)) ((hA _ _ hab).trans ha)
  have c5 := setWG tb (w.heap.size + 1) why
    ((w.alloc (.cells #[.pointer (some ⟨1, 85, none⟩), .pointer (some ⟨ab, 0, none⟩), .int .u64 150] 95)).alloc (.cells #[.int .i64 why] 55))
    (World.cell?_alloc_at _ _ _ _ (by simp))
    ((hA2 _ _ _ htb).trans t0) ((hF2 _ _ _ htb).trans f0)
  have T1 := Lib.hid ((hA2 (.cells #[.pointer (some ⟨1, 85, none⟩), .pointer (some ⟨ab, 0, none⟩), .int .u64 150] 95) (.cells #[.int .i64 why] 55) ⟨tb, 0, none⟩ htb).trans t0)
  clear hA hA2 hF2 ha t0 f0 hab htb
  go_enter Tryd.func70, Tryd.ntmps70
  go_wp2_with fail
  refine wp_loop_rounds 1 ?_
  rw [rounds_succ]
  go_wp2
  go_ret
  refine ⟨rfl, World.cell?_setCell_same _ _ _ T1.out, ?_⟩
  have hset : ∀ (W : World) (o : Nat) (v : Value), W.grownBy (W.setCell ⟨tb, o, none⟩ v) (some tb) := fun W o v =>
    ⟨rfl, rfl, rfl, by simp [World.setCell], fun k _ hne => Below.heap_setCell _ _ _ _ (fun e => hne (by rw [e]))⟩
  exact (((World.grownBy_alloc _ _ _).trans (World.grownBy_alloc _ _ _)).trans (hset _ _ _))
set_option maxRecDepth 100000 in
set_option maxHeartbeats 4000000 in
theorem as_hitG (why : Int) (tb : Nat) (w : World) (hh : Handle w) (htb : tb < w.heap.size)
    (t0 : w.cell? ⟨tb, 0, none⟩ = some (.int .i64 0))
    (f0 : w.frozen? ⟨tb, 0, none⟩ = false) :
    Calls Tryd.prog 61 #[.iface 55 (.agg #[.int .i64 why]), .iface 85 (.pointer (some ⟨tb, 0, none⟩))] w
      fun e w' => e = .returned (.bool true) ∧ w'.cell? ⟨tb, 0, none⟩ = some (.int .i64 why) ∧ w.grownBy w' (some tb) := by
  have c1 := valueOfPG
  have c2 := typePG
  have c3 := kindPG
  have c4 := kindWG
  have c5 := elemPG
  have c6 := implWG
  have hg := hh.2
  have hlt := hh.1
  clear hh
  have hA2 : ∀ (o o' : Obj) (p : Addr), p.block < w.heap.size → ((w.alloc o).alloc o').cell? p = w.cell? p := fun o o' p h => (World.cell?_alloc_lt _ _ p (by simp; omega)).trans (World.cell?_alloc_lt _ _ p h)
  have hF2 : ∀ (o o' : Obj) (p : Addr), p.block < w.heap.size → ((w.alloc o).alloc o').frozen? p = w.frozen? p := fun o o' p h => (World.frozen?_alloc_old _ _ p (by simp; omega)).trans (World.frozen?_alloc_old _ _ p (by omega))
  have c7 := isNilPG ⟨w.heap.size, 0, none⟩ ⟨tb, 0, none⟩
    ((w.alloc (.cells #[.pointer (some ⟨tb, 0, none⟩)] 85)).alloc (.cells #[.pointer (some ⟨1, 85, none⟩), .pointer (some ⟨w.heap.size, 0, none⟩), .int .u64 150] 95))
    ((World.cell?_alloc_lt _ _ _ (by simp)).trans (World.cell?_alloc_at _ _ _ _ rfl))
  have hgA := (hA2 (.cells #[.pointer (some ⟨tb, 0, none⟩)] 85) (.cells #[.pointer (some ⟨1, 85, none⟩), .pointer (some ⟨w.heap.size, 0, none⟩), .int .u64 150] 95) ⟨0, 0, none⟩ hlt).trans hg
  have HA := Lib.hid (as2_hitG why tb w.heap.size
    ((w.alloc (.cells #[.pointer (some ⟨tb, 0, none⟩)] 85)).alloc (.cells #[.pointer (some ⟨1, 85, none⟩), .pointer (some ⟨w.heap.size, 0, none⟩), .int .u64 150] 95))
    ((World.cell?_alloc_lt _ _ _ (by simp)).trans (World.cell?_alloc_at _ _ _ _ rfl)) (by simp; omega) (by simp; omega)
    ((hA2 _ _ _ htb).trans t0) ((hF2 _ _ _ htb).trans f0))
  clear hA2 hF2 t0 f0 htb
  go_enter Tryd.func61, Tryd.ntmps61
  go_wp2_with fail
  refine HA.out.mono ?_
  rintro e w' ⟨rfl, hc, hg2⟩
  have HC := Lib.hid hc
  clear hc
  go_wp2
  go_ret
  exact ⟨rfl, HC.out, ((World.grownBy_alloc _ _ _).trans (World.grownBy_alloc _ _ _)).trans hg2⟩
/-- what is not booked -/
def wrongV (why : Int) : Value := .iface 55 (.agg #[.int .i64 why])
theorem told_w (why : Int) (w : World) (hh : Handle w) :
    Calls Tryd.prog 50 #[wrongV why] w fun e w' => e = .returned (.int .i64 why) ∧ Below w.heap.size w w' := by
  have HH := Lib.hid hh
  clear hh
  unfold wrongV
  go_enter Tryd.func50, Tryd.ntmps50
  go_wp2_with fail
  refine (as_hitG why w.heap.size _ (HH.out.up (below_alloc (Below.refl w.heap.size w) _)) (by simp) (World.cell?_alloc_at _ _ _ _ rfl) ((Blk.new' rfl).frozen 0)).mono ?_
  rintro e w1 ⟨rfl, hc, hg⟩
  have HB : Below w.heap.size w w1 := (below_alloc (Below.refl w.heap.size w) _).grown hg (by simp) (fun k e => by cases e; exact Nat.le_refl _)
  have HB' := Lib.hid HB
  clear HB hg
  go_wp2
  go_ret
  exact ⟨rfl, HB'.out⟩
end Go.Proofs.YtbggaijjgnjknaaDoor
