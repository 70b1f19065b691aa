/-
  errors.As BY ITS CONTRACTS at label's own error: Go's own text is walked; the library's entries by closed facts.
-/
import Derived.Test.YtmbafllkiofhnaaDoorLabA
import Derived.LaidEql
import Derived.Stop.Asserts
import Derived.RowKitTokens
namespace Go.Proofs.YtmbafllkiofhnaaDoor
open Go.RowKit Go.Extern.Stop Go.Stop Go.Extern

theorem as_nil (t : Value) (w : World) :
    Calls Tryd.prog 46 #[.nilIface, t] w fun e w' => e = .returned (.bool false) ∧ w = w' := by
  go_enter Tryd.func46, Tryd.ntmps46
  go_wp2
  go_ret
  exact ⟨rfl, rfl⟩

/-! ### closed facts -/
theorem valueOfP (t : Addr) (w : World) : (callFunc 58 #[.iface 77 (.pointer (some t))]).run Tryd.prog w
    = .ok (.value (.agg #[.pointer (some ⟨2, 77, none⟩), .pointer (some ⟨w.heap.size, 0, none⟩), .int .u64 150])) (w.alloc (.cells #[.pointer (some t)] 77)) := by kernel_rfl
theorem typeP (a : Addr) (w : World) : (callFunc 59 #[.agg #[.pointer (some ⟨2, 77, none⟩), .pointer (some a), .int .u64 150]]).run Tryd.prog w
    = .ok (.value (.iface 95 (.agg #[.pointer (some ⟨2, 77, none⟩)]))) w := by kernel_rfl
theorem kindP (w : World) : (callFunc 78 #[.pointer (some ⟨2, 77, none⟩)]).run Tryd.prog w = .ok (.value (.int .u8 22)) w := by kernel_rfl
theorem kindW (w : World) : (callFunc 78 #[.pointer (some ⟨2, 72, none⟩)]).run Tryd.prog w = .ok (.value (.int .u8 25)) w := by kernel_rfl
theorem elemP (w : World) : (callFunc 90 #[.agg #[.pointer (some ⟨2, 77, none⟩)]]).run Tryd.prog w
    = .ok (.value (.iface 95 (.agg #[.pointer (some ⟨2, 72, none⟩)]))) w := by kernel_rfl
theorem implW (w : World) : (callFunc 91 #[.agg #[.pointer (some ⟨2, 72, none⟩)], .iface 95 (.agg #[.pointer (some ⟨2, 45, none⟩)])]).run Tryd.prog w = .ok (.value (.bool true)) w := by kernel_rfl
theorem typeOfW (v : Value) (w : World) : (callFunc 56 #[.iface 72 v]).run Tryd.prog w
    = .ok (.value (.iface 95 (.agg #[.pointer (some ⟨2, 72, none⟩)]))) w := by kernel_rfl
theorem assignW (w : World) : (callFunc 88 #[.agg #[.pointer (some ⟨2, 72, none⟩)], .iface 95 (.agg #[.pointer (some ⟨2, 72, none⟩)])]).run Tryd.prog w = .ok (.value (.bool true)) w := by kernel_rfl
theorem valueOfW (c0 c1 c2 : Value) (w : World) : (callFunc 58 #[.iface 72 (.agg #[c0, c1, c2])]).run Tryd.prog w
    = .ok (.value (.agg #[.pointer (some ⟨2, 72, none⟩), .pointer (some ⟨w.heap.size, 0, none⟩), .int .u64 153])) (w.alloc (.cells #[c0, c1, c2] 72)) := by kernel_rfl

/-! ### the entries that read or write memory -/
theorem rlm (z : Sem Value) (f : TypeId → Addr → Nat → Nat → Sem Value) (v : Value) :
    ReflectliteValue.method z f #[v] = (do match ← ReflectliteValue.parts v with | none => z | some (t, a, fl) => f t a fl (fl % 32)) := rfl
theorem partsP (a : Addr) (w : World) : (ReflectliteValue.parts (.agg #[.pointer (some ⟨2, 77, none⟩), .pointer (some a), .int .u64 150])).run Tryd.prog w = .ok (some (77, a, 150)) w := by kernel_rfl
theorem isNilP (a p : Addr) (W : World) (ha : W.cell? a = some (.pointer (some p))) :
    (callFunc 60 #[.agg #[.pointer (some ⟨2, 77, none⟩), .pointer (some a), .int .u64 150]]).run Tryd.prog W = .ok (.value (.bool false)) W := by
  rw [@run_callFunc_extern Tryd.prog 60 _ (ReflectliteValue.method (ReflectliteValue.valueError "reflectlite.Value.IsNil" 0) ReflectliteValue.isNil) Tryd.func60 (by kernel_rfl) (by kernel_rfl) (by kernel_rfl) (by kernel_rfl), rlm]
  simp only [Sem.run_bind, partsP, Result.andThen]
  simp [ReflectliteValue.isNil, loadVar, isAgg, underlying, Tryd.underlying77, ha, Result.andThen]
theorem elemOfP (w : World) : (Rtype.elem? 77).run Tryd.prog w = .ok (some 72) w := by kernel_rfl
theorem mkW (p : Addr) (w : World) : (ReflectliteValue.mk 72 p ReflectliteValue.flagAddr).run Tryd.prog w = .ok (.agg #[.pointer (some ⟨2, 72, none⟩), .pointer (some p), .int .u64 409]) w := by kernel_rfl
theorem elemVP (a p : Addr) (W : World) (ha : W.cell? a = some (.pointer (some p))) :
    (callFunc 62 #[.agg #[.pointer (some ⟨2, 77, none⟩), .pointer (some a), .int .u64 150]]).run Tryd.prog W = .ok (.value (.agg #[.pointer (some ⟨2, 72, none⟩), .pointer (some p), .int .u64 409])) W := by
  rw [@run_callFunc_extern Tryd.prog 62 _ (ReflectliteValue.method (ReflectliteValue.valueError "reflectlite.Value.Elem" 0) ReflectliteValue.elem) Tryd.func62 (by kernel_rfl) (by kernel_rfl) (by kernel_rfl) (by kernel_rfl), rlm]
  simp only [Sem.run_bind, partsP, Result.andThen]
  simp [ReflectliteValue.elem, loadVar, isAgg, underlying, Tryd.underlying77, ha, Result.andThen, elemOfP, mkW]
theorem rls (v x : Value) : ReflectliteValue.set #[v, x] = (do
    let (some (dst, a, fl), some (src, b, _)) := (← ReflectliteValue.parts v, ← ReflectliteValue.parts x)
      | unsupported (.noEntry "extern/(internal/reflectlite.Value).Set.zeroValue")
    if fl / ReflectliteValue.flagAddr % 2 == 0 then unsupported (.noEntry "extern/(internal/reflectlite.Value).Set.unaddressable")
    let val ← loadVar src b
    if ← Rtype.directlyAssignable dst src then storeVar dst a val
    else if ← Rtype.implements dst src then
      if (← Rtype.kind src) == 20 then
        match val with
        | .nilIface => unsupported (.noEntry "extern/reflectlite: a nil value of one interface type handed on as a value of another")
        | _ => storeVar dst a val
      else storeVar dst a (.iface src val)
    else panicString ("reflectlite.Set: value of type " ++ (← Rtype.spelt src) ++ " is not assignable to type " ++ (← Rtype.spelt dst))
    pure (.tuple #[])) := rfl
theorem partsWa (a : Addr) (w : World) : (ReflectliteValue.parts (.agg #[.pointer (some ⟨2, 72, none⟩), .pointer (some a), .int .u64 409])).run Tryd.prog w = .ok (some (72, a, 409)) w := by kernel_rfl
theorem partsW (a : Addr) (w : World) : (ReflectliteValue.parts (.agg #[.pointer (some ⟨2, 72, none⟩), .pointer (some a), .int .u64 153])).run Tryd.prog w = .ok (some (72, a, 153)) w := by kernel_rfl
theorem directW (w : World) : (Rtype.directlyAssignable 72 72).run Tryd.prog w = .ok true w := by kernel_rfl
/-- (Value).Set: the three cells from t on get what the Value's own three hold. -/
theorem setW (tb bb : Nat) (n0 n2 : Int) (x1 : BitVec 64) (o0 o1 o2 : Value) (W : World)
    (h0 : W.cell? ⟨bb, 0, none⟩ = some (.int .i64 n0)) (h1 : W.cell? ⟨bb, 1, none⟩ = some (.int .u64 (u x1))) (h2 : W.cell? ⟨bb, 2, none⟩ = some (.int .i64 n2))
    (t0 : W.cell? ⟨tb, 0, none⟩ = some o0) (t1 : W.cell? ⟨tb, 1, none⟩ = some o1) (t2 : W.cell? ⟨tb, 2, none⟩ = some o2)
    (f0 : W.frozen? ⟨tb, 0, none⟩ = false) (f1 : W.frozen? ⟨tb, 1, none⟩ = false) (f2 : W.frozen? ⟨tb, 2, none⟩ = false) :
    (callFunc 63 #[.agg #[.pointer (some ⟨2, 72, none⟩), .pointer (some ⟨tb, 0, none⟩), .int .u64 409], .agg #[.pointer (some ⟨2, 72, none⟩), .pointer (some ⟨bb, 0, none⟩), .int .u64 153]]).run Tryd.prog W
      = .ok (.value (.tuple #[])) (((W.setCell ⟨tb, 0, none⟩ (.int .i64 n0)).setCell ⟨tb, 1, none⟩ (.int .u64 (u x1))).setCell ⟨tb, 2, none⟩ (.int .i64 n2)) := by
  rw [@run_callFunc_extern Tryd.prog 63 _ ReflectliteValue.set Tryd.func63 (by kernel_rfl) (by kernel_rfl) (by kernel_rfl) (by kernel_rfl), rls]
  simp only [Sem.run_bind, partsWa, partsW, Result.andThen]
  simp [ReflectliteValue.flagAddr, Result.andThen, directW]
  go_simp
end Go.Proofs.YtmbafllkiofhnaaDoor
