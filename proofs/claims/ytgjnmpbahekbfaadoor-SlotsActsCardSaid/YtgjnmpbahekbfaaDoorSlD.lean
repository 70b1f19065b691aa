/-
  PACKAGES sync/atomic, container/heap, slots: the counter; Push, Pop of a heap of numbers.
-/
import Derived.Test.YtgjnmpbahekbfaaDoorSlC
import Derived.Lib.BufferMore
import Derived.Laws.EntriesVeiled
namespace Go.Proofs.YtgjnmpbahekbfaaDoor
open Go.RowKit Go.Extern

attribute [local go_sem] mLess mSwap mLen mPush mPop

theorem rlLoad (v : Value) : Atomic.loadT (.int .i64) #[v] = (do Atomic.read (.int .i64) (← asAddr v)) := rfl
theorem rlAdd (v y : Value) : Atomic.update (Op.intArith .add) .i64 true #[v, y] = (do
    let a ← asAddr v
    let old ← Atomic.read (.int .i64) a
    let new ← Op.intArith .add .i64 (← asInt old) (← asInt y)
    store a new .atomic
    pure new) := rfl
theorem read64 (a : Addr) (n : Int) (W : World) (ha : W.cell? a = some (.int .i64 n)) : (Atomic.read (.int .i64) a).run Tryd.prog W = .ok (.int .i64 n) W := by
  unfold Atomic.read
  simp [ha, Result.andThen]
theorem load64 (a : Addr) (n : Int) (W : World) (ha : W.cell? a = some (.int .i64 n)) :
    (callFunc 34 #[.pointer (some a)]).run Tryd.prog W = .ok (.value (.int .i64 n)) W := by
  rw [@run_callFunc_extern Tryd.prog 34 _ (Atomic.loadT (.int .i64)) Tryd.func34 (by kernel_rfl) (by kernel_rfl) (by kernel_rfl) (by kernel_rfl), rlLoad]
  simp [asAddr, read64 a n W ha, Result.andThen]
theorem add64 (a : Addr) (n d : Int) (W : World) (ha : W.cell? a = some (.int .i64 n)) (hf : W.frozen? a = false) :
    (callFunc 37 #[.pointer (some a), .int .i64 d]).run Tryd.prog W = .ok (.value (.int .i64 (IntKind.i64.wrap (n + d)))) (W.setCell a (.int .i64 (IntKind.i64.wrap (n + d)))) := by
  rw [@run_callFunc_extern Tryd.prog 37 _ (Atomic.update (Op.intArith .add) .i64 true) Tryd.func37 (by kernel_rfl) (by kernel_rfl) (by kernel_rfl) (by kernel_rfl), rlAdd]
  simp only [Sem.run_bind, asAddr, Sem.run_pure, Result.andThen_ok, read64 a n W ha, Op.intArith]
  simp [asInt, asIntOf, Result.andThen]
  go_simp
end Go.Proofs.YtgjnmpbahekbfaaDoor
