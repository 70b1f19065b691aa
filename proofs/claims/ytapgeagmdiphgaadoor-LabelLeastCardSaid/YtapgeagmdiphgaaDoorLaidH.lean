/-
  WHAT THE LISTED VARIABLE errors.errorType GIVES THE WALKS.
-/
import Derived.Test.YtapgeagmdiphgaaDoorLabF
import Derived.Test.YtapgeagmdiphgaaDoorClose
import Derived.LaidHandle
namespace Go.Proofs.YtapgeagmdiphgaaDoor
open Go.ChangeShapes Go.WideShapes Go.ChangeAt Go.RowKit

theorem own : ownKnob Tryd.prog.godebug = none := by kernel_rfl
theorem gErrT : Tryd.prog.globalNamed "errors.errorType" = some 0 := by kernel_rfl
theorem rtypeT : (Tryd.prog.cutTypes.find? (·.1 == "internal/reflectlite.rtype")).map (·.2) = some 80 := by kernel_rfl
theorem oneErr : ((List.range Tryd.prog.types.size).filter fun t => Tryd.prog.rowNamed t [101, 114, 114, 111, 114]) = [38] := by kernel_rfl
theorem errHandle : typeHandle Tryd.prog 38 = .pointer (some ⟨1, 38, none⟩) := by kernel_rfl
theorem handle_of {W : World} (h : handlesMet Tryd.prog [("errors.errorType", Rows.laid_errors_errorType)] W) : Handle W := by
  obtain ⟨name, u, ty, e1, e2, e3, e4, e5⟩ := h _ (List.mem_singleton.2 rfl)
  have en : name = [101, 114, 114, 111, 114] := (Option.some.inj e1).symm
  subst en
  obtain rfl := Option.some.inj (rtypeT.symm.trans e2)
  have hm : ty ∈ (List.range Tryd.prog.types.size).filter fun t => Tryd.prog.rowNamed t [101, 114, 114, 111, 114] := List.mem_filter.2 ⟨List.mem_range.2 e3, e4⟩
  rw [oneErr] at hm
  obtain rfl := List.mem_singleton.1 hm
  rw [errHandle] at e5
  have hc : W.cell? ⟨0, 0, none⟩ = some (.iface 80 (.agg #[.pointer (some ⟨1, 38, none⟩)])) := by simpa using World.var?_cell gErrT e5 0
  exact ⟨World.block_lt_of_cell? _ _ hc, hc⟩
end Go.Proofs.YtapgeagmdiphgaaDoor
