/-
  WHAT THE LISTED VARIABLE AND THE ARGUMENTS GIVE THE WALKS ON LEDGERS.
-/
import Derived.Test.YtbggaijjgnjknaaDoorLgT
import Derived.Test.YtbggaijjgnjknaaDoorClose
import Derived.Lib.SmallJoins
import Derived.LaidHandle
namespace Go.Proofs.YtbggaijjgnjknaaDoor
open Go.ChangeShapes Go.WideShapes Go.ChangeAt Go.RowKit

theorem own : ownKnob Tryd.prog.godebug = none := by kernel_rfl
theorem gErrT : Tryd.prog.globalNamed "errors.errorType" = some 0 := by kernel_rfl
theorem rtypeT : (Tryd.prog.cutTypes.find? (·.1 == "internal/reflectlite.rtype")).map (·.2) = some 105 := by kernel_rfl
theorem oneErr : ((List.range Tryd.prog.types.size).filter fun t => Tryd.prog.rowNamed t [101, 114, 114, 111, 114]) = [51] := by kernel_rfl
theorem errHandle : typeHandle Tryd.prog 51 = .pointer (some ⟨1, 51, none⟩) := by kernel_rfl
theorem handle_of {W : World} (h : handlesMet Tryd.prog [("errors.errorType", Rows.laid_errors_errorType)] W) : Handle W := by
  obtain ⟨name, u, ty, e1, e2, e3, e4, e5⟩ := h _ (List.mem_singleton.2 rfl)
  have en : name = [101, 114, 114, 111, 114] := (Option.some.inj e1).symm
  subst en
  obtain rfl := Option.some.inj (rtypeT.symm.trans e2)
  have hm : ty ∈ (List.range Tryd.prog.types.size).filter fun t => Tryd.prog.rowNamed t [101, 114, 114, 111, 114] := List.mem_filter.2 ⟨List.mem_range.2 e3, e4⟩
  rw [oneErr] at hm
  obtain rfl := List.mem_singleton.1 hm
  rw [errHandle] at e5
  have hc : W.cell? ⟨0, 0, none⟩ = some (.iface 105 (.agg #[.pointer (some ⟨1, 51, none⟩)])) := by simpa using World.var?_cell gErrT e5 0
  exact ⟨World.block_lt_of_cell? _ _ hc, hc⟩
theorem cellsLab : Tryd.prog.cellsOf 25 = 3 := by kernel_rfl
set_option maxRecDepth 100000 in
theorem lab_of {H : Type} {enc : TypeId × Value → H} {W : World} {base b : Nat} {v : Value} {d : DataW H} {p : List MemPlace} (hval : Value.okWide Tryd.prog W .any base 25 v)
    (h : DataW.Trod enc Tryd.prog W b (fun _ => true) true 25 v d p) : ∃ a : Lab, v = .agg #[.int .i64 a.lv, .int .u64 (u a.c), .int .i64 a.ig] := by
  obtain ⟨c0, c1, c2, y0, y1, y2, m, rfl, _, _, hy0, hy1, hy2⟩ := Joins.open_agg3 Tryd.underlying25 (by kernel_rfl) cellsLab hval h
  obtain ⟨x, e0, _, wx⟩ := DataW.trod_int Tryd.underlying3 hy0
  obtain ⟨y, e1, _, wy⟩ := DataW.trod_int Tryd.underlying23 hy1
  obtain ⟨z, e2, _, wz⟩ := DataW.trod_int Tryd.underlying3 hy2
  simp at e0 e1 e2
  subst e0 e1 e2
  obtain ⟨c, rfl⟩ := u_of_wf wy
  exact ⟨⟨x, c, z⟩, rfl⟩
end Go.Proofs.YtbggaijjgnjknaaDoor
