/-
  WHAT THE LISTED VARIABLES AND THE ARGUMENTS GIVE THE WALKS ON CEILINGS.
-/
import Derived.Test.YtmbafllkiofhnaaDoorCeiB
import Derived.Test.YtmbafllkiofhnaaDoorClose
import Derived.Lib.SmallJoins
import Derived.LaidHandle
namespace Go.Proofs.YtmbafllkiofhnaaDoor
open Go.ChangeShapes Go.WideShapes Go.ChangeAt Go.RowKit

theorem own : ownKnob Tryd.prog.godebug = none := by kernel_rfl
theorem gErrT : Tryd.prog.globalNamed "errors.errorType" = some 1 := by kernel_rfl
theorem rtypeT : (Tryd.prog.cutTypes.find? (·.1 == "internal/reflectlite.rtype")).map (·.2) = some 95 := by kernel_rfl
theorem oneErr : ((List.range Tryd.prog.types.size).filter fun t => Tryd.prog.rowNamed t [101, 114, 114, 111, 114]) = [45] := by kernel_rfl
theorem errHandle : typeHandle Tryd.prog 45 = .pointer (some ⟨2, 45, none⟩) := by kernel_rfl
theorem handle_of {W : World} (h : handlesMet Tryd.prog [("errors.errorType", Rows.laid_errors_errorType)] W) : Handle W := by
  obtain ⟨name, u, ty, e1, e2, e3, e4, e5⟩ := h _ (List.mem_singleton.2 rfl)
  have en : name = [101, 114, 114, 111, 114] := (Option.some.inj e1).symm
  subst en
  obtain rfl := Option.some.inj (rtypeT.symm.trans e2)
  have hm : ty ∈ (List.range Tryd.prog.types.size).filter fun t => Tryd.prog.rowNamed t [101, 114, 114, 111, 114] := List.mem_filter.2 ⟨List.mem_range.2 e3, e4⟩
  rw [oneErr] at hm
  obtain rfl := List.mem_singleton.1 hm
  rw [errHandle] at e5
  have hc : W.cell? ⟨1, 0, none⟩ = some (.iface 95 (.agg #[.pointer (some ⟨2, 45, none⟩)])) := by simpa using World.var?_cell gErrT e5 0
  exact ⟨World.block_lt_of_cell? _ _ hc, hc⟩
theorem cellsLab : Tryd.prog.cellsOf 24 = 3 := by kernel_rfl
set_option maxRecDepth 100000 in
theorem lab_of {H : Type} {enc : TypeId × Value → H} {W : World} {base b : Nat} {v : Value} {d : DataW H} {p : List MemPlace} (hval : Value.okWide Tryd.prog W .any base 24 v)
    (h : DataW.Trod enc Tryd.prog W b (fun _ => true) true 24 v d p) : ∃ a : Lab, v = .agg #[.int .i64 a.lv, .int .u64 (u a.c), .int .i64 a.ig] := by
  obtain ⟨c0, c1, c2, y0, y1, y2, m, rfl, _, _, hy0, hy1, hy2⟩ := Joins.open_agg3 Tryd.underlying24 (by kernel_rfl) cellsLab hval h
  obtain ⟨x, e0, _, wx⟩ := DataW.trod_int Tryd.underlying3 hy0
  obtain ⟨y, e1, _, wy⟩ := DataW.trod_int Tryd.underlying22 hy1
  obtain ⟨z, e2, _, wz⟩ := DataW.trod_int Tryd.underlying3 hy2
  simp at e0 e1 e2
  subst e0 e1 e2
  obtain ⟨c, rfl⟩ := u_of_wf wy
  exact ⟨⟨x, c, z⟩, rfl⟩
theorem gErr : Tryd.prog.globalNamed "plimsoll/ceiling.errCeiling" = some 0 := by kernel_rfl
theorem gErrType : (Tryd.prog.globals[0]?).map (·.type) = some 45 := by kernel_rfl
theorem cellsES : Tryd.prog.cellsOf 131 = 1 := by kernel_rfl
theorem cellsStr : Tryd.prog.cellsOf 9 = 1 := by kernel_rfl
theorem star : "*" ++ "errors.errorString" = "*errors.errorString" := by decide
theorem rowES (t : TypeId) (h : Tryd.prog.typeName? 3 t = some "*errors.errorString") : t = 109 :=
  typeName_ptr_named (nm := "errors.errorString") (by rw [star]; kernel_rfl) (by kernel_rfl) (by decide) t (by rw [star]; exact h)

theorem sentC_of {W : World} {rest : List (String × DataW Unit)} (h : laidMet Tryd.prog (("plimsoll/ceiling.errCeiling", Rows.laid_plimsoll_ceiling_errCeiling) :: rest) W) : ∃ a, SentC W a := by
  obtain ⟨a, s, hv, _⟩ := laid_sentinel h gErr gErrType Tryd.underlying45 rowES Tryd.underlying109 Tryd.underlying131 rfl rfl Tryd.underlying9 cellsES cellsStr
  exact ⟨a, by unfold SentC; simpa using World.var?_cell gErr hv 0⟩
end Go.Proofs.YtmbafllkiofhnaaDoor
