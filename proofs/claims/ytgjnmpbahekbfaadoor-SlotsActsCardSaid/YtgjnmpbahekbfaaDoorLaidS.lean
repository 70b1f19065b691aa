/-
  WHAT THE LISTED VARIABLES AND THE ARGUMENTS GIVE THE WALKS ON SLOTS.
-/
import Derived.Test.YtgjnmpbahekbfaaDoorSlU
import Derived.Test.YtgjnmpbahekbfaaDoorClose
import Derived.Lib.SmallJoins
import Derived.Stop.LaidTwo
namespace Go.Proofs.YtgjnmpbahekbfaaDoor
open Go.ChangeShapes Go.WideShapes Go.ChangeAt Go.RowKit

theorem own : ownKnob Tryd.prog.godebug = none := by kernel_rfl
theorem cellsHd : Tryd.prog.cellsOf 28 = 2 := by kernel_rfl
set_option maxRecDepth 100000 in
theorem hd_of {H : Type} {enc : TypeId × Value → H} {W : World} {base b : Nat} {v : Value} {d : DataW H} {p : List MemPlace} (hval : Value.okWide Tryd.prog W .any base 28 v)
    (h : DataW.Trod enc Tryd.prog W b (fun _ => true) true 28 v d p) : ∃ x : Hd, v = .agg #[.int .i64 x.slot, .int .i64 x.gen] := by
  obtain ⟨c0, c1, y0, y1, m, rfl, _, _, hy0, hy1⟩ := Joins.open_agg2 Tryd.underlying28 (by kernel_rfl) cellsHd hval h
  obtain ⟨x, e0, _, wx⟩ := DataW.trod_int Tryd.underlying3 hy0
  obtain ⟨z, e1, _, wz⟩ := DataW.trod_int Tryd.underlying3 hy1
  simp at e0 e1
  subst e0 e1
  exact ⟨⟨x, z⟩, rfl⟩
theorem gErr0 : Tryd.prog.globalNamed "plimsoll/slots.errSlots" = some 0 := by kernel_rfl
theorem gErr1 : Tryd.prog.globalNamed "plimsoll/slots.errStale" = some 1 := by kernel_rfl
theorem gErrType0 : (Tryd.prog.globals[0]?).map (·.type) = some 61 := by kernel_rfl
theorem gErrType1 : (Tryd.prog.globals[1]?).map (·.type) = some 61 := by kernel_rfl
theorem cellsES : Tryd.prog.cellsOf 130 = 1 := by kernel_rfl
theorem cellsStr : Tryd.prog.cellsOf 9 = 1 := by kernel_rfl
theorem star : "*" ++ "errors.errorString" = "*errors.errorString" := by decide
theorem rowES (t : TypeId) (h : Tryd.prog.typeName? 3 t = some "*errors.errorString") : t = 105 :=
  typeName_ptr_named (nm := "errors.errorString") (by rw [star]; kernel_rfl) (by kernel_rfl) (by decide) t (by rw [star]; exact h)
theorem sentS_of {W : World} {rest : List (String × DataW Unit)} (h : laidMet Tryd.prog (("plimsoll/slots.errSlots", Rows.laid_plimsoll_slots_errSlots) :: ("plimsoll/slots.errStale", Rows.laid_plimsoll_slots_errStale) :: rest) W) : ∃ ea eb, SentS W ea eb := by
  obtain ⟨a0, a1, _, _, c0, c1, t0, t1, v0, v1, _, _, _, _, _, _, hne, h0, h1⟩ := laid_sentinels2 h gErr0 gErrType0 gErr1 gErrType1 Tryd.underlying61 rowES Tryd.underlying105 Tryd.underlying130 rfl rfl Tryd.underlying9 cellsES cellsStr
  exact ⟨a0, a1, by unfold errE; simpa using World.var?_cell gErr0 v0 0, by unfold errE; simpa using World.var?_cell gErr1 v1 0, hne, ⟨c0, t0, h0⟩, ⟨c1, t1, h1⟩⟩
end Go.Proofs.YtgjnmpbahekbfaaDoor
