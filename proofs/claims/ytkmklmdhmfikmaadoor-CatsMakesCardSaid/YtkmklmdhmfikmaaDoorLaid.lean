/-
  WHAT THE LISTED VARIABLES GIVE THE WALKS: the sentinel's cell (and the table's).
-/
import Derived.Test.YtkmklmdhmfikmaaDoorClose
import Derived.Test.YtkmklmdhmfikmaaDoorCatS
namespace Go.Proofs.YtkmklmdhmfikmaaDoor
open Go.ChangeShapes Go.WideShapes Go.ChangeAt Go.RowKit

theorem own : ownKnob Tryd.prog.godebug = none := by kernel_rfl
theorem gErr : Tryd.prog.globalNamed "plimsoll/cats.errCats" = some 0 := by kernel_rfl
theorem gErrType : (Tryd.prog.globals[0]?).map (·.type) = some 43 := by kernel_rfl
theorem cellsES : Tryd.prog.cellsOf 97 = 1 := by kernel_rfl
theorem cellsStr : Tryd.prog.cellsOf 9 = 1 := by kernel_rfl
theorem star : "*" ++ "errors.errorString" = "*errors.errorString" := by decide
theorem rowES (t : TypeId) (h : Tryd.prog.typeName? 3 t = some "*errors.errorString") : t = 71 :=
  typeName_ptr_named (nm := "errors.errorString") (by rw [star]; kernel_rfl) (by kernel_rfl) (by decide) t (by rw [star]; exact h)

theorem sent_of {W : World} {rest : List (String × DataW Unit)} (h : laidMet Tryd.prog (("plimsoll/cats.errCats", Rows.laid_plimsoll_cats_errCats) :: rest) W) : ∃ a, Sent W a := by
  obtain ⟨a, s, hv, _⟩ := laid_sentinel h gErr gErrType Tryd.underlying43 rowES Tryd.underlying71 Tryd.underlying97 rfl rfl Tryd.underlying9 cellsES cellsStr
  exact ⟨a, by unfold Sent; simpa using World.var?_cell gErr hv 0⟩
end Go.Proofs.YtkmklmdhmfikmaaDoor
