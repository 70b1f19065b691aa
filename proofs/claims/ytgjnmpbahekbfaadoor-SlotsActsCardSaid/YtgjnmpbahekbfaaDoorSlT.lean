/-
  PACKAGE slots: the heaps that 'shown' meets.
-/
import Derived.Test.YtgjnmpbahekbfaaDoorSlR
namespace Go.Proofs.YtgjnmpbahekbfaaDoor
open Go.RowKit

theorem heapN1 : heapN 1 = [0] := by
  show upL [0] 0 = [0]
  exact upL_zero _
theorem heapN2 : heapN 2 = [0, 1] := by
  show upL (heapN 1 ++ [1]) (heapN 1).length = [0, 1]
  rw [heapN1]
  exact upL_no (k := 0) (by decide)
theorem pop01 : popL [0, 1] = [1, 0] := by
  show downL (swapL [0, 1] 0 1) 0 1 = [1, 0]
  rw [downL_end (by decide)]; rfl
theorem pop1 (x : Int) : popL [x] = [x] := by
  show downL (swapL [x] 0 0) 0 0 = [x]
  rw [downL_end (by decide)]; rfl
theorem up0 : upL ([] ++ [((0 : Nat) : Int)]) ([] : List Int).length = [0] := upL_zero _
end Go.Proofs.YtgjnmpbahekbfaaDoor
