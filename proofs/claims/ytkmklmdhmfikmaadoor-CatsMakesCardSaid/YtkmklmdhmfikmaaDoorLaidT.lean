/-
  A LIST OF INTEGERS THAT CAME IN, AND DE BRUIJN's TABLE, as the walks ask for them.
-/
import Derived.Test.YtkmklmdhmfikmaaDoorLaid
import Derived.Test.YtkmklmdhmfikmaaDoorCatV
namespace Go.Proofs.YtkmklmdhmfikmaaDoor
open Go.ChangeShapes Go.WideShapes Go.ChangeAt Go.RowKit

theorem slice_addr {P : Program} {W : World} {base : Nat} {t e : TypeId} {a : Addr} {len cap : Nat} (ht : P.underlying t = some (.slice e)) (h : Value.okWide P W .any base t (.slice (some a) len cap)) :
    a.spot = none ∧ a.block < W.heap.size ∧ len ≤ cap ∧ (cap : Int) ≤ IntKind.i64.max := by
  simp only [Value.okWide, ht, Cell.okWide, Cell.ok, World.has] at h
  obtain ⟨h1, h2, _, h3, row, cells, h4, _⟩ := h
  refine ⟨h3, ?_, h1, h2⟩
  rcases Nat.lt_or_ge a.block W.heap.size with h' | h'
  · exact h'
  · simp [World.shape?, Array.getElem?_eq_none h'] at h4
theorem cellsInt : Tryd.prog.cellsOf 3 = 1 := by kernel_rfl
theorem ints_of {H : Type} {enc : TypeId × Value → H} {W : World} {base : Nat} {v : Value} {d : DataW H} {p : List MemPlace} (hval : Value.okWide Tryd.prog W .any base 32 v)
    (h : DataW.Trod enc Tryd.prog W 0 (fun _ => true) true 32 v d p) : ∃ l, IntsAt W.heap.size W v l := by
  obtain ⟨a0, len, cap, rfl⟩ := okWide_slice Tryd.underlying32 hval
  obtain ⟨fuel, hf⟩ := h
  rcases open_ints Tryd.underlying32 Tryd.underlying3 cellsInt hf with ⟨hcs, hx⟩ | ⟨a, len', cap', zs, hcs, _, hl, hm, hz, hx, hcell, hwz⟩
  · simp only [Value.cells, List.cons.injEq, Value.slice.injEq, and_true] at hcs
    obtain ⟨rfl, rfl, rfl⟩ := hcs
    exact ⟨[], .inl ⟨rfl, rfl⟩⟩
  · simp only [Value.cells, List.cons.injEq, Value.slice.injEq, and_true] at hcs
    obtain ⟨rfl, rfl, rfl⟩ := hcs
    obtain ⟨hs, hb, _, hcap⟩ := slice_addr Tryd.underlying32 hval
    obtain ⟨b, off, spot⟩ := a
    obtain rfl : spot = none := hs
    rw [if_pos rfl] at hz
    have hlen : (zs.take len).length = len := by rw [List.length_take]; omega
    have hmax : (IntKind.i64.max : Int) = 9223372036854775807 := by decide
    refine ⟨zs.take len, .inr ⟨b, off, cap, by rw [hlen], hb, by rw [hlen]; omega, by rw [hlen]; exact hl, fun k hk => ?_⟩⟩
    rw [hlen] at hk
    have := hcell k (by omega)
    rw [Go.WideShapes.add_plain] at this
    rw [this, List.getElem?_take, if_pos hk]
    rfl
theorem gTab : Tryd.prog.globalNamed "math/bits.deBruijn64tab" = some 1 := by kernel_rfl
theorem gTabType : (Tryd.prog.globals[1]?).map (·.type) = some 55 := by kernel_rfl
theorem cellsTab : Tryd.prog.cellsOf 55 = 64 := by kernel_rfl
theorem cellsU8 : Tryd.prog.cellsOf 5 = 1 := by kernel_rfl
theorem tab_of {W : World} {rest : List (String × DataW Unit)} (h : laidMet Tryd.prog (("math/bits.deBruijn64tab", Rows.laid_math_bits_deBruijn64tab) :: rest) W) : TabIn W := by
  have hT : Lib.TabIs Tryd.prog W "math/bits.deBruijn64tab" .u8 tab64 := Lib.tabIs_of_head gTab gTabType Tryd.underlying55 Tryd.underlying5 cellsU8 cellsTab h
  have hc : ∀ i, i < 64 → W.cell? ⟨1, i, none⟩ = some (.int .u8 (tab64[i]?.getD 0)) := fun i hi => by
    have := hT.cell gTab i hi
    rw [this, List.getD_eq_getElem?_getD]
  refine ⟨?_, hc⟩
  rcases Nat.lt_or_ge 1 W.heap.size with h' | h'
  · exact h'
  · have := hc 0 (by omega)
    simp [World.cell?, Array.getElem?_eq_none h'] at this
theorem both_of {W : World} (h : laidMet Tryd.prog [("math/bits.deBruijn64tab", Rows.laid_math_bits_deBruijn64tab), ("plimsoll/cats.errCats", Rows.laid_plimsoll_cats_errCats)] W) : ∃ a, Sent W a ∧ TabIn W := by
  obtain ⟨a, hs⟩ := sent_of h.tail
  exact ⟨a, hs, tab_of h⟩
end Go.Proofs.YtkmklmdhmfikmaaDoor
