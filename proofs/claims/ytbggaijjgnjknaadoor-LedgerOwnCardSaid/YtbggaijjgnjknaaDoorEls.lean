/-
  SOME CELLS OF A ROW IN MEMORY, read and never written; no program in sight.
-/
import Derived.Test.YtbggaijjgnjknaaDoorStep
import Derived.Test.YtbggaijjgnjknaaDoorRange
namespace Go.Proofs.YtbggaijjgnjknaaDoor
open Go.RowKit

/-- from place o on block b holds the cells cs -/
def Els (w : World) (b o : Nat) (cs : Array Value) : Prop := b < w.heap.size ∧ ∀ (j : Nat) (v : Value), cs[j]? = some v → w.cell? ⟨b, o + j, none⟩ = some v
theorem Els.lt {w : World} {b o : Nat} {cs : Array Value} (h : Els w b o cs) : b < w.heap.size := h.1
theorem Els.at_ {w : World} {b o : Nat} {cs : Array Value} (h : Els w b o cs) {i : Nat} {v : Value} (hv : cs[i]? = some v) : w.cell? ⟨b, o + i, none⟩ = some v := h.2 i v hv
theorem Els.drew {w : World} {b o : Nat} {cs : Array Value} (h : Els w b o cs) : Els w.drew b o cs := h
theorem Els.alloc {w : World} {b o : Nat} {cs : Array Value} (h : Els w b o cs) (x : Obj) : Els (w.alloc x) b o cs :=
  ⟨by have := h.1; simp; omega, fun j v hv => (World.cell?_alloc_lt w x ⟨b, o + j, none⟩ h.1).trans (h.2 j v hv)⟩
theorem Els.after {w w' : World} {b o : Nat} {cs : Array Value} (h : Els w b o cs) (hb : Below w.heap.size w w') : Els w' b o cs :=
  ⟨Nat.lt_of_lt_of_le h.1 hb.size, fun j v hv => (hb.cell (p := ⟨b, o + j, none⟩) h.1).trans (h.2 j v hv)⟩
theorem Els.far {w : World} {b g i o : Nat} {cs : Array Value} (h : Els w b o cs) (hne : b ≠ g) (u : Value) : Els (w.setCell ⟨g, i, none⟩ u) b o cs :=
  ⟨by have := h.1; simpa [World.setCell] using this, fun j v hv => (World.cell?_setCell_other w ⟨g, i, none⟩ ⟨b, o + j, none⟩ u (fun e => hne (by cases e; rfl))).trans (h.2 j v hv)⟩
theorem Els.realloc {w : World} {b o : Nat} {cs : Array Value} {x y : Obj} (h : Els (w.alloc x) b o cs) (hne : b ≠ w.heap.size) : Els (w.alloc y) b o cs := by
  have hlt : b < w.heap.size := by have := h.1; simp at this; omega
  exact ⟨by simp; omega, fun j v hv => (World.cell?_alloc_lt w y ⟨b, o + j, none⟩ hlt).trans ((World.cell?_alloc_lt w x ⟨b, o + j, none⟩ hlt).symm.trans (h.2 j v hv))⟩
theorem Els.turned {W W' : World} {b g o : Nat} {cs : Array Value} (h : Els W b o cs) (k : Turns (· = g) W W') (hne : b ≠ g) : Els W' b o cs :=
  ⟨Nat.lt_of_lt_of_le h.1 k.size, fun j v hv => (k.moves 0).cell (p := ⟨b, o + j, none⟩) (h.2 j v hv) hne⟩
theorem Els.of3 {w : World} {b o : Nat} {x y z : Value} (hx : w.cell? ⟨b, o, none⟩ = some x) (hy : w.cell? ⟨b, o + 1, none⟩ = some y) (hz : w.cell? ⟨b, o + 2, none⟩ = some z) : Els w b o #[x, y, z] :=
  ⟨World.block_lt_of_cell? _ _ hx, fun j v hv => by
    match j with
    | 0 => cases hv; exact hx
    | 1 => cases hv; exact hy
    | 2 => cases hv; exact hz
    | j + 3 => simp at hv⟩
end Go.Proofs.YtbggaijjgnjknaaDoor
