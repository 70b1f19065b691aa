/-
  WORDS FOR MEMORY that the printed walks use: a block known whole, what lay before the call, an operation of a region written out; no program in sight.
-/
import Derived.Below
import Derived.Laws.OwnMore
import Derived.Laws.Rows
import Derived.Lib.Hide
import Derived.Deep.RegionHeld
namespace Go.Proofs.YtbggaijjgnjknaaDoor
open Go.RowKit

/-- block g is just the cells cs, none frozen -/
def Blk (w : World) (g : Nat) (t : TypeId) (cs : Array Value) : Prop := w.heap[g]? = some (.cells cs t (0, 0))
theorem Blk.lt {w : World} {g : Nat} {t : TypeId} {cs : Array Value} (h : Blk w g t cs) : g < w.heap.size := by
  rcases Nat.lt_or_ge g w.heap.size with hlt | hge
  · exact hlt
  · unfold Blk at h; rw [Array.getElem?_eq_none hge] at h; cases h
theorem Blk.cell {w : World} {g : Nat} {t : TypeId} {cs : Array Value} (h : Blk w g t cs) (i : Nat) : w.cell? ⟨g, i, none⟩ = cs[i]? := cell_of_row w g i cs t (0, 0) h
theorem Blk.at_ {w : World} {g : Nat} {t : TypeId} {cs : Array Value} (h : Blk w g t cs) {i : Nat} {v : Value} (hv : cs[i]? = some v) : w.cell? ⟨g, i, none⟩ = some v := (h.cell i).trans hv
theorem Blk.frozen {w : World} {g : Nat} {t : TypeId} {cs : Array Value} (h : Blk w g t cs) (i : Nat) : w.frozen? ⟨g, i, none⟩ = false := by
  unfold Blk at h
  simp [World.frozen?, h]
theorem Blk.new' {w : World} {g : Nat} {t : TypeId} {cs : Array Value} (hg : g = w.heap.size) : Blk (w.alloc (.cells cs t)) g t cs := by
  subst hg
  show (w.heap.push _)[w.heap.size]? = _
  simp
theorem Blk.drew {w : World} {g : Nat} {t : TypeId} {cs : Array Value} (h : Blk w g t cs) : Blk w.drew g t cs := h
theorem Blk.alloc {w : World} {g : Nat} {t : TypeId} {cs : Array Value} (h : Blk w g t cs) (o : Obj) : Blk (w.alloc o) g t cs := (Below.heap_alloc w o g h.lt).trans h
theorem Blk.set' {w : World} {g i : Nat} {t : TypeId} {cs cs' : Array Value} {u : Value} (h : Blk w g t cs) (hc : cs.setIfInBounds i u = cs') : Blk (w.setCell ⟨g, i, none⟩ u) g t cs' := by
  subst hc
  unfold Blk at h ⊢
  simp [World.setCell, Array.getElem?_modify, h]
theorem Blk.far {w : World} {g b i : Nat} {t : TypeId} {cs : Array Value} (h : Blk w g t cs) (hp : g ≠ b) (u : Value) : Blk (w.setCell ⟨b, i, none⟩ u) g t cs := (Below.heap_setCell w ⟨b, i, none⟩ u g hp).trans h
theorem Blk.below {B : Nat} {w w' : World} {g : Nat} {t : TypeId} {cs : Array Value} (h : Blk w g t cs) (hb : Below B w w') (hg : g < B) : Blk w' g t cs := (hb.block g hg).trans h
theorem Blk.after {w w' : World} {g : Nat} {t : TypeId} {cs : Array Value} (h : Blk w g t cs) (hb : Below w.heap.size w w') : Blk w' g t cs := h.below hb h.lt
theorem Blk.grown {w w' : World} {row : Option Nat} {g : Nat} {t : TypeId} {cs : Array Value} (h : Blk w g t cs) (hb : w.grownBy w' row) (hg : some g ≠ row) : Blk w' g t cs := (hb.block g h.lt hg).trans h
theorem Blk.isCells {w : World} {g : Nat} {t : TypeId} {cs : Array Value} (h : Blk w g t cs) : w.heap[g]? = some (.cells cs t (0, 0)) := h

/-- what lay when the call began lies as it lay -/
theorem below_alloc {w W : World} (h : Below w.heap.size w W) (o : Obj) : Below w.heap.size w (W.alloc o) := h.alloc h.size o
theorem below_set {w W : World} {b i : Nat} (h : Below w.heap.size w W) (hb : w.heap.size ≤ b) (u : Value) : Below w.heap.size w (W.setCell ⟨b, i, none⟩ u) := h.setCell hb u
theorem below_call {w W W' : World} (h : Below w.heap.size w W) (k : Below W.heap.size W W') : Below w.heap.size w W' := h.trans (k.mono h.size)

/-- a store into the block made last: the block made anew -/
theorem Blk.realloc {w : World} {g : Nat} {t : TypeId} {cs : Array Value} {o o' : Obj} (h : Blk (w.alloc o) g t cs) (hg : g ≠ w.heap.size) : Blk (w.alloc o') g t cs := by
  have hlt : g < w.heap.size := by have := h.lt; simp at this; omega
  have h0 : Blk w g t cs := (Below.heap_alloc w o g hlt).symm.trans h
  exact h0.alloc o'
theorem below_realloc {w W : World} {o o' : Obj} (h : Below w.heap.size w (W.alloc o)) (hs : w.heap.size ≤ W.heap.size) : Below w.heap.size w (W.alloc o') :=
  ⟨h.os, h.tape, h.output, by simpa using h.size, fun k hk => (Below.heap_alloc W o' k (by omega)).trans ((Below.heap_alloc W o k (by omega)).symm.trans (h.block k hk))⟩
/-- an operation of a region, written out (not left as an element of the row) -/
theorem op_at {α : Type} {xs : Array α} {i : Nat} {x : α} {rest : List α} (h : xs.toList.drop i = x :: rest) : xs[i]? = some x := by
  rw [← Array.getElem?_toList, ← List.head?_drop, h]; rfl
/-- a region that draws its order, walked in one order, from a world of which S alone is known -/
theorem wp_region_gen {P : Program} {ops : Array Oper} {Q : Exit → Act → World → Prop} {S : World → Prop} {id : Nat} {a : Act} {w : World} (hm : P.follows .mixedOrders = true) (hS : S w.drew)
    (h : ∀ W, S W → wpAnyH P .any ops Q S ops.size (Array.replicate ops.size false) a W) : (Code.region id ops true).wp P Q a w :=
  wp_region_held_drew hm hS (fun hs => h _ hs)
theorem wp_region_gen2 {P : Program} {ops : Array Oper} {Q : Exit → Act → World → Prop} {S N : World → Prop} {id : Nat} {a : Act} {w : World} (hm : P.follows .mixedOrders = true) (hS : S w.drew) (hN : N w.drew)
    (h : ∀ W, S W → N W → wpAnyH P .any ops Q S ops.size (Array.replicate ops.size false) a W) : (Code.region id ops true).wp P Q a w :=
  wp_region_held_drew hm hS (fun hs => h _ hs hN)
end Go.Proofs.YtbggaijjgnjknaaDoor
