/-
  STATEMENT SlotsActs: the program's slots and the reference's side by side in memory.
-/
import Derived.Test.YtgjnmpbahekbfaaDoorSlOa
namespace Go.Proofs.YtgjnmpbahekbfaaDoor
open Go.RowKit

/-- the slots and the reference's slots, as they lie -/
structure ActM (w W : World) (base sb gb tb : Nat) (vr : Value) (rb rg rt m : Nat) (g1 : List Int) (t1 : List Bool) (g2 : List Int) (t2 : List Bool) : Prop where
  sl : Well base W sb gb tb vr m g1 t1
  rf : RefAt W rb rg rt m g2 t2
  a1 : gb ≠ rg
  a2 : tb ≠ rt
  a3 : ∀ g, vr.ownBlock = some g → g ≠ rg
  bl : Below w.heap.size w W
  lo : w.heap.size ≤ rg ∧ w.heap.size ≤ rt
section
variable {w W W' : World} {base sb gb tb : Nat} {vr : Value} {rb rg rt m : Nat} {g1 : List Int} {t1 : List Bool} {g2 : List Int} {t2 : List Bool}
theorem ActM.after (h : ActM w W base sb gb tb vr rb rg rt m g1 t1 g2 t2) (hb : Below W.heap.size W W') : ActM w W' base sb gb tb vr rb rg rt m g1 t1 g2 t2 :=
  ⟨h.sl.after hb, h.rf.after hb, h.a1, h.a2, h.a3, below_call (w := w) h.bl hb, h.lo⟩
theorem ActM.alloc (h : ActM w W base sb gb tb vr rb rg rt m g1 t1 g2 t2) (o : Obj) : ActM w (W.alloc o) base sb gb tb vr rb rg rt m g1 t1 g2 t2 := h.after (below_alloc (Below.refl _ _) _)
/-- the slots turn -/
theorem ActM.sturn (h : ActM w W base sb gb tb vr rb rg rt m g1 t1 g2 t2) (hT : Turns (OwnS sb gb tb vr W.heap.size) W W') (hm : w.heap.size ≤ sb ∧ w.heap.size ≤ gb ∧ w.heap.size ≤ tb ∧ w.heap.size ≤ base) {v' : Value} {g1' : List Int} {t1' : List Bool} (hW : Well base W' sb gb tb v' m g1' t1')
    (ho : ∀ g, v'.ownBlock = some g → vr.ownBlock = some g ∨ W.heap.size ≤ g) : ActM w W' base sb gb tb v' rb rg rt m g1' t1' g2 t2 := by
  obtain ⟨l0, l1, l2⟩ := h.rf.lts
  have hs := h.sl
  obtain ⟨_, _, H, -⟩ := hs
  refine ⟨hW, h.rf.keepT hT ?_ ?_ ?_, h.a1, h.a2, fun g hg => ?_, h.sl.down hT h.bl hm, h.lo⟩
  · rintro (e | e | e | e | e)
    · exact blk_apart h.rf.s H.s (by decide) e
    · exact blk_apart h.rf.s H.g (by decide) e
    · exact blk_apart h.rf.s H.t (by decide) e
    · exact H.h.own_ne h.rf.s (by decide) e rfl
    · omega
  · rintro (e | e | e | e | e)
    · exact blk_apart h.rf.g H.s (by decide) e
    · exact h.a1 e.symm
    · exact blk_apart h.rf.g H.t (by decide) e
    · exact h.a3 _ e rfl
    · omega
  · rintro (e | e | e | e | e)
    · exact blk_apart h.rf.t H.s (by decide) e
    · exact blk_apart h.rf.t H.g (by decide) e
    · exact h.a2 e.symm
    · exact H.h.own_ne h.rf.t (by decide) e rfl
    · omega
  · rcases ho g hg with e | e
    · exact h.a3 g e
    · omega
/-- the reference's slots turn -/
theorem ActM.rturn (h : ActM w W base sb gb tb vr rb rg rt m g1 t1 g2 t2) (hT : Turns (OwnF rg rt W.heap.size) W W') {g2' : List Int} {t2' : List Bool} (hR : RefAt W' rb rg rt m g2' t2') : ActM w W' base sb gb tb vr rb rg rt m g1 t1 g2' t2' := by
  have hs := h.sl
  obtain ⟨_, _, H, -⟩ := hs
  obtain ⟨l0, l1, l2, l3⟩ := h.sl.lts
  refine ⟨h.sl.keepT hT ?_ ?_ ?_ (fun g hg => ?_), hR, h.a1, h.a2, h.a3, h.bl.trans (hT.down h.bl.size ?_), h.lo⟩
  · rintro (e | e | e)
    · exact blk_apart h.rf.g H.s (by decide) e.symm
    · exact blk_apart h.rf.t H.s (by decide) e.symm
    · omega
  · rintro (e | e | e)
    · exact h.a1 e
    · exact blk_apart h.rf.t H.g (by decide) e.symm
    · omega
  · rintro (e | e | e)
    · exact blk_apart h.rf.g H.t (by decide) e.symm
    · exact h.a2 e
    · omega
  · rintro (e | e | e)
    · exact h.a3 g hg e
    · exact H.h.own_ne h.rf.t (by decide) hg e
    · have := l3 _ hg; omega
  · have h1 := h.lo
    have h2 := h.bl.size
    rintro k (e | e | e) <;> omega
theorem RefAt.other (H : RefAt W rb rg rt m g2 t2) (hT : Turns (OwnF rg rt W.heap.size) W W') {b t : Nat} {cs : Array Value} (hb : Blk W b t cs) (ht : t ≠ 3 ∧ t ≠ 4) : Blk W' b t cs := by
  refine hb.keepT hT ?_
  have hl := hb.lt
  rintro (e | e | e)
  · exact blk_apart hb H.g ht.1 e
  · exact blk_apart hb H.t ht.2 e
  · omega
theorem Well.g0 (H : Well base W sb gb tb vr m g1 t1) {i : Nat} {x : Int} (hx : g1[i]? = some x) : 0 ≤ x := by
  obtain ⟨_, _, _, G⟩ := H
  exact (G.g0 i x hx).1
theorem Well.lens (H : Well base W sb gb tb vr m g1 t1) : g1.length = m ∧ t1.length = m := by
  obtain ⟨_, _, _, G⟩ := H
  exact ⟨G.gl, G.tl⟩
end
end Go.Proofs.YtgjnmpbahekbfaaDoor
