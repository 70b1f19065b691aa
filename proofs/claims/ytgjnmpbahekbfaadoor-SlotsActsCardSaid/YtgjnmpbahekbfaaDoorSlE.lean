/-
  PACKAGES container/heap, slots: Push, Pop of a heap of numbers.
-/
import Derived.Test.YtgjnmpbahekbfaaDoorSlD
import Derived.RangeFuncBox
namespace Go.Proofs.YtgjnmpbahekbfaaDoor
open Go.RowKit

attribute [local go_sem] mLess mSwap mLen mPush mPop

theorem infoI : (Tryd.prog.info? 3).map (fun i => (i.zero, i.size, i.bytes)) = some (some (.int .i64 0), 1, 8) := by kernel_rfl
theorem assertI (v : Value) (w : World) : (Instr.typeAssert (.iface 3 v) 20 3 true).run Tryd.prog w = .ok (.tuple #[v, .bool true]) w := by kernel_rfl
attribute [local go_sem] assertI
/-- a heap's row, the call's own -/
def HeapAt (base : Nat) (w : World) (v : Value) (h : List Int) : Prop := w.ownsRow base 3 1 v h.length (h.map vI)
theorem heap_open {base : Nat} {w : World} {v : Value} {h : List Int} (H : HeapAt base w v h) (hn : h ≠ []) :
    ∃ g cap cs r, v = .slice (some ⟨g, 0, none⟩) h.length cap ∧ base ≤ g ∧ Blk w g 3 cs ∧ h.length ≤ cap ∧ cap ≤ maxLen ∧ cs.size = cap ∧ cs.toList = h.map vI ++ r := by
  rcases H.2 with ⟨_, h0⟩ | ⟨g, cap, cs, hv, hb, hh, h1, h2, h3, h4⟩
  · exact absurd (List.length_eq_zero_iff.1 h0) hn
  · refine ⟨g, cap, cs, cs.toList.drop h.length, hv, hb, hh, h1, h2, by omega, ?_⟩
    rw [Nat.mul_one] at h4
    rw [← h4, List.take_append_drop]
theorem heap_close {base g cap : Nat} {w : World} {cs : Array Value} {h : List Int} {r : List Value} (hb : base ≤ g) (hB : Blk w g 3 cs) (h1 : h.length ≤ cap) (h2 : cap ≤ maxLen) (h3 : cs.size = cap) (h4 : cs.toList = h.map vI ++ r) : HeapAt base w (.slice (some ⟨g, 0, none⟩) h.length cap) h :=
  ⟨by rw [List.length_map, Nat.mul_one], .inr ⟨g, cap, cs, rfl, hb, hB, h1, h2, by omega, by rw [Nat.mul_one, h4, List.take_left' (by rw [List.length_map])]⟩⟩
theorem own_some {g n c : Nat} : (Value.slice (some ⟨g, 0, none⟩) n c).ownBlock = some g := rfl
theorem own_of {v : Value} {g n c W m : Nat} (h : (Value.slice (some ⟨g, 0, none⟩) n c).ownBlock = v.ownBlock ∨ (Value.slice (some ⟨g, 0, none⟩) n c).ownBlock = some W) (hm : m ≤ W) : v.ownBlock = some g ∨ m ≤ g := by
  rcases h with h | h
  · exact .inl h.symm
  · have h2 : some g = some W := h
    injection h2 with h2
    exact .inr (by omega)
theorem src_one {w : World} {t : TypeId} {x : Value} {b : Nat} (hb : b = w.heap.size) : Src (w.alloc (.cells #[x] t)) 1 (some ⟨b, 0, none⟩) 1 [x] := by
  subst hb
  refine ⟨rfl, (fun h => by cases h), fun ad ha j u hu => ?_⟩
  cases ha
  match j with
  | 0 =>
    cases hu
    rw [Go.WideShapes.add_plain]
    exact World.cell?_alloc_at _ _ _ _ rfl
  | j + 1 => simp at hu
/-- what a heap's turn may touch: the struct's block, the row's block, new ones -/
abbrev Own (sb : Nat) (v : Value) (n : Nat) (k : Nat) : Prop := k = sb ∨ v.ownBlock = some k ∨ n ≤ k
abbrev slotsC (v gv tv : Value) (un : Int) : Array Value := #[v, gv, tv, .int .i64 un]
theorem heap_cells {base : Nat} {w : World} {v : Value} {h : List Int} (H : HeapAt base w v h) {k : Nat} (hk : v.ownBlock = some k) {o' o : Obj} (ho : (w.alloc o').heap[k]? = some o) : o.isCells = true := by
  rcases H.2 with ⟨rfl, _⟩ | ⟨g, cap, cur, rfl, _, hgb, _⟩
  · simp [Value.ownBlock] at hk
  · obtain rfl : g = k := by simpa [Value.ownBlock] using hk
    rw [Below.heap_alloc w o' g (Array.getElem?_eq_some_iff.1 hgb).1, hgb] at ho
    cases ho; rfl
set_option maxRecDepth 100000 in
set_option maxHeartbeats 4000000 in
theorem Push_m (base sb : Nat) (v gv tv : Value) (un x : Int) (h : List Int) (w : World) (hs : Blk w sb 57 (slotsC v gv tv un)) (hh : HeapAt base w v h) (hb : base ≤ w.heap.size) (hle : h.length ≤ 1000) :
    Calls Tryd.prog 58 #[.pointer (some ⟨sb, 0, none⟩), .iface 3 (.int .i64 x)] w fun e w' => e = .returned (.tuple #[]) ∧ ∃ g n c, Blk w' sb 57 (slotsC (.slice (some ⟨g, 0, none⟩) n c) gv tv un) ∧ HeapAt base w' (.slice (some ⟨g, 0, none⟩) n c) (h ++ [x]) ∧ (v.ownBlock = some g ∨ w.heap.size ≤ g) ∧ Turns (Own sb v w.heap.size) w w' := by
  obtain ⟨i0, hi, hz0, hz1, hz2⟩ := info_parts infoI
  have hslt : sb < w.heap.size := hs.lt
  have hne : some sb ≠ v.ownBlock := by
    intro e
    rcases hh.2 with ⟨rfl, _⟩ | ⟨g, cap, cs, rfl, _, hgb, _⟩
    · simp [Value.ownBlock] at e
    · obtain rfl : sb = g := by simpa [Value.ownBlock] using e
      have := (show w.heap[sb]? = _ from hs).symm.trans hgb
      simp at this
  have p0 := hs.at_ (i := 0) (v := v) rfl
  have HS := Lib.hid hs
  have HH := Lib.hid hh
  have HNE := Lib.hid hne
  clear hs hh hne
  go_enter Tryd.func58, Tryd.ntmps58
  go_wp2_with (at_builtin; go_loud (refine wpList_append_src _ rfl _ _ 48 rfl base 3 i0 (.int .i64 0) 1 8 Tryd.underlying48 hi hz0 hz1 hz2 rfl (by decide) _ h.length (h.map vI) rfl (World.ownsRow.alloc HH.out _) (some ⟨w.heap.size, 0, none⟩) 1 1 [.int .i64 x] rfl (src_one rfl) (by simp [Value.oneCell']) (by unfold maxLen; omega) (by omega) (by simp; omega) ?_; intro v1 w1 hown hgrow hblk; obtain ⟨g1, c1, rfl⟩ := ownsRow_succ hown; (have HO : Hid (HeapAt base w1 (.slice (some ⟨g1, 0, none⟩) (h.length + 1) c1) (h ++ [x])) := Lib.hid (by unfold HeapAt; rw [List.length_append, List.map_append]; exact hown)); (have HS1 : Hid (Blk w1 sb 57 (slotsC v gv tv un)) := Lib.hid (Blk.grown (HS.out.alloc _) hgrow HNE.out)); (have HG : Hid (v.ownBlock = some g1 ∨ w.heap.size ≤ g1) := Lib.hid (own_of hblk (by simp))); (have HT : Hid (Turns (Own sb v w.heap.size) w w1) := Lib.hid (((Turns.refl _ w).alloc _).grown hgrow (fun k hk => ⟨.inr (.inl hk), fun o ho => heap_cells HH.out hk ho⟩))); (have p1 := HS1.out.at_ (i := 0) (v := v) rfl); (have f1 := HS1.out.frozen 0); (have hz := HT.out.size); clear hown hgrow hblk))
  go_end0
  have hg1 : some g1 ≠ some sb := by
    intro e
    injection e with e
    subst e
    rcases HG.out with h1 | h1
    · exact HNE.out h1.symm
    · omega
  refine ⟨rfl, g1, _, _, Blk.set' (u := .slice (some ⟨g1, 0, none⟩) (h.length + 1) c1) (i := 0) HS1.out rfl, ?_, HG.out, HT.out.setCell (p := ⟨sb, 0, none⟩) (.inl rfl) _⟩
  exact HO.out.kept (grownBy_setCell' w1 sb _) (.inr hg1)
end Go.Proofs.YtgjnmpbahekbfaaDoor
