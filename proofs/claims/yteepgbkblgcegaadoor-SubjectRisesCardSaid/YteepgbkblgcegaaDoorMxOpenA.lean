/-
  AN ACT, SLICES OF ACTS that came in.
-/
import Derived.Test.YteepgbkblgcegaaDoorM5
import Derived.Test.YteepgbkblgcegaaDoorMxLawF
namespace Go.Proofs.YteepgbkblgcegaaDoor
open Go.ChangeShapes Go.WideShapes Go.ChangeAt Go.RowKit Go.Deep

section
variable {H : Type} {enc : TypeId × Value → H} {w : World} {base : Nat} {spare : Nat → Bool} {held : Bool}
theorem cellsOfAct : Tryd.prog.cellsOf 39 = 6 := by kernel_rfl
theorem encD_size (x : Deed) : (encD x).size = 6 := rfl
set_option maxRecDepth 100000 in
theorem act_cells {fuel : Nat} {cs : List Value} {x : DataW H × List MemPlace} (h : DataW.trod enc Tryd.prog w base spare held fuel 39 cs = some x) : ∃ a : Deed, cs = (encD a).toList := by
  obtain ⟨xs, n, _, _, hl, hlen, hf⟩ := DataW.trod_struct Tryd.underlying39 h
  rw [cellsOfAct] at hl
  match cs, hl with
  | [c0, c1, c2, c3, c4, c5], _ =>
    have h0 : DataW.trod enc Tryd.prog w base spare held n 3 (List.take (Tryd.prog.cellsOf 3) [c0, c1, c2, c3, c4, c5]) = xs[0]? := hf 0 _ rfl
    have h1 : DataW.trod enc Tryd.prog w base spare held n 3 (List.take (Tryd.prog.cellsOf 3) [c1, c2, c3, c4, c5]) = xs[1]? := hf 1 _ rfl
    have h2 : DataW.trod enc Tryd.prog w base spare held n 3 (List.take (Tryd.prog.cellsOf 3) [c2, c3, c4, c5]) = xs[2]? := hf 2 _ rfl
    have h3 : DataW.trod enc Tryd.prog w base spare held n 25 (List.take (Tryd.prog.cellsOf 25) [c3, c4, c5]) = xs[3]? := hf 3 _ rfl
    rw [cellsOfInt] at h0 h1 h2
    rw [cellsOfLab] at h3
    obtain ⟨z0, rfl⟩ := int_cell h0 (some_of_len hlen (by decide))
    obtain ⟨z1, rfl⟩ := int_cell h1 (some_of_len hlen (by decide))
    obtain ⟨z2, rfl⟩ := int_cell h2 (some_of_len hlen (by decide))
    obtain ⟨y3, hy3⟩ := some_of_len hlen (show 3 < _ by decide)
    obtain ⟨b, hb⟩ := lab_cells (h3.trans hy3)
    simp only [List.take_succ_cons, List.take_zero, List.cons.injEq, and_true] at hb
    obtain ⟨rfl, rfl, rfl⟩ := hb
    exact ⟨⟨z0, z1, z2, b⟩, rfl⟩
set_option maxRecDepth 100000 in
theorem acts_of {v : Value} {d : DataW H} {p : List MemPlace} (hval : Value.okWide Tryd.prog w .any base 35 v)
    (h : DataW.Trod enc Tryd.prog w 0 (fun _ => true) true 35 v d p) : ∃ l, RowsAt encD 6 w.heap.size w v l :=
  rows_of encD_size cellsOfAct Tryd.underlying35 (fun _ _ _ h => act_cells h) hval h
set_option maxRecDepth 100000 in
theorem act_of {b : Nat} {v : Value} {d : DataW H} {p : List MemPlace} (hval : Value.okWide Tryd.prog w .any base 39 v)
    (h : DataW.Trod enc Tryd.prog w b (fun _ => true) true 39 v d p) : ∃ x : Deed, v = .agg #[.int .i64 x.d, .int .i64 x.who, .int .i64 x.ch, .int .i64 x.a.lv, .int .u64 (u x.a.c), .int .i64 x.a.ig] := by
  obtain ⟨cs, rfl, hsz⟩ := okWide_struct Tryd.underlying39 hval
  obtain ⟨fuel, hf⟩ := h
  obtain ⟨x, hx⟩ := act_cells hf
  refine ⟨x, ?_⟩
  have : cs = encD x := by
    apply Array.ext'
    simpa [Value.cells] using hx
  rw [this]; rfl
end
end Go.Proofs.YteepgbkblgcegaaDoor
