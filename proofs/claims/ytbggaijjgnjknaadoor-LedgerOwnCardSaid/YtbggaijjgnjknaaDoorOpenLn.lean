/-
  SLICES OF LINES that came in.
-/
import Derived.Test.YtbggaijjgnjknaaDoorLgF
import Derived.Test.YtbggaijjgnjknaaDoorProg
import Derived.Deep.Slices
import Derived.Deep.Fields
import Derived.ChangeArms
import Derived.ChangeSame
import Derived.Lib.SmallJoins
import Derived.SevenTiedAt
namespace Go.Proofs.YtbggaijjgnjknaaDoor
open Go.ChangeShapes Go.WideShapes Go.ChangeAt Go.RowKit Go.Deep

theorem slice_addr {P : Program} {W : World} {base : Nat} {t e : TypeId} {a : Addr} {len cap : Nat} (ht : P.underlying t = some (.slice e)) (h : Value.okWide P W .any base t (.slice (some a) len cap)) :
    a.spot = none ∧ a.block < W.heap.size ∧ len ≤ cap ∧ (cap : Int) ≤ IntKind.i64.max := by
  simp only [Value.okWide, ht, Cell.okWide, Cell.ok, World.has] at h
  obtain ⟨h1, h2, _, h3, row, cells, h4, _⟩ := h
  refine ⟨h3, ?_, h1, h2⟩
  rcases Nat.lt_or_ge a.block W.heap.size with h' | h'
  · exact h'
  · simp [World.shape?, Array.getElem?_eq_none h'] at h4
theorem cellsOfInt : Tryd.prog.cellsOf 3 = 1 := by kernel_rfl
theorem cellsOfU64 : Tryd.prog.cellsOf 23 = 1 := by kernel_rfl
theorem cellsOfLab : Tryd.prog.cellsOf 25 = 3 := by kernel_rfl
section
variable {H : Type} {enc : TypeId × Value → H} {w : World} {base : Nat} {spare : Nat → Bool} {held : Bool}
theorem some_of_len {α : Type} {xs : List α} {n i : Nat} (h : xs.length = n) (hi : i < n) : ∃ y, xs[i]? = some y := ⟨_, List.getElem?_eq_getElem (by omega)⟩
set_option maxRecDepth 100000 in
theorem int_cell {fuel : Nat} {v : Value} {y : Option (DataW H × List MemPlace)} (h : DataW.trod enc Tryd.prog w base spare held fuel 3 [v] = y) (hy : ∃ z, y = some z) : ∃ n : Int, v = .int .i64 n := by
  obtain ⟨z, rfl⟩ := hy
  obtain ⟨x, e0, _, _⟩ := DataW.trod_int Tryd.underlying3 h
  exact ⟨x, by simpa using e0⟩
set_option maxRecDepth 100000 in
theorem u64_cell {fuel : Nat} {v : Value} {y : Option (DataW H × List MemPlace)} (h : DataW.trod enc Tryd.prog w base spare held fuel 23 [v] = y) (hy : ∃ z, y = some z) : ∃ x : BitVec 64, v = .int .u64 (u x) := by
  obtain ⟨z, rfl⟩ := hy
  obtain ⟨x, e0, _, wx⟩ := DataW.trod_int Tryd.underlying23 h
  obtain ⟨c, rfl⟩ := u_of_wf wx
  exact ⟨c, by simpa using e0⟩
set_option maxRecDepth 100000 in
theorem lab_cells {fuel : Nat} {cs : List Value} {x : DataW H × List MemPlace} (h : DataW.trod enc Tryd.prog w base spare held fuel 25 cs = some x) : ∃ a : Lab, cs = [.int .i64 a.lv, .int .u64 (u a.c), .int .i64 a.ig] := by
  obtain ⟨xs, n, _, _, hl, hlen, hf⟩ := DataW.trod_struct Tryd.underlying25 h
  rw [cellsOfLab] at hl
  match cs, hl with
  | [c0, c1, c2], _ =>
    have h0 : DataW.trod enc Tryd.prog w base spare held n 3 (List.take (Tryd.prog.cellsOf 3) [c0, c1, c2]) = xs[0]? := hf 0 _ rfl
    have h1 : DataW.trod enc Tryd.prog w base spare held n 23 (List.take (Tryd.prog.cellsOf 23) [c1, c2]) = xs[1]? := hf 1 _ rfl
    have h2 : DataW.trod enc Tryd.prog w base spare held n 3 (List.take (Tryd.prog.cellsOf 3) [c2]) = xs[2]? := hf 2 _ rfl
    rw [cellsOfInt] at h0 h2
    rw [cellsOfU64] at h1
    obtain ⟨z0, rfl⟩ := int_cell h0 (some_of_len hlen (by decide))
    obtain ⟨z1, rfl⟩ := u64_cell h1 (some_of_len hlen (by decide))
    obtain ⟨z2, rfl⟩ := int_cell h2 (some_of_len hlen (by decide))
    exact ⟨⟨z0, z1, z2⟩, rfl⟩
theorem cellsOfLn : Tryd.prog.cellsOf 42 = 4 := by kernel_rfl
set_option maxRecDepth 100000 in
theorem ln_cells {fuel : Nat} {cs : List Value} {x : DataW H × List MemPlace} (h : DataW.trod enc Tryd.prog w base spare held fuel 42 cs = some x) : ∃ a : Ln, cs = (encLn a).toList := by
  obtain ⟨xs, n, _, _, hl, hlen, hf⟩ := DataW.trod_struct Tryd.underlying42 h
  rw [cellsOfLn] at hl
  match cs, hl with
  | [c0, c1, c2, c3], _ =>
    have h0 : DataW.trod enc Tryd.prog w base spare held n 25 (List.take (Tryd.prog.cellsOf 25) [c0, c1, c2, c3]) = xs[0]? := hf 0 _ rfl
    have h1 : DataW.trod enc Tryd.prog w base spare held n 3 (List.take (Tryd.prog.cellsOf 3) [c3]) = xs[1]? := hf 1 _ rfl
    rw [cellsOfLab] at h0
    rw [cellsOfInt] at h1
    obtain ⟨y0, hy0⟩ := some_of_len hlen (show 0 < _ by decide)
    obtain ⟨b, hb⟩ := lab_cells (h0.trans hy0)
    obtain ⟨z1, rfl⟩ := int_cell h1 (some_of_len hlen (by decide))
    simp only [List.take_succ_cons, List.take_zero, List.cons.injEq, and_true] at hb
    obtain ⟨rfl, rfl, rfl⟩ := hb
    exact ⟨⟨b, z1⟩, rfl⟩
theorem add_off (b o k : Nat) : (⟨b, o, none⟩ : Addr).add k = ⟨b, o + k, none⟩ := Go.WideShapes.add_plain ..
set_option maxRecDepth 100000 in
/-- a slice whose elements' cells can be read reads as a list -/
theorem rows_of {α : Type} {encA : α → Array Value} {s : Nat} {st e : TypeId} (hs : ∀ x, (encA x).size = s) (hc : Tryd.prog.cellsOf e = s) (hu : Tryd.prog.underlying st = some (.slice e))
    (hel : ∀ (fuel : Nat) (cs : List Value) (x : DataW H × List MemPlace), DataW.trod enc Tryd.prog w 0 (fun _ => true) true fuel e cs = some x → ∃ a : α, cs = (encA a).toList)
    {v : Value} {d : DataW H} {p : List MemPlace} (hval : Value.okWide Tryd.prog w .any base st v) (h : DataW.Trod enc Tryd.prog w 0 (fun _ => true) true st v d p) : ∃ l, RowsAt encA s w.heap.size w v l := by
  obtain ⟨a0, len, cap, rfl⟩ := okWide_slice hu hval
  obtain ⟨fuel, hf⟩ := h
  rcases open_slice hu hf with ⟨hcs, _⟩ | ⟨a, len', cap', m, n, D, Pl, hcs, _, hl, hm, hmm, _, hi⟩
  · simp only [Value.cells, List.cons.injEq, Value.slice.injEq, and_true] at hcs
    obtain ⟨rfl, rfl, rfl⟩ := hcs
    exact ⟨[], .inl ⟨rfl, rfl⟩⟩
  · simp only [Value.cells, List.cons.injEq, Value.slice.injEq, and_true] at hcs
    obtain ⟨rfl, rfl, rfl⟩ := hcs
    obtain ⟨hsp, hb, _, hcap⟩ := slice_addr hu hval
    obtain ⟨b, off, spot⟩ := a
    obtain rfl : spot = none := hsp
    rw [if_pos rfl] at hmm
    have hmax : (IntKind.i64.max : Int) = 9223372036854775807 := by decide
    have hx : ∀ i, i < len → ∃ x : α, ∀ (j : Nat) (u : Value), (encA x)[j]? = some u → w.cell? ⟨b, off + i * s + j, none⟩ = some u := by
      intro i hlt
      obtain ⟨cs', hc', ht⟩ := hi i (by omega)
      obtain ⟨x, rfl⟩ := hel _ _ _ ht
      rw [hc] at hc'
      obtain ⟨_, _, hat⟩ := World.cells?_some hc'
      refine ⟨x, fun j u hu' => ?_⟩
      have hj : j < s := by have := (Array.getElem?_eq_some_iff.1 hu').1; rw [hs] at this; exact this
      have g := hat j hj
      rw [add_off, add_off] at g
      rw [g, Array.getElem?_toList]; exact hu'
    refine ⟨List.ofFn (fun i : Fin len => Classical.choose (hx i.1 i.2)), .inr ⟨b, off, cap, by rw [List.length_ofFn], hb, by rw [List.length_ofFn]; exact hl, by omega, fun k x hk => ?_⟩⟩
    rw [List.getElem?_ofFn] at hk
    split at hk
    · cases hk
      exact Classical.choose_spec (hx k (by assumption))
    · cases hk
set_option maxRecDepth 100000 in
theorem lines_of {v : Value} {d : DataW H} {p : List MemPlace} (hval : Value.okWide Tryd.prog w .any base 22 v)
    (h : DataW.Trod enc Tryd.prog w 0 (fun _ => true) true 22 v d p) : ∃ l, LnsAt w v l :=
  rows_of (encA := encLn) (s := 4) (fun _ => rfl) cellsOfLn Tryd.underlying22 (fun _ _ _ h => ln_cells h) hval h
end
end Go.Proofs.YtbggaijjgnjknaaDoor
