/-
  SLICES OF NUMBERS, OF ACTS that came in (slots).
-/
import Derived.Test.YtgjnmpbahekbfaaDoorTabs
import Derived.Test.YtgjnmpbahekbfaaDoorSlL
import Derived.Test.YtgjnmpbahekbfaaDoorProg
import Derived.Deep.Slices
import Derived.Deep.Fields
import Derived.ChangeArms
import Derived.ChangeSame
import Derived.Lib.SmallJoins
import Derived.SevenTiedAt
namespace Go.Proofs.YtgjnmpbahekbfaaDoor
open Go.ChangeShapes Go.WideShapes Go.ChangeAt Go.RowKit Go.Deep

theorem slice_addr {P : Program} {W : World} {base : Nat} {t e : TypeId} {a : Addr} {len cap : Nat} (ht : P.underlying t = some (.slice e)) (h : Value.okWide P W .any base t (.slice (some a) len cap)) :
    a.spot = none ∧ a.block < W.heap.size ∧ len ≤ cap ∧ (cap : Int) ≤ IntKind.i64.max := by
  simp only [Value.okWide, ht, Cell.okWide, Cell.ok, World.has] at h
  obtain ⟨h1, h2, _, h3, row, cells, h4, _⟩ := h
  refine ⟨h3, ?_, h1, h2⟩
  rcases Nat.lt_or_ge a.block W.heap.size with h' | h'
  · exact h'
  · simp [World.shape?, Array.getElem?_eq_none h'] at h4
theorem cellsOfInt : Tryd.prog.cellsOf 3 = 1 := by kernel_rfl
theorem cellsOfBool : Tryd.prog.cellsOf 4 = 1 := by kernel_rfl
theorem cellsOfHd : Tryd.prog.cellsOf 28 = 2 := by kernel_rfl
theorem cellsOfAct : Tryd.prog.cellsOf 43 = 3 := by kernel_rfl
/-- an act on slots: a slot is taken, or a handle is given back -/
structure ActS where
  take : Bool
  h : Hd
def encI (z : Int) : Array Value := #[.int .i64 z]
def encAc (x : ActS) : Array Value := #[.bool x.take, .int .i64 x.h.slot, .int .i64 x.h.gen]
section
variable {H : Type} {enc : TypeId × Value → H} {w : World} {base : Nat} {spare : Nat → Bool} {held : Bool}
theorem some_of_len {α : Type} {xs : List α} {n i : Nat} (h : xs.length = n) (hi : i < n) : ∃ y, xs[i]? = some y := ⟨_, List.getElem?_eq_getElem (by omega)⟩
set_option maxRecDepth 100000 in
theorem int_cell {fuel : Nat} {v : Value} {y : Option (DataW H × List MemPlace)} (h : DataW.trod enc Tryd.prog w base spare held fuel 3 [v] = y) (hy : ∃ z, y = some z) : ∃ n : Int, v = .int .i64 n := by
  obtain ⟨z, rfl⟩ := hy
  obtain ⟨x, e0, _, _⟩ := DataW.trod_int Tryd.underlying3 h
  exact ⟨x, by simpa using e0⟩
set_option maxRecDepth 100000 in
theorem bool_cell {fuel : Nat} {v : Value} {y : Option (DataW H × List MemPlace)} (h : DataW.trod enc Tryd.prog w base spare held fuel 4 [v] = y) (hy : ∃ z, y = some z) : ∃ b : Bool, v = .bool b := by
  obtain ⟨z, rfl⟩ := hy
  obtain ⟨x, e0, _⟩ := DataW.trod_bool Tryd.underlying4 h
  exact ⟨x, by simpa using e0⟩
set_option maxRecDepth 100000 in
theorem int_cells {fuel : Nat} {cs : List Value} {x : DataW H × List MemPlace} (h : DataW.trod enc Tryd.prog w base spare held fuel 3 cs = some x) : ∃ a : Int, cs = (encI a).toList := by
  obtain ⟨z, e0, _, _⟩ := DataW.trod_int Tryd.underlying3 h
  exact ⟨z, e0⟩
set_option maxRecDepth 100000 in
theorem hd_cells {fuel : Nat} {cs : List Value} {x : DataW H × List MemPlace} (h : DataW.trod enc Tryd.prog w base spare held fuel 28 cs = some x) : ∃ a : Hd, cs = [.int .i64 a.slot, .int .i64 a.gen] := by
  obtain ⟨xs, n, _, _, hl, hlen, hf⟩ := DataW.trod_struct Tryd.underlying28 h
  rw [cellsOfHd] at hl
  match cs, hl with
  | [c0, c1], _ =>
    have h0 : DataW.trod enc Tryd.prog w base spare held n 3 (List.take (Tryd.prog.cellsOf 3) [c0, c1]) = xs[0]? := hf 0 _ rfl
    have h1 : DataW.trod enc Tryd.prog w base spare held n 3 (List.take (Tryd.prog.cellsOf 3) [c1]) = xs[1]? := hf 1 _ rfl
    rw [cellsOfInt] at h0 h1
    obtain ⟨z0, rfl⟩ := int_cell h0 (some_of_len hlen (by decide))
    obtain ⟨z1, rfl⟩ := int_cell h1 (some_of_len hlen (by decide))
    exact ⟨⟨z0, z1⟩, rfl⟩
set_option maxRecDepth 100000 in
theorem actS_cells {fuel : Nat} {cs : List Value} {x : DataW H × List MemPlace} (h : DataW.trod enc Tryd.prog w base spare held fuel 43 cs = some x) : ∃ a : ActS, cs = (encAc a).toList := by
  obtain ⟨xs, n, _, _, hl, hlen, hf⟩ := DataW.trod_struct Tryd.underlying43 h
  rw [cellsOfAct] at hl
  match cs, hl with
  | [c0, c1, c2], _ =>
    have h0 : DataW.trod enc Tryd.prog w base spare held n 4 (List.take (Tryd.prog.cellsOf 4) [c0, c1, c2]) = xs[0]? := hf 0 _ rfl
    have h1 : DataW.trod enc Tryd.prog w base spare held n 28 (List.take (Tryd.prog.cellsOf 28) [c1, c2]) = xs[1]? := hf 1 _ rfl
    rw [cellsOfBool] at h0
    rw [cellsOfHd] at h1
    obtain ⟨z0, rfl⟩ := bool_cell h0 (some_of_len hlen (by decide))
    obtain ⟨y1, hy1⟩ := some_of_len hlen (show 1 < _ by decide)
    obtain ⟨b, hb⟩ := hd_cells (h1.trans hy1)
    simp only [List.take_succ_cons, List.take_zero, List.cons.injEq, and_true] at hb
    obtain ⟨rfl, rfl⟩ := hb
    exact ⟨⟨z0, b⟩, rfl⟩
theorem add_off (b o k : Nat) : (⟨b, o, none⟩ : Addr).add k = ⟨b, o + k, none⟩ := Go.WideShapes.add_plain ..
set_option maxRecDepth 100000 in
/-- a slice whose elements' cells can be read reads as a list -/
theorem rows_of {α : Type} {encA : α → Array Value} {s : Nat} {st e : TypeId} (hs : ∀ x, (encA x).size = s) (hc : Tryd.prog.cellsOf e = s) (hu : Tryd.prog.underlying st = some (.slice e))
    (hel : ∀ (fuel : Nat) (cs : List Value) (x : DataW H × List MemPlace), DataW.trod enc Tryd.prog w 0 (fun _ => true) true fuel e cs = some x → ∃ a : α, cs = (encA a).toList)
    {v : Value} {d : DataW H} {p : List MemPlace} (hval : Value.okWide Tryd.prog w .any base st v) (h : DataW.Trod enc Tryd.prog w 0 (fun _ => true) true st v d p) : ∃ l, RowsAt encA s w.heap.size w v l := by
  obtain ⟨a0, len, cap, rfl⟩ := okWide_slice hu hval
  obtain ⟨fuel, hf⟩ := h
  rcases open_slice hu hf with ⟨hcs, _⟩ | ⟨a, len', cap', m, n, D, Pl, hcs, _, hl, hm, hmm, _, hi⟩
  · simp only [Value.cells, List.cons.injEq, Value.slice.injEq, and_true] at hcs
    obtain ⟨rfl, rfl, rfl⟩ := hcs
    exact ⟨[], .inl ⟨rfl, rfl⟩⟩
  · simp only [Value.cells, List.cons.injEq, Value.slice.injEq, and_true] at hcs
    obtain ⟨rfl, rfl, rfl⟩ := hcs
    obtain ⟨hsp, hb, _, hcap⟩ := slice_addr hu hval
    obtain ⟨b, off, spot⟩ := a
    obtain rfl : spot = none := hsp
    rw [if_pos rfl] at hmm
    have hmax : (IntKind.i64.max : Int) = 9223372036854775807 := by decide
    have hx : ∀ i, i < len → ∃ x : α, ∀ (j : Nat) (u : Value), (encA x)[j]? = some u → w.cell? ⟨b, off + i * s + j, none⟩ = some u := by
      intro i hlt
      obtain ⟨cs', hc', ht⟩ := hi i (by omega)
      obtain ⟨x, rfl⟩ := hel _ _ _ ht
      rw [hc] at hc'
      obtain ⟨_, _, hat⟩ := World.cells?_some hc'
      refine ⟨x, fun j u hu' => ?_⟩
      have hj : j < s := by have := (Array.getElem?_eq_some_iff.1 hu').1; rw [hs] at this; exact this
      have g := hat j hj
      rw [add_off, add_off] at g
      rw [g, Array.getElem?_toList]; exact hu'
    refine ⟨List.ofFn (fun i : Fin len => Classical.choose (hx i.1 i.2)), .inr ⟨b, off, cap, by rw [List.length_ofFn], hb, by rw [List.length_ofFn]; exact hl, by omega, fun k x hk => ?_⟩⟩
    rw [List.getElem?_ofFn] at hk
    split at hk
    · cases hk
      exact Classical.choose_spec (hx k (by assumption))
    · cases hk
set_option maxRecDepth 100000 in
theorem intsR_of {v : Value} {d : DataW H} {p : List MemPlace} (hval : Value.okWide Tryd.prog w .any base 34 v)
    (h : DataW.Trod enc Tryd.prog w 0 (fun _ => true) true 34 v d p) : ∃ l, RowsAt encI 1 w.heap.size w v l :=
  rows_of (encA := encI) (s := 1) (fun _ => rfl) cellsOfInt Tryd.underlying34 (fun _ _ _ h => int_cells h) hval h
set_option maxRecDepth 100000 in
theorem actsS_of {v : Value} {d : DataW H} {p : List MemPlace} (hval : Value.okWide Tryd.prog w .any base 38 v)
    (h : DataW.Trod enc Tryd.prog w 0 (fun _ => true) true 38 v d p) : ∃ l, RowsAt encAc 3 w.heap.size w v l :=
  rows_of (encA := encAc) (s := 3) (fun _ => rfl) cellsOfAct Tryd.underlying38 (fun _ _ _ h => actS_cells h) hval h
end
end Go.Proofs.YtgjnmpbahekbfaaDoor
