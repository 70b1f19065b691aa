/-
  A SLICE WHOSE ELEMENTS HAVE s CELLS EACH, whatever they are; no program in sight.
-/
import Derived.Test.YtbggaijjgnjknaaDoorEls
import Derived.Test.YtbggaijjgnjknaaDoorApp
namespace Go.Proofs.YtbggaijjgnjknaaDoor
open Go.RowKit

section
variable {α : Type} {enc : α → Array Value} {s : Nat}
/-- A slice value that reads as a list (nil too), in blocks below B. -/
def RowsAt (enc : α → Array Value) (s B : Nat) (w : World) (v : Value) (l : List α) : Prop :=
  (v = .slice none 0 0 ∧ l = []) ∨ ∃ b off cap, v = .slice (some ⟨b, off, none⟩) l.length cap ∧ b < B ∧ l.length ≤ cap ∧ cap ≤ 9223372036854775807 ∧
    ∀ k x, l[k]? = some x → ∀ j u, (enc x)[j]? = some u → w.cell? ⟨b, off + k * s + j, none⟩ = some u
theorem RowsAt.nil (B : Nat) (w : World) : RowsAt enc s B w (.slice none 0 0) [] := .inl ⟨rfl, rfl⟩
theorem RowsAt.keep {B : Nat} {w w' : World} {v : Value} {l : List α} (h : RowsAt enc s B w v l) (hk : ∀ b o u, b < B → w.cell? ⟨b, o, none⟩ = some u → w'.cell? ⟨b, o, none⟩ = some u) : RowsAt enc s B w' v l := by
  rcases h with h | ⟨b, off, cap, hv, hlt, hcap, hn, hc⟩
  · exact .inl h
  · exact .inr ⟨b, off, cap, hv, hlt, hcap, hn, fun k x hx j u hu => hk _ _ _ hlt (hc k x hx j u hu)⟩
theorem RowsAt.below {B : Nat} {w w' : World} {v : Value} {l : List α} (h : RowsAt enc s B w v l) (hb : Below B w w') : RowsAt enc s B w' v l :=
  h.keep fun b o _ hlt hu => (hb.cell (p := ⟨b, o, none⟩) hlt).trans hu
theorem RowsAt.mono {B B' : Nat} {w : World} {v : Value} {l : List α} (h : RowsAt enc s B w v l) (hb : B ≤ B') : RowsAt enc s B' w v l := by
  rcases h with h | ⟨b, off, cap, hv, hlt, r⟩
  · exact .inl h
  · exact .inr ⟨b, off, cap, hv, by omega, r⟩
theorem RowsAt.later {B : Nat} {w w' : World} {v : Value} {l : List α} (h : RowsAt enc s B w v l) (hb : Below B w w') (hB : B ≤ w'.heap.size) : RowsAt enc s w'.heap.size w' v l := (h.below hb).mono hB
theorem RowsAt.slice {B : Nat} {w : World} {v : Value} {l : List α} (h : RowsAt enc s B w v l) : ∃ A c, v = .slice A l.length c ∧ l.length ≤ c ∧ c ≤ 9223372036854775807 ∧ (A = none → c = 0) := by
  rcases h with ⟨rfl, rfl⟩ | ⟨b, off, cap, rfl, _, hc, hn, _⟩
  · exact ⟨none, 0, rfl, Nat.le_refl _, by decide, fun _ => rfl⟩
  · exact ⟨_, cap, rfl, hc, hn, fun h => by cases h⟩
/-- an element's cells -/
theorem RowsAt.el {B : Nat} {w : World} {A : Option Addr} {m c : Nat} {l : List α} (h : RowsAt enc s B w (.slice A m c) l) {k : Nat} {x : α} (hx : l[k]? = some x) (hB : B ≤ w.heap.size) : ∃ b off, A = some ⟨b, off, none⟩ ∧ b < B ∧ Els w b (off + k * s) (enc x) := by
  rcases h with ⟨_, rfl⟩ | ⟨b, off, cap, hv, hlt, hc, hn, hcs⟩
  · simp at hx
  · cases hv
    exact ⟨b, off, rfl, hlt, by omega, hcs k x hx⟩
theorem flat_len (hs : ∀ x, (enc x).size = s) (l : List α) : (l.flatMap fun x => (enc x).toList).length = l.length * s := by
  induction l with
  | nil => simp
  | cons x l ih => rw [List.flatMap_cons, List.length_append, ih, Array.length_toList, hs, List.length_cons, Nat.add_mul]; omega
theorem flat_get (hs : ∀ x, (enc x).size = s) (h0 : 0 < s) : ∀ (l : List α) (j : Nat) (u : Value), (l.flatMap fun x => (enc x).toList)[j]? = some u → ∃ x, l[j / s]? = some x ∧ (enc x)[j % s]? = some u := fun l => by
  induction l with
  | nil => intro j u h; simp at h
  | cons x l ih =>
    intro j u h
    rw [List.flatMap_cons] at h
    by_cases hj : j < s
    · rw [List.getElem?_append_left (by rw [Array.length_toList, hs]; exact hj)] at h
      refine ⟨x, by rw [Nat.div_eq_of_lt hj]; rfl, ?_⟩
      rw [Nat.mod_eq_of_lt hj, ← Array.getElem?_toList]; exact h
    · rw [List.getElem?_append_right (by rw [Array.length_toList, hs]; omega), Array.length_toList, hs] at h
      obtain ⟨y, hy, hu⟩ := ih _ _ h
      have e1 : j / s = (j - s) / s + 1 := by rw [← Nat.add_div_right _ h0, Nat.sub_add_cancel (by omega)]
      have e2 : j % s = (j - s) % s := by rw [← Nat.mod_eq_sub_mod (by omega)]
      exact ⟨y, by rw [e1]; exact hy, by rw [e2]; exact hu⟩
theorem flat_at (hs : ∀ x, (enc x).size = s) : ∀ (l : List α) (k j : Nat) (x : α) (u : Value), l[k]? = some x → (enc x)[j]? = some u → (l.flatMap fun x => (enc x).toList)[k * s + j]? = some u := fun l => by
  induction l with
  | nil => intro k j x u h; simp at h
  | cons y l ih =>
    intro k j x u h hu
    have hj : j < s := by have := (Array.getElem?_eq_some_iff.1 hu).1; rw [hs] at this; exact this
    rw [List.flatMap_cons]
    match k, h with
    | 0, h =>
      cases h
      rw [List.getElem?_append_left (by rw [Array.length_toList, hs]; omega), Array.getElem?_toList, Nat.zero_mul, Nat.zero_add]; exact hu
    | k + 1, h =>
      rw [List.getElem?_append_right (by rw [Array.length_toList, hs, Nat.add_mul]; omega), Array.length_toList, hs, show (k + 1) * s + j - s = k * s + j by rw [Nat.add_mul]; omega]
      exact ih k j x u h hu
theorem RowsAt.src (hs : ∀ x, (enc x).size = s) (h0 : 0 < s) {B : Nat} {w : World} {A : Option Addr} {m c : Nat} {l : List α} (h : RowsAt enc s B w (.slice A m c) l) : Src w s A m (l.flatMap fun x => (enc x).toList) ∧ m = l.length := by
  rcases h with ⟨h, rfl⟩ | ⟨b, off, cap, hv, hlt, hcap, hn, hc⟩
  · cases h
    exact ⟨⟨by simp, (fun _ => rfl), (fun _ h => by cases h)⟩, rfl⟩
  · cases hv
    refine ⟨⟨flat_len hs l, (fun h => by cases h), fun ad ha j u hu => ?_⟩, rfl⟩
    cases ha
    obtain ⟨x, hx, hu'⟩ := flat_get hs h0 l j u hu
    rw [Go.WideShapes.add_plain]
    have := hc _ x hx _ u hu'
    rw [show off + j = off + j / s * s + j % s by have := Nat.div_add_mod' j s; omega]
    exact this
theorem RowsAt.of_own (hs : ∀ x, (enc x).size = s) {w : World} {base : Nat} {e : TypeId} {v : Value} {n : Nat} {l : List α} (h : w.ownsRow base e s v n (l.flatMap fun x => (enc x).toList)) (hn : n = l.length) : RowsAt enc s w.heap.size w v l := by
  subst hn
  by_cases h0 : l = []
  · subst h0
    rcases h.2 with ⟨hv, _⟩ | ⟨g, cap, cur, hv, hb, hh, hnc, hm, hcs, hcur⟩
    · exact .inl ⟨hv, rfl⟩
    · unfold maxLen at hm
      exact .inr ⟨g, 0, cap, hv, (Array.getElem?_eq_some_iff.1 hh).1, by simp, by omega, fun k x hx => by simp at hx⟩
  · obtain ⟨g, cap, hv, _, hg, hnc, hm, hc⟩ := ownsRow_cells h (List.length_pos_iff.2 h0)
    unfold maxLen at hm
    exact .inr ⟨g, 0, cap, hv, hg, hnc, by omega, fun k x hx j u hu => by rw [Nat.zero_add]; exact hc _ _ (flat_at hs l k j x u hx hu)⟩
theorem RowsAt.take {B : Nat} {w : World} {A : Option Addr} {c : Nat} {l : List α} (h : RowsAt enc s B w (.slice A l.length c) l) (k : Nat) {m c' : Nat} (hm : (l.take k).length = m) (hc' : c' ≤ c) (hmc : m ≤ c') : RowsAt enc s B w (.slice A m c') (l.take k) := by
  rcases h with ⟨h, rfl⟩ | ⟨b, off, cap, hv, hlt, hcap, hn, hc⟩
  · cases h
    subst hm
    obtain rfl : c' = 0 := by omega
    exact .inl ⟨by simp, by simp⟩
  · cases hv
    subst hm
    refine .inr ⟨b, off, c', rfl, hlt, hmc, by omega, fun j x hx => hc j x ?_⟩
    rw [List.getElem?_take] at hx
    split at hx
    · exact hx
    · cases hx
/-- a slice laid in a block known whole -/
theorem RowsAt.of_blk (hs : ∀ x, (enc x).size = s) {w : World} {g : Nat} {t : TypeId} {cs : Array Value} {l : List α} {cap : Nat} (h : Blk w g t cs) (hc : ∃ r, cs.toList = (l.flatMap fun x => (enc x).toList) ++ r) (hcap : l.length ≤ cap) (h63 : cap ≤ 9223372036854775807) : RowsAt enc s w.heap.size w (.slice (some ⟨g, 0, none⟩) l.length cap) l := by
  obtain ⟨r, hr⟩ := hc
  refine .inr ⟨g, 0, cap, rfl, h.lt, hcap, h63, fun k x hx j u hu => ?_⟩
  have h1 := flat_at hs l k j x u hx hu
  refine h.at_ ?_
  rw [Nat.zero_add, ← Array.getElem?_toList, hr, List.getElem?_append_left (List.getElem?_eq_some_iff.1 h1).1]
  exact h1
end
end Go.Proofs.YtbggaijjgnjknaaDoor
