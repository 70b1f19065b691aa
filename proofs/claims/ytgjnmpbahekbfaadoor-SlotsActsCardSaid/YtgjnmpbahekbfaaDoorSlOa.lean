/-
  STATEMENT SlotsOnce: plain laws on what is told and what is gone; the two lists in memory beside the slots.
-/
import Derived.Test.YtgjnmpbahekbfaaDoorSlZ
namespace Go.Proofs.YtgjnmpbahekbfaaDoor
open Go.RowKit

def ToldOk (gen : List Int) (T : List Hd) : Prop := ∀ y, y ∈ T → ∃ (s : Nat) (g : Int), y.slot = s ∧ gen[s]? = some g ∧ y.gen ≤ g
def GoneOk (gen : List Int) (tk : List Bool) (K : List Hd) : Prop := ∀ y, y ∈ K → ∃ (s : Nat) (g : Int), y.slot = s ∧ gen[s]? = some g ∧ (y.gen < g ∨ (y.gen = g ∧ tk[s]? = some false))
theorem set_ge {gen : List Int} {q s : Nat} {x g : Int} (hx : gen[q]? = some x) (hg : gen[s]? = some g) : ∃ g', (gen.set q (x + 1))[s]? = some g' ∧ g ≤ g' ∧ (s = q → g < g') := by
  have hq := (List.getElem?_eq_some_iff.1 hx).1
  by_cases e : q = s
  · subst e
    rw [hx] at hg
    cases hg
    exact ⟨x + 1, by rw [List.getElem?_set_self hq], by omega, fun _ => by omega⟩
  · exact ⟨g, by rw [List.getElem?_set_ne e]; exact hg, Int.le_refl _, fun h => absurd h.symm e⟩
theorem ToldOk.fresh {gen : List Int} {T : List Hd} (h : ToldOk gen T) {q : Nat} {x : Int} (hx : gen[q]? = some x) : (⟨q, x + 1⟩ : Hd) ∉ T := fun hm => by
  obtain ⟨s, g, h1, h2, h3⟩ := h _ hm
  have h1' : (q : Int) = (s : Int) := h1
  obtain rfl : q = s := by omega
  rw [hx] at h2
  cases h2
  have h3' : x + 1 ≤ x := h3
  omega
theorem ToldOk.take {gen : List Int} {T : List Hd} (h : ToldOk gen T) {q : Nat} {x : Int} (hx : gen[q]? = some x) : ToldOk (gen.set q (x + 1)) (T ++ [⟨q, x + 1⟩]) := by
  intro y hy
  rw [List.mem_append, List.mem_singleton] at hy
  rcases hy with hy | rfl
  · obtain ⟨s, g, h1, h2, h3⟩ := h y hy
    obtain ⟨g', e1, e2, _⟩ := set_ge hx h2
    exact ⟨s, g', h1, e1, by omega⟩
  · exact ⟨q, x + 1, rfl, by rw [List.getElem?_set_self (List.getElem?_eq_some_iff.1 hx).1], Int.le_refl _⟩
theorem GoneOk.take {gen : List Int} {tk : List Bool} {K : List Hd} (h : GoneOk gen tk K) {q : Nat} {x : Int} (hx : gen[q]? = some x) : GoneOk (gen.set q (x + 1)) (tk.set q true) K := by
  intro y hy
  obtain ⟨s, g, h1, h2, h3⟩ := h y hy
  obtain ⟨g', e1, e2, e3⟩ := set_ge hx h2
  by_cases e : s = q
  · exact ⟨s, g', h1, e1, .inl (by have := e3 e; rcases h3 with h3 | h3 <;> omega)⟩
  · rcases h3 with h3 | ⟨h3, h4⟩
    · exact ⟨s, g', h1, e1, .inl (by omega)⟩
    · rw [List.getElem?_set_ne (Ne.symm e)] at e1
      rw [h2] at e1
      cases e1
      exact ⟨s, g, h1, by rw [List.getElem?_set_ne (Ne.symm e)]; exact h2, .inr ⟨h3, by rw [List.getElem?_set_ne (Ne.symm e)]; exact h4⟩⟩
theorem GoneOk.give {gen : List Int} {tk : List Bool} {K : List Hd} (h : GoneOk gen tk K) {a : Nat} {g : Int} (ht : tk[a]? = some true) (hg : gen[a]? = some g) : GoneOk gen (tk.set a false) (K ++ [⟨a, g⟩]) := by
  intro y hy
  have ha := (List.getElem?_eq_some_iff.1 ht).1
  rw [List.mem_append, List.mem_singleton] at hy
  rcases hy with hy | rfl
  · obtain ⟨s, g', h1, h2, h3⟩ := h y hy
    refine ⟨s, g', h1, h2, h3.imp id (fun h => ⟨h.1, ?_⟩)⟩
    by_cases e : a = s
    · subst e; rw [List.getElem?_set_self ha]
    · rw [List.getElem?_set_ne e]; exact h.2
  · exact ⟨a, g, rfl, hg, .inr ⟨rfl, by rw [List.getElem?_set_self ha]⟩⟩
theorem GoneOk.dead {gen : List Int} {tk : List Bool} {K : List Hd} (h : GoneOk gen tk K) {y : Hd} (hy : y ∈ K) (n : Nat) : y ∉ liveTo gen tk n := fun hl => by
  obtain ⟨s, g, h1, h2, h3⟩ := h y hy
  obtain ⟨i, _, e1, e2, e3⟩ := live_mem_iff.1 hl
  obtain rfl : i = s := by omega
  rw [h2] at e3
  cases e3
  rcases h3 with h3 | ⟨_, h3⟩
  · omega
  · rw [e2] at h3; cases h3
theorem least_free (gen : List Int) (tk : List Bool) : (∃ i, FreeAt gen tk i ∧ ∀ j, j < i → ¬ FreeAt gen tk j) ∨ ∀ j, ¬ FreeAt gen tk j := by
  have key : ∀ n, (∃ i, FreeAt gen tk i ∧ ∀ j, j < i → ¬ FreeAt gen tk j) ∨ ∀ j, j < n → ¬ FreeAt gen tk j := by
    intro n
    induction n with
    | zero => exact .inr (fun j h => absurd h (by omega))
    | succ n ih =>
      rcases ih with h | h
      · exact .inl h
      · by_cases hf : FreeAt gen tk n
        · exact .inl ⟨n, hf, h⟩
        · refine .inr (fun j hj => ?_)
          by_cases e : j < n
          · exact h j e
          · obtain rfl : j = n := by omega
            exact hf
  rcases key gen.length with h | h
  · exact .inl h
  · refine .inr (fun j hf => ?_)
    obtain ⟨_, g, hg, _⟩ := hf
    exact h j (List.getElem?_eq_some_iff.1 hg).1 ⟨by assumption, g, hg, by assumption⟩
/-- a row of handles that the call owns -/
def RowH (b : Nat) (W : World) (v : Value) (l : List Hd) : Prop := W.ownsRow b 28 2 v l.length (hcells l)
theorem RowH.keepT {b : Nat} {W W' : World} {v : Value} {l : List Hd} {T : Nat → Prop} (h : RowH b W v l) (k : Turns T W W') (hT : ∀ g, v.ownBlock = some g → ¬ T g) : RowH b W' v l := by
  obtain ⟨h1, h2⟩ := h
  refine ⟨h1, ?_⟩
  rcases h2 with h2 | ⟨g, cap, cur, rfl, hg, hh, r⟩
  · exact .inl h2
  · exact .inr ⟨g, cap, cur, rfl, hg, k.same _ _ hh (.inl (hT g rfl)), r⟩
theorem RowH.blk {b : Nat} {W : World} {v : Value} {l : List Hd} (h : RowH b W v l) {g : Nat} (hg : v.ownBlock = some g) : b ≤ g ∧ ∃ cs, Blk W g 28 cs := by
  obtain ⟨h1, h2⟩ := h
  rcases h2 with ⟨rfl, _⟩ | ⟨g', cap, cur, rfl, hb, hh, r⟩
  · simp [Value.ownBlock] at hg
  · obtain rfl : g' = g := by simpa [Value.ownBlock] using hg
    exact ⟨hb, cur, hh⟩
theorem RowH.hds {b : Nat} {W : World} {v : Value} {l : List Hd} (h : RowH b W v l) : HdsAt W v l := HdsAt.of h
/-- the slots, what is told, what is gone, as they lie -/
structure OnceM (w W : World) (base sb gb tb : Nat) (vr vt vk : Value) (m : Nat) (gen : List Int) (tk : List Bool) (T K : List Hd) : Prop where
  sl : Well base W sb gb tb vr m gen tk
  rt : RowH w.heap.size W vt T
  rk : RowH w.heap.size W vk K
  ap : ∀ g, vt.ownBlock = some g → vk.ownBlock ≠ some g
  bl : Below w.heap.size w W
section
variable {w W W' : World} {base sb gb tb : Nat} {vr vt vk : Value} {m : Nat} {gen : List Int} {tk : List Bool} {T K : List Hd}
theorem OnceM.after (h : OnceM w W base sb gb tb vr vt vk m gen tk T K) (hb : Below W.heap.size W W') : OnceM w W' base sb gb tb vr vt vk m gen tk T K :=
  ⟨h.sl.after hb, h.rt.keepT (T := fun _ => False) (Turns.of_below hb) (fun _ _ => id), h.rk.keepT (T := fun _ => False) (Turns.of_below hb) (fun _ _ => id), h.ap, below_call (w := w) h.bl hb⟩
theorem OnceM.alloc (h : OnceM w W base sb gb tb vr vt vk m gen tk T K) (o : Obj) : OnceM w (W.alloc o) base sb gb tb vr vt vk m gen tk T K := h.after (below_alloc (Below.refl _ _) _)
theorem Well.apart {n : Nat} (H : Well base W sb gb tb vr n gen tk) {g : Nat} {cs : Array Value} (hb : Blk W g 28 cs) : g ≠ sb ∧ g ≠ gb ∧ g ≠ tb ∧ vr.ownBlock ≠ some g := by
  obtain ⟨h, un, H, -⟩ := H
  exact ⟨blk_apart hb H.s (by decide), blk_apart hb H.g (by decide), blk_apart hb H.t (by decide), fun e => H.h.own_ne hb (by decide) e rfl⟩
/-- the slots turn -/
theorem OnceM.turn (h : OnceM w W base sb gb tb vr vt vk m gen tk T K) (hT : Turns (OwnS sb gb tb vr W.heap.size) W W') (hm : w.heap.size ≤ sb ∧ w.heap.size ≤ gb ∧ w.heap.size ≤ tb ∧ w.heap.size ≤ base) {v' : Value} {gen' : List Int} {tk' : List Bool} (hW : Well base W' sb gb tb v' m gen' tk') : OnceM w W' base sb gb tb v' vt vk m gen' tk' T K := by
  have key : ∀ (l : List Hd) (v : Value), RowH w.heap.size W v l → RowH w.heap.size W' v l := by
    intro l v hv
    refine hv.keepT hT (fun g hg => ?_)
    obtain ⟨_, cs, hb⟩ := hv.blk hg
    obtain ⟨a1, a2, a3, a4⟩ := h.sl.apart hb
    have hl := hb.lt
    rintro (e | e | e | e | e)
    · exact a1 e
    · exact a2 e
    · exact a3 e
    · exact a4 e
    · omega
  exact ⟨hW, key _ _ h.rt, key _ _ h.rk, h.ap, h.sl.down hT h.bl hm⟩
/-- a row grows: what is touched -/
theorem RowH.grows {b : Nat} {v : Value} {l : List Hd} {w1 : World} {tmp : Obj} (h : RowH b W v l) (hgrow : (W.alloc tmp).grownBy w1 v.ownBlock) : Turns (fun k => v.ownBlock = some k ∨ W.heap.size ≤ k) W w1 := by
  refine ((Turns.refl _ W).alloc tmp).grown hgrow (fun k hk => ⟨.inl hk, fun o ho => ?_⟩)
  obtain ⟨_, cs, hb⟩ := h.blk hk
  have := hb.alloc tmp
  rw [show (W.alloc tmp).heap[k]? = _ from this] at ho
  cases ho; rfl
theorem Well.rowed {n : Nat} (H : Well base W sb gb tb vr n gen tk) {b : Nat} {v : Value} {l : List Hd} (h : RowH b W v l) (hT : Turns (fun k => v.ownBlock = some k ∨ W.heap.size ≤ k) W W') : Well base W' sb gb tb vr n gen tk := by
  obtain ⟨l0, l1, l2, l3⟩ := H.lts
  have key : ∀ g, v.ownBlock = some g → g ≠ sb ∧ g ≠ gb ∧ g ≠ tb ∧ vr.ownBlock ≠ some g := fun g hg => by
    obtain ⟨_, cs, hb⟩ := h.blk hg
    exact H.apart hb
  refine H.keepT hT ?_ ?_ ?_ (fun g hg => ?_)
  · rintro (e | e)
    · exact (key _ e).1 rfl
    · omega
  · rintro (e | e)
    · exact (key _ e).2.1 rfl
    · omega
  · rintro (e | e)
    · exact (key _ e).2.2.1 rfl
    · omega
  · rintro (e | e)
    · exact (key _ e).2.2.2 hg
    · have := l3 _ hg; omega
theorem OnceM.told (h : OnceM w W base sb gb tb vr vt vk m gen tk T K) {w1 : World} {tmp : Obj} {v' : Value} {x : Hd} (hown : w1.ownsRow w.heap.size 28 2 v' (T.length + 1) (hcells T ++ [.int .i64 x.slot, .int .i64 x.gen])) (hgrow : (W.alloc tmp).grownBy w1 vt.ownBlock) (ho : v'.ownBlock = vt.ownBlock ∨ v'.ownBlock = some (W.alloc tmp).heap.size) :
    OnceM w w1 base sb gb tb vr v' vk m gen tk (T ++ [x]) K := by
  have hT := h.rt.grows hgrow
  have hz : (W.alloc tmp).heap.size = W.heap.size + 1 := Array.size_push _
  have kl : ∀ g, vk.ownBlock = some g → g < W.heap.size := fun g hg => by obtain ⟨_, cs, hb⟩ := h.rk.blk hg; exact hb.lt
  refine ⟨h.sl.rowed h.rt hT, ?_, h.rk.keepT hT ?_, ?_, h.bl.trans (hT.down h.bl.size ?_)⟩
  · unfold RowH
    rw [List.length_append, hcells_snoc]
    exact hown
  · rintro g hg (e | e)
    · exact h.ap g e hg
    · have := kl g hg; omega
  · intro g hg hk
    rcases ho with e | e
    · exact h.ap g (e ▸ hg) hk
    · rw [e] at hg
      cases hg
      have := kl _ hk; omega
  · rintro k (e | e)
    · exact (h.rt.blk e).1
    · have := h.bl.size; omega
theorem OnceM.gone (h : OnceM w W base sb gb tb vr vt vk m gen tk T K) {w1 : World} {tmp : Obj} {v' : Value} {x : Hd} (hown : w1.ownsRow w.heap.size 28 2 v' (K.length + 1) (hcells K ++ [.int .i64 x.slot, .int .i64 x.gen])) (hgrow : (W.alloc tmp).grownBy w1 vk.ownBlock) (ho : v'.ownBlock = vk.ownBlock ∨ v'.ownBlock = some (W.alloc tmp).heap.size) :
    OnceM w w1 base sb gb tb vr vt v' m gen tk T (K ++ [x]) := by
  have hs : OnceM w W base sb gb tb vr vk vt m gen tk K T := ⟨h.sl, h.rk, h.rt, fun g hg hk => h.ap g hk hg, h.bl⟩
  have hr := hs.told hown hgrow ho
  exact ⟨hr.sl, hr.rk, hr.rt, fun g hg hk => hr.ap g hk hg, hr.bl⟩
end
end Go.Proofs.YtgjnmpbahekbfaaDoor
