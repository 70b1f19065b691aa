/-
  PLAIN LAWS ON TABLES OF SUBJECTS: what is a table stays one.
-/
import Derived.Test.YteepgbkblgcegaaDoorM5
namespace Go.Proofs.YteepgbkblgcegaaDoor
open Go.RowKit

theorem startedB_mono {l l' : List Sub} {z : Sub} (h : ∀ (k : Nat) p, l[k]? = some p → p.st ≠ 0 → ∃ p', l'[k]? = some p' ∧ p'.st ≠ 0) (hs : startedB l z = true) : startedB l' z = true := by
  unfold startedB at hs ⊢
  rw [Bool.or_eq_true] at hs ⊢
  rcases hs with hs | hs
  · exact .inl hs
  · refine .inr ?_
    rw [Bool.and_eq_true] at hs ⊢
    refine ⟨hs.1, ?_⟩
    cases hp : l[z.par.toNat]? with
    | none => rw [hp] at hs; simp at hs
    | some p =>
      rw [hp] at hs
      obtain ⟨p', h1, h2⟩ := h _ p hp (by simpa using hs.2)
      rw [h1]; simpa using h2
theorem nextB_mono {l l' : List Sub} {z : Sub} (hlen : l'.length = l.length) (h : ∀ (k : Nat) p, l[k]? = some p → p.st ≠ 0 → ∃ p', l'[k]? = some p' ∧ p'.st ≠ 0) (hz : nextB l z = true) : nextB l' z = true := by
  unfold nextB at hz ⊢
  rw [hlen]
  split
  · rename_i hb; rw [if_pos hb] at hz; cases hz
  · rename_i hb
    rw [if_neg hb] at hz
    split
    · rename_i h0; rw [if_pos h0] at hz; exact hz
    · rename_i h0
      rw [if_neg h0] at hz
      split
      · rename_i h1
        rw [if_pos h1] at hz
        rw [Bool.and_eq_true] at hz ⊢
        exact ⟨startedB_mono h hz.1, hz.2⟩
      · rename_i h1; rw [if_neg h1] at hz; cases hz
theorem nextB_parts {l : List Sub} {z : Sub} (h : nextB l z = true) : ¬ (z.par < -1 ∨ (l.length : Int) ≤ z.par ∨ okL z.high = false) ∧ (z.st = 0 → 0 ≤ z.par ∧ z.cur = zeroL) ∧ (z.st ≠ 0 → (z.st = 1 ∨ z.st = 2) ∧ startedB l z = true ∧ underL z.cur z.high = true) := by
  unfold nextB at h
  split at h
  · cases h
  · rename_i hb
    refine ⟨hb, ?_, ?_⟩
    · intro h0
      rw [if_pos h0] at h
      simp only [Bool.and_eq_true, decide_eq_true_eq] at h
      exact ⟨h.1, eqL_iff.1 h.2⟩
    · intro h0
      rw [if_neg h0] at h
      split at h
      · rename_i h1
        rw [Bool.and_eq_true] at h
        exact ⟨h1, h.1, h.2⟩
      · cases h
theorem nextB_mk {l : List Sub} {z : Sub} (hb : ¬ (z.par < -1 ∨ (l.length : Int) ≤ z.par ∨ okL z.high = false)) (hs : z.st = 1 ∨ z.st = 2) (h1 : startedB l z = true) (h2 : underL z.cur z.high = true) : nextB l z = true := by
  unfold nextB
  rw [if_neg hb, if_neg (by omega), if_pos hs, h1, h2]; rfl
theorem right_all' {l : List Sub} : rightT l = true ↔ (∀ i x, l[i]? = some x → nextB (l.take i) x = true) ∧ l.length ≤ 8 := by
  unfold rightT
  rw [Bool.and_eq_true, allNext_iff, decide_eq_true_eq]
theorem right_set {l : List Sub} {c : Nat} {x y : Sub} (hr : rightT l = true) (hx : l[c]? = some x) (hy : nextB (l.take c) y = true) (hst : x.st ≠ 0 → y.st ≠ 0) : rightT (l.set c y) = true := by
  obtain ⟨h1, h2⟩ := right_all'.1 hr
  have hc : c < l.length := (List.getElem?_eq_some_iff.1 hx).1
  refine right_all'.2 ⟨fun i z hz => ?_, by rw [List.length_set]; exact h2⟩
  have mono : ∀ w, nextB (l.take i) w = true → nextB ((l.set c y).take i) w = true := fun w hw => by
    refine nextB_mono (by simp) (fun k p hp h0 => ?_) hw
    rw [List.getElem?_take] at hp
    split at hp
    · rename_i hki
      by_cases hkc : k = c
      · subst hkc
        rw [hx] at hp; cases hp
        exact ⟨y, by rw [List.getElem?_take, if_pos hki, List.getElem?_set_self hc], hst h0⟩
      · exact ⟨p, by rw [List.getElem?_take, if_pos hki, List.getElem?_set_ne (Ne.symm hkc)]; exact hp, h0⟩
    · cases hp
  by_cases hic : i = c
  · subst hic
    rw [List.getElem?_set_self hc] at hz
    cases hz
    exact mono _ hy
  · rw [List.getElem?_set_ne (Ne.symm hic)] at hz
    exact mono _ (h1 i z hz)
theorem alive_iff {l : List Sub} {k : Nat} : aliveT l (k : Int) = true ↔ rightT l = true ∧ ∃ x, l[k]? = some x ∧ x.st = 1 := by
  constructor
  · intro h
    obtain ⟨k', x, e, _, hx, hs⟩ := alive_el h
    have : k = k' := by omega
    subst this
    refine ⟨?_, x, hx, hs⟩
    cases hr : rightT l
    · rw [alive_no hr] at h; cases h
    · rfl
  · rintro ⟨hr, x, hx, hs⟩
    rw [alive_in hr hx, hs]; rfl
theorem open_none {l : List Sub} {who : Int} : openO l who = none ↔ rightT l = true ∧ aliveT l who = true := by
  constructor
  · exact open_alive
  · rintro ⟨h1, h2⟩; rw [openO_eq h1 h2]; rfl
theorem open_dead {l : List Sub} {who : Int} (h1 : rightT l = true) (h2 : aliveT l who = false) : openO l who = some 161 := by rw [openO_eq h1 h2]; rfl
theorem exit_right {l : List Sub} {k : Nat} {x : Sub} (hr : rightT l = true) (hx : l[k]? = some x) (hs : x.st = 1) : rightT (l.set k { x with st := 2 }) = true := by
  have hn := (right_all'.1 hr).1 k x hx
  obtain ⟨hb, _, h2⟩ := nextB_parts hn
  obtain ⟨_, h3, h4⟩ := h2 (by omega)
  exact right_set hr hx (nextB_mk hb (.inr rfl) h3 h4) (fun _ => (by decide : (2 : Int) ≠ 0))
theorem float_right {l : List Sub} {k : Nat} {x : Sub} {z : Lab} (hr : rightT l = true) (hx : l[k]? = some x) (hs : x.st = 1) (hz : underL z x.high = true) : rightT (l.set k { x with cur := z }) = true := by
  have hn := (right_all'.1 hr).1 k x hx
  obtain ⟨hb, _, h2⟩ := nextB_parts hn
  obtain ⟨_, h3, h4⟩ := h2 (by omega)
  exact right_set hr hx (nextB_mk hb (.inl hs) h3 hz) (fun h => h)
theorem start_right {l : List Sub} {k c : Nat} {p x : Sub} (hr : rightT l = true) (hp : l[k]? = some p) (hps : p.st = 1) (hx : l[c]? = some x) (hpar : x.par = (k : Int)) (hs : x.st = 0) (hu : underL p.cur x.high = true) :
    k < c ∧ rightT (l.set c { x with st := 1, cur := p.cur }) = true := by
  have hn := (right_all'.1 hr).1 c x hx
  obtain ⟨hb, h1, _⟩ := nextB_parts hn
  have hc : c < l.length := (List.getElem?_eq_some_iff.1 hx).1
  have hkc : k < c := by
    have : ¬ ((l.take c).length : Int) ≤ x.par := fun h => hb (.inr (.inl h))
    rw [List.length_take] at this; omega
  refine ⟨hkc, right_set hr hx (nextB_mk hb (.inl rfl) ?_ hu) (fun h => absurd hs h)⟩
  rw [started_k (x := { x with st := 1, cur := p.cur }) (p := p) hpar (by rw [List.getElem?_take, if_pos hkc]; exact hp), hps]; rfl
end Go.Proofs.YteepgbkblgcegaaDoor
