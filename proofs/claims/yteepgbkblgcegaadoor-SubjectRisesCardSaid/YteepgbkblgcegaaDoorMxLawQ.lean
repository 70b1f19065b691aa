/-
  PLAIN LAWS ON WHAT IS DONE TO A TABLE.
-/
import Derived.Test.YteepgbkblgcegaaDoorMxLawF
namespace Go.Proofs.YteepgbkblgcegaaDoor
open Go.RowKit

theorem startE_zero {l : List Sub} {who child : Int} (h0 : startE l who child = 0) : ∃ (k c : Nat) (p x : Sub), who = (k : Int) ∧ child = (c : Int) ∧ rightT l = true ∧ l[k]? = some p ∧ p.st = 1 ∧ l[c]? = some x ∧ x.par = (k : Int) ∧ x.st = 0 ∧ underL p.cur x.high = true ∧
    startL l who child = l.set c { x with st := 1, cur := p.cur } := by
  rcases exitE_cases l who with ⟨ho, _⟩ | ⟨_, ho⟩ | ⟨_, ho⟩
  · obtain ⟨k, p, rfl, hk, hp, hps⟩ := alive_el (open_alive ho).2
    cases hx : childO l child with
    | none => unfold startE at h0; rw [ho, hx] at h0; cases h0
    | some x =>
      obtain ⟨c, rfl, hxc⟩ := childO_some hx
      have e1 : startE l (k : Int) (c : Int) = if (x.par == (k : Int)) = true ∧ (x.st == 0) = true then (if underL p.cur x.high then 0 else 120) else 162 := by
        unfold startE; rw [ho, hx, Int.toNat_natCast, hp]
      have e2 : startL l (k : Int) (c : Int) = if (x.par == (k : Int)) = true ∧ (x.st == 0) = true then (if underL p.cur x.high then l.set c { x with st := 1, cur := p.cur } else []) else [] := by
        unfold startL; rw [ho, hx, Int.toNat_natCast, Int.toNat_natCast, hp]
      by_cases h1 : (x.par == (k : Int)) = true ∧ (x.st == 0) = true
      · rw [if_pos h1] at e1 e2
        cases hu : underL p.cur x.high
        · rw [hu] at e1; rw [e1] at h0; cases h0
        · rw [hu, if_pos rfl] at e2
          exact ⟨k, c, p, x, rfl, rfl, (open_alive ho).1, hp, hps, hxc, beq_iff_eq.1 h1.1, beq_iff_eq.1 h1.2, hu, e2⟩
      · rw [if_neg h1] at e1; rw [e1] at h0; cases h0
  · unfold startE at h0; rw [ho] at h0; cases h0
  · unfold startE at h0; rw [ho] at h0; cases h0
theorem sfloatE_zero {l : List Sub} {who : Int} {a : Lab} (h0 : sfloatE l who a = 0) : ∃ (k : Nat) (x : Sub), who = (k : Int) ∧ rightT l = true ∧ l[k]? = some x ∧ x.st = 1 ∧ floatE x.cur a x.high = 0 ∧ sfloatL l who a = l.set k { x with cur := floatL x.cur a x.high } := by
  rcases exitE_cases l who with ⟨ho, _⟩ | ⟨_, ho⟩ | ⟨_, ho⟩
  · obtain ⟨k, x, rfl, hk, hx, hs⟩ := alive_el (open_alive ho).2
    have e1 : sfloatE l (k : Int) a = floatE x.cur a x.high := by unfold sfloatE; rw [ho, Int.toNat_natCast, hx]
    have e2 : sfloatL l (k : Int) a = if floatE x.cur a x.high = 0 then l.set k { x with cur := floatL x.cur a x.high } else [] := by unfold sfloatL; rw [ho, Int.toNat_natCast, hx]
    rw [e1] at h0
    rw [if_pos h0] at e2
    exact ⟨k, x, rfl, (open_alive ho).1, hx, hs, h0, e2⟩
  · unfold sfloatE at h0; rw [ho] at h0; cases h0
  · unfold sfloatE at h0; rw [ho] at h0; cases h0
theorem exitE_zero {l : List Sub} {who : Int} (h0 : exitE l who = 0) : ∃ (k : Nat) (x : Sub), who = (k : Int) ∧ rightT l = true ∧ l[k]? = some x ∧ x.st = 1 ∧ exitL l who = l.set k { x with st := 2 } := by
  rcases exitE_cases l who with ⟨ho, _⟩ | ⟨h, _⟩ | ⟨h, _⟩
  · obtain ⟨k, x, rfl, hk, hx, hs⟩ := alive_el (open_alive ho).2
    exact ⟨k, x, rfl, (open_alive ho).1, hx, hs, by unfold exitL; rw [ho, Int.toNat_natCast, hx]⟩
  · rw [h] at h0; cases h0
  · rw [h] at h0; cases h0
theorem floatE_zero {c a h : Lab} (h0 : floatE c a h = 0) : okL c = true ∧ okL a = true ∧ okL h = true ∧ le3 (joinL c a) h = true ∧ floatL c a h = joinL c a := by
  unfold floatE at h0
  unfold floatL
  by_cases h1 : (okL c && okL a && okL h) = true
  · rw [if_pos h1] at h0 ⊢
    by_cases h2 : le3 (joinL c a) h = true
    · rw [if_pos h2]
      simp only [Bool.and_eq_true] at h1
      exact ⟨h1.1.1, h1.1.2, h1.2, h2, rfl⟩
    · rw [if_neg h2] at h0; cases h0
  · rw [if_neg h1] at h0; cases h0
/-- what one deed may change: one place of the table, and how -/
theorem done_cases (l : List Sub) (x : Deed) : doneL l x = l ∨ ∃ (c : Nat) (p y : Sub), l[c]? = some p ∧ doneL l x = l.set c y ∧ rightT l = true ∧ rightT (l.set c y) = true ∧ y.high = p.high ∧ y.par = p.par ∧ (p.st = 0 ∨ underL p.cur y.cur = true) ∧ p.st ≤ y.st ∧ p.st ≠ 2 ∧
    ((c : Int) = x.who ∨ (modD x = 0 ∧ (c : Int) = x.ch ∧ p.par = x.who)) := by
  unfold doneL
  by_cases h0 : doneE l x = 0
  · rw [if_pos h0]
    refine .inr ?_
    unfold doneE at h0
    unfold doneR
    by_cases h1 : modD x = 0
    · rw [if_pos h1] at h0 ⊢
      obtain ⟨k, c, p, z, hw, hc, hr, hp, hps, hz, hpar, hst, hu, e⟩ := startE_zero h0
      exact ⟨c, z, { z with st := 1, cur := p.cur }, hz, e, hr, (start_right hr hp hps hz hpar hst hu).2, rfl, rfl, .inl hst, by rw [hst]; exact (by decide : (0 : Int) ≤ 1), by omega, .inr ⟨h1, hc.symm, by rw [hpar, hw]⟩⟩
    · rw [if_neg h1] at h0 ⊢
      by_cases h2 : modD x = 1
      · rw [if_pos h2] at h0 ⊢
        obtain ⟨k, z, hw, hr, hz, hst, hf, e⟩ := sfloatE_zero h0
        obtain ⟨o1, o2, o3, hle, ef⟩ := floatE_zero hf
        rw [ef] at e
        refine ⟨k, z, { z with cur := joinL z.cur x.a }, hz, e, hr, float_right hr hz hst (underL_iff.2 ⟨okL_join o1 o2, o3, hle⟩), rfl, rfl, .inr (underL_iff.2 ⟨o1, okL_join o1 o2, le3_join_l _ _⟩), Int.le_refl _, by omega, .inl hw.symm⟩
      · rw [if_neg h2] at h0 ⊢
        obtain ⟨k, z, hw, hr, hz, hst, e⟩ := exitE_zero h0
        obtain ⟨_, _, h3⟩ := nextB_parts ((right_all'.1 hr).1 k z hz)
        have hun := (h3 (by omega)).2.2
        have hok := (underL_iff.1 hun).1
        exact ⟨k, z, { z with st := 2 }, hz, e, hr, exit_right hr hz hst, rfl, rfl, .inr (underL_iff.2 ⟨hok, hok, le3_self _⟩), by rw [hst]; exact (by decide : (1 : Int) ≤ 2), by omega, .inl hw.symm⟩
  · rw [if_neg h0]; exact .inl rfl
theorem done_len (l : List Sub) (x : Deed) : (doneL l x).length = l.length := by
  rcases done_cases l x with h | ⟨c, p, y, _, h, _⟩
  · rw [h]
  · rw [h, List.length_set]
theorem done_apart (l : List Sub) (x : Deed) (k : Nat) (p y : Sub) (hp : l[k]? = some p) (hy : (doneL l x)[k]? = some y) : y = p ∨ (k : Int) = x.who ∨ (modD x = 0 ∧ (k : Int) = x.ch ∧ p.par = x.who) := by
  rcases done_cases l x with h | ⟨c, p', y', hp', h, _, _, _, _, _, _, _, hc⟩
  · rw [h, hp] at hy; exact .inl (Option.some.inj hy).symm
  · rw [h] at hy
    by_cases e : k = c
    · subst e
      rw [hp] at hp'; cases hp'
      exact .inr hc
    · rw [List.getElem?_set_ne (Ne.symm e), hp] at hy
      exact .inl (Option.some.inj hy).symm
/-- from a table: what each becomes -/
structure Risen (p y : Sub) : Prop where
  up : p.st = 0 ∨ underL p.cur y.cur = true
  st : p.st ≤ y.st
  dead : p.st ≠ 2 ∨ y = p
  high : y.high = p.high
  par : y.par = p.par
  under : y.st = 0 ∨ underL y.cur y.high = true
theorem right_under {l : List Sub} {k : Nat} {p : Sub} (hr : rightT l = true) (hp : l[k]? = some p) : p.st = 0 ∨ underL p.cur p.high = true := by
  obtain ⟨_, _, h3⟩ := nextB_parts ((right_all'.1 hr).1 k p hp)
  by_cases h : p.st = 0
  · exact .inl h
  · exact .inr (h3 h).2.2
theorem right_self {l : List Sub} {k : Nat} {p : Sub} (hr : rightT l = true) (hp : l[k]? = some p) : p.st = 0 ∨ underL p.cur p.cur = true := by
  rcases right_under hr hp with h | h
  · exact .inl h
  · have hok := (underL_iff.1 h).1
    exact .inr (underL_iff.2 ⟨hok, hok, le3_self _⟩)
theorem done_right {l : List Sub} (x : Deed) (hr : rightT l = true) : rightT (doneL l x) = true := by
  rcases done_cases l x with h | ⟨c, p, y, _, h, _, h2, _⟩
  · rw [h]; exact hr
  · rw [h]; exact h2
theorem done_risen {l : List Sub} (x : Deed) (hr : rightT l = true) (k : Nat) (p y : Sub) (hp : l[k]? = some p) (hy : (doneL l x)[k]? = some y) : Risen p y := by
  have hu := right_under (done_right x hr) hy
  rcases done_cases l x with h | ⟨c, p', y', hp', h, _, _, h1, h2, h3, h4, h5, _⟩
  · rw [h, hp] at hy
    cases hy
    exact ⟨right_self hr hp, Int.le_refl _, .inr rfl, rfl, rfl, hu⟩
  · rw [h] at hy
    by_cases e : k = c
    · subst e
      rw [hp] at hp'; cases hp'
      rw [List.getElem?_set_self (List.getElem?_eq_some_iff.1 hp).1] at hy
      cases hy
      exact ⟨h3, h4, .inl h5, h1, h2, hu⟩
    · rw [List.getElem?_set_ne (Ne.symm e), hp] at hy
      cases hy
      exact ⟨right_self hr hp, Int.le_refl _, .inr rfl, rfl, rfl, hu⟩
end Go.Proofs.YteepgbkblgcegaaDoor
