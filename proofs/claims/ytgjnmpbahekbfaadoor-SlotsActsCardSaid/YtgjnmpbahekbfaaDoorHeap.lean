/-
  HEAPS OF NUMBERS, plain: what up and down keep.
-/
import Derived.Test.YtgjnmpbahekbfaaDoorSlF
namespace Go.Proofs.YtgjnmpbahekbfaaDoor

theorem at0_swap {h : List Int} {i j : Nat} (hi : i < h.length) (hj : j < h.length) (k : Nat) : at0 (swapL h i j) k = if k = j then at0 h i else if k = i then at0 h j else at0 h k := by
  unfold swapL at0
  rw [List.getElem?_set, List.length_set]
  by_cases h1 : k = j
  · rw [if_pos h1.symm, if_pos hj, if_pos h1]; rfl
  · rw [if_neg (Ne.symm h1), if_neg h1, List.getElem?_set]
    by_cases h2 : k = i
    · rw [if_pos h2.symm, if_pos hi, if_pos h2]; rfl
    · rw [if_neg (Ne.symm h2), if_neg h2]
/-- the first n are a heap -/
def IsHeap (h : List Int) (n : Nat) : Prop := ∀ i, 0 < i → i < n → at0 h ((i - 1) / 2) ≤ at0 h i
def UpInv (h : List Int) (n j : Nat) : Prop := (∀ i, 0 < i → i < n → i ≠ j → at0 h ((i - 1) / 2) ≤ at0 h i) ∧ (∀ i, 0 < i → i < n → (i - 1) / 2 = j → 0 < j → at0 h ((j - 1) / 2) ≤ at0 h i)
theorem UpInv.step {h : List Int} {n k : Nat} (I : UpInv h n (k + 1)) (hn : n ≤ h.length) (hk : k + 1 < n) (hl : at0 h (k + 1) < at0 h (k / 2)) : UpInv (swapL h (k / 2) (k + 1)) n (k / 2) := by
  obtain ⟨h1, h2⟩ := I
  have sw := at0_swap (h := h) (i := k / 2) (j := k + 1) (by omega) (by omega)
  constructor
  · intro i h0 hin hne
    rw [sw, sw]
    by_cases e1 : i = k + 1
    · subst e1
      rw [if_neg (by omega), if_pos (by omega), if_pos rfl]; omega
    · rw [if_neg e1, if_neg hne]
      by_cases e2 : (i - 1) / 2 = k + 1
      · rw [if_pos e2]
        have := h2 i h0 hin e2 (by omega)
        rw [Nat.add_sub_cancel] at this; exact this
      · rw [if_neg e2]
        by_cases e3 : (i - 1) / 2 = k / 2
        · rw [if_pos e3]
          have := h1 i h0 hin e1
          rw [e3] at this; omega
        · rw [if_neg e3]; exact h1 i h0 hin e1
  · intro i h0 hin hp hj
    rw [sw, sw, if_neg (by omega), if_neg (by omega)]
    have hpp := h1 (k / 2) hj (by omega) (by omega)
    by_cases e1 : i = k + 1
    · rw [if_pos e1]; exact hpp
    · rw [if_neg e1, if_neg (by omega)]
      have := h1 i h0 hin e1
      rw [hp] at this; omega
theorem up_heap {n : Nat} : ∀ (j : Nat) (h : List Int), n ≤ h.length → j < n → UpInv h n j → IsHeap (upL h j) n := fun j => by
  induction j using Nat.strongRecOn with
  | _ j ih =>
    intro h hn hj I
    match j, I, hj with
    | 0, I, _ =>
      rw [upL_zero]
      exact fun i h0 hi => I.1 i h0 hi (by omega)
    | k + 1, I, hj =>
      by_cases hl : at0 h (k + 1) < at0 h (k / 2)
      · rw [upL_yes hl]
        exact ih _ (by omega) _ (by rw [swapL_len]; exact hn) (by omega) (I.step hn hj hl)
      · rw [upL_no hl]
        intro i h0 hi
        by_cases e : i = k + 1
        · subst e; rw [Nat.add_sub_cancel]; omega
        · exact I.1 i h0 hi e
def DownInv (h : List Int) (n i : Nat) : Prop := (∀ c, 0 < c → c < n → (c - 1) / 2 ≠ i → at0 h ((c - 1) / 2) ≤ at0 h c) ∧ (∀ c, 0 < c → c < n → (c - 1) / 2 = i → 0 < i → at0 h ((i - 1) / 2) ≤ at0 h c)
theorem leastC_le {h : List Int} {i n : Nat} (_hl : 2 * i + 1 < n) : ∀ c, 0 < c → c < n → (c - 1) / 2 = i → at0 h (leastC h i n) ≤ at0 h c := by
  intro c h0 hc hp
  have : c = 2 * i + 1 ∨ c = 2 * i + 2 := by omega
  unfold leastC
  split
  · rename_i hx
    rcases this with rfl | rfl
    · omega
    · exact Int.le_refl _
  · rename_i hx
    rcases this with rfl | rfl
    · exact Int.le_refl _
    · have : ¬ at0 h (2 * i + 2) < at0 h (2 * i + 1) := fun hy => hx ⟨hc, hy⟩
      omega
theorem leastC_par {h : List Int} {i n : Nat} : (leastC h i n - 1) / 2 = i := by unfold leastC; split <;> omega
theorem DownInv.step {h : List Int} {n i : Nat} (I : DownInv h n i) (hn : n ≤ h.length) (hl : 2 * i + 1 < n) (hlt : at0 h (leastC h i n) < at0 h i) : DownInv (swapL h i (leastC h i n)) n (leastC h i n) := by
  obtain ⟨h1, h2⟩ := I
  obtain ⟨l1, l2⟩ := leastC_lt (h := h) hl
  have lp := leastC_par (h := h) (i := i) (n := n)
  have le := leastC_le (h := h) hl
  generalize leastC h i n = j at *
  have sw := at0_swap (h := h) (i := i) (j := j) (by omega) (by omega)
  constructor
  · intro c h0 hc hne
    rw [sw, sw, if_neg hne]
    by_cases e1 : (c - 1) / 2 = i
    · rw [if_pos e1]
      by_cases e2 : c = j
      · rw [if_pos e2]; omega
      · rw [if_neg e2, if_neg (by omega)]; exact le c h0 hc e1
    · rw [if_neg e1]
      by_cases e2 : c = i
      · subst e2
        rw [if_neg (by omega), if_pos rfl]
        exact h2 j (by omega) l2 lp h0
      · rw [if_neg (fun e => e1 (by rw [e]; exact lp)), if_neg e2]
        exact h1 c h0 hc e1
  · intro c h0 hc hp hj
    rw [sw, sw, lp, if_neg (by omega), if_pos rfl, if_neg (by omega), if_neg (by omega)]
    have := h1 c h0 hc (by omega)
    rw [hp] at this; exact this
theorem down_heap {n : Nat} (h : List Int) (i : Nat) (hn : n ≤ h.length) (I : DownInv h n i) : IsHeap (downL h i n) n := by
  generalize hm : n - i = m
  induction m using Nat.strongRecOn generalizing h i with
  | _ m ih =>
    by_cases hl : 2 * i + 1 < n
    · by_cases hlt : at0 h (leastC h i n) < at0 h i
      · have := leastC_lt (h := h) hl
        rw [downL_yes hl hlt]
        exact ih _ (by omega) _ _ (by rw [swapL_len]; exact hn) (I.step hn hl hlt) rfl
      · rw [downL_no hl hlt]
        intro c h0 hc
        by_cases e : (c - 1) / 2 = i
        · rw [e]
          have := leastC_le (h := h) hl c h0 hc e
          omega
        · exact I.1 c h0 hc e
    · rw [downL_end hl]
      intro c h0 hc
      exact I.1 c h0 hc (by omega)
/-- beyond the first n nothing moves -/
theorem down_far {n : Nat} (h : List Int) (i k : Nat) (hn : n ≤ h.length) (hk : n ≤ k) : at0 (downL h i n) k = at0 h k := by
  generalize hm : n - i = m
  induction m using Nat.strongRecOn generalizing h i with
  | _ m ih =>
    by_cases hl : 2 * i + 1 < n
    · by_cases hlt : at0 h (leastC h i n) < at0 h i
      · have := leastC_lt (h := h) hl
        rw [downL_yes hl hlt, ih _ (by omega) _ _ (by rw [swapL_len]; exact hn) rfl, at0_swap (by omega) (by omega), if_neg (by omega), if_neg (by omega)]
      · rw [downL_no hl hlt]
    · rw [downL_end hl]
theorem swap_perm {h : List Int} {i j : Nat} (hi : i < h.length) (hj : j < h.length) : (swapL h i j).Perm h := by
  have := List.set_set_perm hi hj
  unfold swapL at0
  rw [List.getElem?_eq_getElem hi, List.getElem?_eq_getElem hj]
  exact this
theorem up_perm : ∀ (j : Nat) (h : List Int), j < h.length → (upL h j).Perm h := fun j => by
  induction j using Nat.strongRecOn with
  | _ j ih =>
    intro h hj
    match j, hj with
    | 0, _ => rw [upL_zero]
    | k + 1, hj =>
      by_cases hl : at0 h (k + 1) < at0 h (k / 2)
      · rw [upL_yes hl]
        exact (ih _ (by omega) _ (by rw [swapL_len]; omega)).trans (swap_perm (by omega) hj)
      · rw [upL_no hl]
theorem down_perm {n : Nat} (h : List Int) (i : Nat) (hn : n ≤ h.length) : (downL h i n).Perm h := by
  generalize hm : n - i = m
  induction m using Nat.strongRecOn generalizing h i with
  | _ m ih =>
    by_cases hl : 2 * i + 1 < n
    · by_cases hlt : at0 h (leastC h i n) < at0 h i
      · have := leastC_lt (h := h) hl
        rw [downL_yes hl hlt]
        exact (ih _ (by omega) _ _ (by rw [swapL_len]; exact hn) rfl).trans (swap_perm (by omega) (by omega))
      · rw [downL_no hl hlt]
    · rw [downL_end hl]
/-- the least stands first -/
theorem heap_least {h : List Int} {n : Nat} (H : IsHeap h n) : ∀ i, i < n → at0 h 0 ≤ at0 h i := fun i => by
  induction i using Nat.strongRecOn with
  | _ i ih =>
    intro hi
    by_cases h0 : i = 0
    · subst h0; exact Int.le_refl _
    · have h1 := H i (by omega) hi
      have h2 := ih ((i - 1) / 2) (by omega) (by omega)
      omega
theorem push_heap {h : List Int} {x : Int} (H : IsHeap h h.length) : IsHeap (upL (h ++ [x]) h.length) (h.length + 1) := by
  refine up_heap h.length (h ++ [x]) (by rw [List.length_append]; simp) (by omega) ⟨fun i h0 hi hne => ?_, fun i h0 hi hp _ => by omega⟩
  have hg : ∀ k, k < h.length → at0 (h ++ [x]) k = at0 h k := fun k hk => by unfold at0; rw [List.getElem?_append_left hk]
  rw [hg _ (by omega), hg _ (by omega)]
  exact H i h0 (by omega)
theorem push_perm (h : List Int) (x : Int) : (upL (h ++ [x]) h.length).Perm (h ++ [x]) := up_perm _ _ (by rw [List.length_append]; simp)
theorem pop_perm {h : List Int} (hn : h ≠ []) : (popL h).Perm h := by
  have := List.length_pos_iff.2 hn
  unfold popL
  exact (down_perm _ _ (by rw [swapL_len]; omega)).trans (swap_perm (by omega) (by omega))
theorem pop_last {h : List Int} (hn : h ≠ []) : at0 (popL h) (h.length - 1) = at0 h 0 := by
  have := List.length_pos_iff.2 hn
  unfold popL
  rw [down_far _ _ _ (by rw [swapL_len]; omega) (Nat.le_refl _), at0_swap (by omega) (by omega), if_pos rfl]
theorem at0_take {h : List Int} {n k : Nat} (hk : k < n) : at0 (h.take n) k = at0 h k := by unfold at0; rw [List.getElem?_take, if_pos hk]
theorem pop_heap {h : List Int} (H : IsHeap h h.length) (hn : h ≠ []) : IsHeap ((popL h).take (h.length - 1)) (h.length - 1) := by
  have hp := List.length_pos_iff.2 hn
  have : IsHeap (popL h) (h.length - 1) := by
    unfold popL
    refine down_heap _ 0 (by rw [swapL_len]; omega) ⟨fun c h0 hc hne => ?_, fun c _ _ _ h9 => by omega⟩
    rw [at0_swap (by omega) (by omega), at0_swap (by omega) (by omega), if_neg (by omega), if_neg hne, if_neg (by omega), if_neg (by omega)]
    exact H c h0 (by omega)
  intro i h0 hi
  rw [at0_take (by omega), at0_take hi]
  exact this i h0 hi
/-- what is left and what came out are what was in -/
theorem pop_parts {h : List Int} (hn : h ≠ []) : ((popL h).take (h.length - 1) ++ [at0 h 0]).Perm h := by
  have hp := List.length_pos_iff.2 hn
  have hl : (popL h).length = h.length := popL_len h
  have hlast : (popL h).take (h.length - 1) ++ [at0 h 0] = popL h := by
    rw [← pop_last hn]
    have h1 : (popL h)[h.length - 1]? = some (at0 (popL h) (h.length - 1)) := get_at0 (by omega)
    have h2 := List.take_add_one (l := popL h) (i := h.length - 1)
    rw [h1, show h.length - 1 + 1 = (popL h).length by omega, List.take_length] at h2
    exact h2.symm
  rw [hlast]; exact pop_perm hn
end Go.Proofs.YtgjnmpbahekbfaaDoor
