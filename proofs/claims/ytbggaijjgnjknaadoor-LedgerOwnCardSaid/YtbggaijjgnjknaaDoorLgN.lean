/-
  LEDGERS, plain laws: what set does.
-/
import Derived.Test.YtbggaijjgnjknaaDoorLgM
namespace Go.Proofs.YtbggaijjgnjknaaDoor
open Go.RowKit

theorem rises_filter {l : List Ln} (h : Rises l) (p : Ln → Bool) : Rises (l.filter p) := by
  induction l with
  | nil => exact trivial
  | cons x r ih =>
    rw [List.filter_cons]
    split
    · exact ⟨fun y hy => h.1 y (List.mem_filter.1 hy).1, ih h.2⟩
    · exact ih h.2
theorem lab_ne_of_lt {x y : Ln} (h : cmpL x.a y.a < 0) : x ≠ y := fun e => by
  rw [e, cmp_self] at h; omega
theorem rises_ext : ∀ {l m : List Ln}, Rises l → Rises m → (∀ x, x ∈ l ↔ x ∈ m) → l = m
  | [], [], _, _, _ => rfl
  | [], y :: s, _, _, h => absurd ((h y).2 List.mem_cons_self) (by simp)
  | x :: r, [], _, _, h => absurd ((h x).1 List.mem_cons_self) (by simp)
  | x :: r, y :: s, hl, hm, h => by
    have hxy : x = y := by
      rcases List.mem_cons.1 ((h x).1 List.mem_cons_self) with e | e
      · exact e
      · rcases List.mem_cons.1 ((h y).2 List.mem_cons_self) with e' | e'
        · exact e'.symm
        · have h1 := hm.1 x e
          have h2 := hl.1 y e'
          have := cmp_lt_trans h1 h2
          rw [cmp_self] at this; omega
    subst hxy
    rw [rises_ext hl.2 hm.2 (fun z => ?_)]
    have hz := h z
    rw [List.mem_cons, List.mem_cons] at hz
    constructor
    · intro hr
      rcases hz.1 (.inr hr) with e | e
      · subst e; exact absurd rfl (lab_ne_of_lt (hl.1 z hr))
      · exact e
    · intro hs
      rcases hz.2 (.inr hs) with e | e
      · subst e; exact absurd rfl (lab_ne_of_lt (hm.1 z hs))
      · exact e
theorem mem_line {a : Lab} {n : Int} {x : Ln} : x ∈ lineL a n ↔ n ≠ 0 ∧ x = ⟨a, n⟩ := by
  unfold lineL
  split
  · rename_i h; simp [h]
  · rename_i h; simp [h]
theorem mem_set {l : List Ln} {a : Lab} {n : Int} {x : Ln} : x ∈ setLn l a n ↔ (x ∈ l ∧ x.a ≠ a) ∨ (n ≠ 0 ∧ x = ⟨a, n⟩) := by
  unfold setLn aheadL behindL
  rw [List.mem_append, List.mem_append, List.mem_filter, List.mem_filter, mem_line, decide_eq_true_eq, decide_eq_true_eq]
  have key : x.a ≠ a ↔ cmpL x.a a < 0 ∨ 0 < cmpL x.a a := by
    have h : cmpL x.a a = 0 ↔ x.a = a := cmp_eq
    constructor
    · intro hn
      have : cmpL x.a a ≠ 0 := fun e => hn (h.1 e)
      omega
    · rintro hc e
      have := h.2 e
      omega
  rw [key]
  constructor
  · rintro (⟨h1, h2⟩ | h | ⟨h1, h2⟩)
    · exact .inl ⟨h1, .inl h2⟩
    · exact .inr h
    · exact .inl ⟨h1, .inr h2⟩
  · rintro (⟨h1, h2 | h2⟩ | h)
    · exact .inl ⟨h1, h2⟩
    · exact .inr (.inr ⟨h1, h2⟩)
    · exact .inr (.inl h)
theorem set_rises {l : List Ln} (h : Rises l) (a : Lab) (n : Int) : Rises (setLn l a n) := by
  unfold setLn
  refine rises_append.2 ⟨rises_filter h _, rises_append.2 ⟨?_, rises_filter h _, ?_⟩, ?_⟩
  · unfold lineL
    split
    · exact trivial
    · exact ⟨(fun y hy => by cases hy), trivial⟩
  · intro x y hx hy
    obtain ⟨_, rfl⟩ := mem_line.1 hx
    have := (List.mem_filter.1 hy).2
    rw [decide_eq_true_eq] at this
    exact (cmp_flip a y.a).1.2 this
  · intro x y hx hy
    have h1 := (List.mem_filter.1 hx).2
    rw [decide_eq_true_eq] at h1
    rcases List.mem_append.1 hy with hy | hy
    · obtain ⟨_, rfl⟩ := mem_line.1 hy
      exact h1
    · have h2 := (List.mem_filter.1 hy).2
      rw [decide_eq_true_eq] at h2
      exact cmp_lt_trans h1 ((cmp_flip a y.a).1.2 h2)
theorem set_right {l : List Ln} (h : rightLn l = true) {a : Lab} (ha : okL a = true) {n : Int} (hn : 0 ≤ n ∧ n ≤ 100000) (hl : l.length ≤ 999) : rightLn (setLn l a n) = true := by
  obtain ⟨h1, h2, _⟩ := right_iff.1 h
  refine right_iff.2 ⟨set_rises h1 a n, fun x hx => ?_, by have := set_len l a n; omega⟩
  rcases mem_set.1 hx with ⟨hx, _⟩ | ⟨hn0, rfl⟩
  · exact h2 x hx
  · unfold okLn
    simp only [Bool.and_eq_true, decide_eq_true_eq]
    exact ⟨⟨ha, by omega⟩, hn.2⟩
theorem rises_inj {l : List Ln} (h : Rises l) {x y : Ln} (hx : x ∈ l) (hy : y ∈ l) (e : x.a = y.a) : x = y := by
  obtain ⟨i, hi⟩ := List.getElem?_of_mem hx
  obtain ⟨j, hj⟩ := List.getElem?_of_mem hy
  rcases Nat.lt_trichotomy i j with h1 | h1 | h1
  · have := rises_get h h1 hi hj; rw [e, cmp_self] at this; omega
  · subst h1; rw [hi] at hj; exact Option.some.inj hj
  · have := rises_get h h1 hj hi; rw [e, cmp_self] at this; omega
theorem used_of {l : List Ln} (h : Rises l) {x : Ln} (hx : x ∈ l) : usedLn l x.a = x.n := by
  unfold usedLn
  split
  · rename_i y hy
    have h1 := List.mem_of_find?_eq_some hy
    have h2 := List.find?_some hy
    rw [eqL_iff] at h2
    rw [rises_inj h h1 hx h2]
  · rename_i hn
    rw [List.find?_eq_none] at hn
    exact absurd (eqL_self x.a) (hn x hx)
theorem used_none {l : List Ln} {a : Lab} (h : ∀ x, x ∈ l → x.a ≠ a) : usedLn l a = 0 := by
  unfold usedLn
  split
  · rename_i y hy
    have h2 := List.find?_some hy
    rw [eqL_iff] at h2
    exact absurd h2 (h y (List.mem_of_find?_eq_some hy))
  · rfl
theorem set_used {l : List Ln} (h : Rises l) (a : Lab) (n : Int) : usedLn (setLn l a n) a = n := by
  by_cases hn : n = 0
  · subst hn
    exact used_none (fun x hx e => by
      rcases mem_set.1 hx with ⟨_, h1⟩ | ⟨h1, _⟩
      · exact h1 e
      · exact h1 rfl)
  · exact used_of (x := ⟨a, n⟩) (set_rises h a n) (mem_set.2 (.inr ⟨hn, rfl⟩))
theorem used_mem {l : List Ln} (h : rightLn l = true) {a : Lab} : (usedLn l a ≠ 0 ↔ ⟨a, usedLn l a⟩ ∈ l) ∧ ((∀ x, x ∈ l → x.a ≠ a) ↔ usedLn l a = 0) := by
  obtain ⟨h1, h2, _⟩ := right_iff.1 h
  by_cases hx : ∃ x, x ∈ l ∧ x.a = a
  · obtain ⟨x, hx, rfl⟩ := hx
    have hu := used_of h1 hx
    have h3 := h2 x hx
    unfold okLn at h3
    simp only [Bool.and_eq_true, decide_eq_true_eq] at h3
    have e : (⟨x.a, usedLn l x.a⟩ : Ln) = x := by rw [hu]
    rw [e]
    exact ⟨⟨fun _ => hx, fun _ => by rw [hu]; omega⟩, ⟨fun hn => absurd rfl (hn x hx), fun h0 => by rw [hu] at h0; omega⟩⟩
  · have hn : ∀ x, x ∈ l → x.a ≠ a := fun x h e => hx ⟨x, h, e⟩
    have hu := used_none hn
    exact ⟨⟨fun h => absurd hu h, fun h => absurd rfl (hn _ h)⟩, ⟨fun _ => hu, fun _ => hn⟩⟩
theorem set_used_other {l : List Ln} (h : rightLn l = true) {a b : Lab} (hab : a ≠ b) (n : Int) : usedLn (setLn l a n) b = usedLn l b := by
  obtain ⟨h1, h2, _⟩ := right_iff.1 h
  by_cases hx : ∃ x, x ∈ l ∧ x.a = b
  · obtain ⟨x, hx, rfl⟩ := hx
    rw [used_of h1 hx, used_of (set_rises h1 a n) (mem_set.2 (.inl ⟨hx, fun e => hab e.symm⟩))]
  · have hn : ∀ x, x ∈ l → x.a ≠ b := fun x h e => hx ⟨x, h, e⟩
    rw [used_none hn]
    exact used_none (fun x hx => by
      rcases mem_set.1 hx with ⟨h3, _⟩ | ⟨_, rfl⟩
      · exact hn x h3
      · exact hab)
theorem set_set {l : List Ln} (h : Rises l) (a : Lab) (n m : Int) : setLn (setLn l a n) a m = setLn l a m := by
  refine rises_ext (set_rises (set_rises h a n) a m) (set_rises h a m) (fun x => ?_)
  rw [mem_set, mem_set, mem_set]
  constructor
  · rintro (⟨⟨h1, h2⟩ | ⟨_, rfl⟩, h3⟩ | h1)
    · exact .inl ⟨h1, h2⟩
    · exact absurd rfl h3
    · exact .inr h1
  · rintro (⟨h1, h2⟩ | h1)
    · exact .inl ⟨.inl ⟨h1, h2⟩, h2⟩
    · exact .inr h1
theorem set_back {l : List Ln} (h : rightLn l = true) (a : Lab) : setLn l a (usedLn l a) = l := by
  obtain ⟨h1, h2, _⟩ := right_iff.1 h
  refine rises_ext (set_rises h1 a _) h1 (fun x => ?_)
  rw [mem_set]
  constructor
  · rintro (⟨h3, _⟩ | ⟨h3, rfl⟩)
    · exact h3
    · exact (used_mem h).1.1 h3
  · intro hx
    by_cases e : x.a = a
    · subst e
      have hu := used_of h1 hx
      refine .inr ⟨fun h0 => (used_mem h).2.2 h0 x hx rfl, by rw [hu]⟩
    · exact .inl ⟨hx, e⟩
theorem set_comm {l : List Ln} (h : Rises l) {a b : Lab} (hab : a ≠ b) (n m : Int) : setLn (setLn l a n) b m = setLn (setLn l b m) a n := by
  refine rises_ext (set_rises (set_rises h a n) b m) (set_rises (set_rises h b m) a n) (fun x => ?_)
  rw [mem_set, mem_set, mem_set, mem_set]
  constructor
  · rintro (⟨⟨h1, h2⟩ | ⟨h1, rfl⟩, h3⟩ | ⟨h1, rfl⟩)
    · exact .inl ⟨.inl ⟨h1, h3⟩, h2⟩
    · exact .inr ⟨h1, rfl⟩
    · exact .inl ⟨.inr ⟨h1, rfl⟩, fun e => hab e.symm⟩
  · rintro (⟨⟨h1, h2⟩ | ⟨h1, rfl⟩, h3⟩ | ⟨h1, rfl⟩)
    · exact .inl ⟨.inl ⟨h1, h3⟩, h2⟩
    · exact .inr ⟨h1, rfl⟩
    · exact .inl ⟨.inr ⟨h1, rfl⟩, hab⟩
theorem sum_app (l m : List Ln) : sumLn (l ++ m) = sumLn l + sumLn m := by unfold sumLn; rw [List.map_append, List.sum_append]
theorem sum_line (a : Lab) (n : Int) : sumLn (lineL a n) = n := by
  unfold lineL sumLn
  split
  · rename_i h; rw [h]; rfl
  · simp
theorem sum_set {l : List Ln} (h : rightLn l = true) (a : Lab) (n : Int) : sumLn (setLn l a n) = sumLn l - usedLn l a + n := by
  have h1 : sumLn l = sumLn (setLn l a (usedLn l a)) := by rw [set_back h]
  have h2 : ∀ m, sumLn (setLn l a m) = sumLn (aheadL l a) + (m + sumLn (behindL l a)) := fun m => by unfold setLn; rw [sum_app, sum_app, sum_line]
  rw [h2] at h1
  rw [h2]
  omega
theorem total_right {l : List Ln} (h : rightLn l = true) : totalLn l = sumLn l := by unfold totalLn; rw [if_pos h]
theorem total_wrong {l : List Ln} (h : rightLn l = false) : totalLn l = 0 := by unfold totalLn; rw [if_neg (by rw [h]; simp)]
/-! ### what Charge and Refund do -/
theorem charge_ok {l : List Ln} {q : Int} {a : Lab} {n : Int} : chargeE l q a n = 0 ↔ (rightLn l = true ∧ okL a = true) ∧ 0 ≤ q ∧ q ≤ 100000 ∧ 0 ≤ n ∧ n ≤ q - usedLn l a := by
  unfold chargeE
  split
  · rename_i h
    split
    · exact ⟨(fun e => absurd e (by decide)), fun e => by omega⟩
    · exact ⟨(fun _ => ⟨h, by omega⟩), fun _ => rfl⟩
  · rename_i h
    exact ⟨(fun e => absurd e (by decide)), fun e => absurd e.1 h⟩
theorem charge_three (l : List Ln) (q : Int) (a : Lab) (n : Int) : chargeE l q a n = 0 ∨ chargeE l q a n = 20 ∨ chargeE l q a n = 70 := by
  unfold chargeE
  split
  · split
    · exact .inr (.inr rfl)
    · exact .inl rfl
  · exact .inr (.inl rfl)
theorem charge_L {l : List Ln} {q : Int} {a : Lab} {n : Int} (h : chargeE l q a n = 0) : chargeL l q a n = setLn l a (usedLn l a + n) := by unfold chargeL; rw [if_pos h]
theorem charge_no {l : List Ln} {q : Int} {a : Lab} {n : Int} (h : ¬ chargeE l q a n = 0) : chargeL l q a n = [] := by unfold chargeL; rw [if_neg h]
theorem refund_ok {l : List Ln} {a : Lab} {n : Int} : refundE l a n = 0 ↔ (rightLn l = true ∧ okL a = true) ∧ 0 ≤ n ∧ n ≤ usedLn l a := by
  unfold refundE
  split
  · rename_i h
    split
    · exact ⟨(fun e => absurd e (by decide)), fun e => by omega⟩
    · exact ⟨(fun _ => ⟨h, by omega⟩), fun _ => rfl⟩
  · rename_i h
    exact ⟨(fun e => absurd e (by decide)), fun e => absurd e.1 h⟩
theorem refund_L {l : List Ln} {a : Lab} {n : Int} (h : refundE l a n = 0) : refundL l a n = setLn l a (usedLn l a - n) := by unfold refundL; rw [if_pos h]
theorem refund_no {l : List Ln} {a : Lab} {n : Int} (h : ¬ refundE l a n = 0) : refundL l a n = [] := by unfold refundL; rw [if_neg h]
theorem charge_len (l : List Ln) (q : Int) (a : Lab) (n : Int) : (chargeL l q a n).length ≤ l.length + 1 := by
  unfold chargeL
  split
  · exact set_len _ _ _
  · simp
theorem refund_len (l : List Ln) (a : Lab) (n : Int) : (refundL l a n).length ≤ l.length + 1 := by
  unfold refundL
  split
  · exact set_len _ _ _
  · simp
theorem charge_right {l : List Ln} {q : Int} {a : Lab} {n : Int} (h : chargeE l q a n = 0) (hl : l.length ≤ 900) : rightLn (chargeL l q a n) = true := by
  obtain ⟨⟨h1, h2⟩, h3⟩ := charge_ok.1 h
  rw [charge_L h]
  have := used_le h1 a
  exact set_right h1 h2 (by omega) (by omega)
/-- what is charged is refunded again -/
theorem back_law {l : List Ln} {q : Int} {a : Lab} {n : Int} (hl : l.length ≤ 900) (h : chargeE l q a n = 0) : refundE (chargeL l q a n) a n = 0 ∧ refundL (chargeL l q a n) a n = l ∧ usedLn (chargeL l q a n) a = usedLn l a + n ∧ usedLn l a + n ≤ q ∧ totalLn (chargeL l q a n) = totalLn l + n := by
  have hr := charge_right h hl
  obtain ⟨⟨h1, h2⟩, h3, h4, h5, h6⟩ := charge_ok.1 h
  have h7 := (right_iff.1 h1).1
  have hu : usedLn (chargeL l q a n) a = usedLn l a + n := by rw [charge_L h]; exact set_used h7 a _
  have hu0 := used_le h1 a
  have he : refundE (chargeL l q a n) a n = 0 := refund_ok.2 ⟨⟨hr, h2⟩, h5, by omega⟩
  refine ⟨he, ?_, hu, by omega, ?_⟩
  · rw [refund_L he, hu, charge_L h, set_set h7, show usedLn l a + n - n = usedLn l a by omega, set_back h1]
  · rw [total_right hr, total_right h1, charge_L h, sum_set h1]; omega
/-- what is refunded is charged again -/
theorem refunds_law {l : List Ln} {a : Lab} {n : Int} (hl : l.length ≤ 900) (h : refundE l a n = 0) : chargeE (refundL l a n) (usedLn l a) a n = 0 ∧ chargeL (refundL l a n) (usedLn l a) a n = l ∧ usedLn (refundL l a n) a = usedLn l a - n ∧ rightLn (refundL l a n) = true := by
  obtain ⟨⟨h1, h2⟩, h3, h4⟩ := refund_ok.1 h
  have h7 := (right_iff.1 h1).1
  have hu0 := used_le h1 a
  have hu : usedLn (refundL l a n) a = usedLn l a - n := by rw [refund_L h]; exact set_used h7 a _
  have hr : rightLn (refundL l a n) = true := by rw [refund_L h]; exact set_right h1 h2 (by omega) (by omega)
  have he : chargeE (refundL l a n) (usedLn l a) a n = 0 := charge_ok.2 ⟨⟨hr, h2⟩, by omega, by omega, h3, by omega⟩
  refine ⟨he, ?_, hu, hr⟩
  rw [charge_L he, hu, refund_L h, set_set h7, show usedLn l a - n + n = usedLn l a by omega, set_back h1]
/-- two charges, either way about -/
theorem turns_law {l : List Ln} {q : Int} {a b : Lab} {n m : Int} (hl : l.length ≤ 900) (h : chargeE l q a n = 0) (h' : chargeE (chargeL l q a n) q b m = 0) : chargeE l q b m = 0 ∧ chargeE (chargeL l q b m) q a n = 0 ∧ chargeL (chargeL l q a n) q b m = chargeL (chargeL l q b m) q a n := by
  obtain ⟨⟨h1, h2⟩, h3, h4, h5, h6⟩ := charge_ok.1 h
  obtain ⟨⟨k1, k2⟩, k3, k4, k5, k6⟩ := charge_ok.1 h'
  have h7 := (right_iff.1 h1).1
  have e1 := charge_L h
  by_cases hab : a = b
  · subst hab
    have hu : usedLn (chargeL l q a n) a = usedLn l a + n := by rw [e1]; exact set_used h7 a _
    have g1 : chargeE l q a m = 0 := charge_ok.2 ⟨⟨h1, h2⟩, h3, h4, k5, by omega⟩
    have hu2 : usedLn (chargeL l q a m) a = usedLn l a + m := by rw [charge_L g1]; exact set_used h7 a _
    have g2 : chargeE (chargeL l q a m) q a n = 0 := charge_ok.2 ⟨⟨charge_right g1 hl, h2⟩, h3, h4, h5, by omega⟩
    refine ⟨g1, g2, ?_⟩
    rw [charge_L h', charge_L g2, hu, hu2, e1, charge_L g1, set_set h7, set_set h7]
    congr 1; omega
  · have hu : usedLn (chargeL l q a n) b = usedLn l b := by rw [e1]; exact set_used_other h1 hab _
    have g1 : chargeE l q b m = 0 := charge_ok.2 ⟨⟨h1, k2⟩, h3, h4, k5, by omega⟩
    have hu2 : usedLn (chargeL l q b m) a = usedLn l a := by rw [charge_L g1]; exact set_used_other h1 (fun e => hab e.symm) _
    have g2 : chargeE (chargeL l q b m) q a n = 0 := charge_ok.2 ⟨⟨charge_right g1 hl, h2⟩, h3, h4, h5, by omega⟩
    refine ⟨g1, g2, ?_⟩
    rw [charge_L h', charge_L g2, hu, hu2, e1, charge_L g1, set_comm h7 hab]
theorem apart_law {l : List Ln} {q : Int} {a b : Lab} {n m : Int} (hl : l.length ≤ 900) (h : chargeE l q a n = 0) (hab : a ≠ b) : chargeE (chargeL l q a n) q b m = chargeE l q b m ∧ usedLn (chargeL l q a n) b = usedLn l b ∧ (underL a b = false → seenLn (chargeL l q a n) b = seenLn l b) := by
  obtain ⟨⟨h1, h2⟩, _⟩ := charge_ok.1 h
  have h7 := (right_iff.1 h1).1
  have hu : usedLn (chargeL l q a n) b = usedLn l b := by rw [charge_L h]; exact set_used_other h1 hab _
  refine ⟨?_, hu, fun hn => ?_⟩
  · unfold chargeE at h ⊢
    rw [charge_right (by unfold chargeE; exact h) hl, h1, hu]
  · rw [charge_L h]
    refine rises_ext (rises_filter (set_rises h7 a _) _) (rises_filter h7 _) (fun x => ?_)
    unfold seenLn
    rw [List.mem_filter, List.mem_filter, mem_set]
    constructor
    · rintro ⟨⟨h3, _⟩ | ⟨_, rfl⟩, h4⟩
      · exact ⟨h3, h4⟩
      · rw [hn] at h4; cases h4
    · rintro ⟨h3, h4⟩
      exact ⟨.inl ⟨h3, fun e => by rw [e, hn] at h4; cases h4⟩, h4⟩
theorem sums_law {l : List Ln} (h : rightLn l = true) (a : Lab) : seenLn l topL = l ∧ rightLn (seenLn l a) = true ∧ sumLn (seenLn l a) ≤ sumLn l := by
  obtain ⟨h1, h2, h3⟩ := right_iff.1 h
  have hok : ∀ x, x ∈ l → okL x.a = true ∧ 1 ≤ x.n := fun x hx => by
    have := h2 x hx
    unfold okLn at this
    simp only [Bool.and_eq_true, decide_eq_true_eq] at this
    exact ⟨this.1.1, this.1.2⟩
  refine ⟨?_, right_iff.2 ⟨rises_filter h1 _, (fun x hx => h2 x (List.mem_filter.1 hx).1), Nat.le_trans (List.length_filter_le _ _) h3⟩, ?_⟩
  · unfold seenLn
    rw [List.filter_eq_self]
    intro x hx
    exact underL_iff.2 ⟨(hok x hx).1, okL_top, le_top (hok x hx).1⟩
  · have key : ∀ l : List Ln, (∀ x, x ∈ l → 1 ≤ x.n) → sumLn (seenLn l a) ≤ sumLn l := by
      intro l
      induction l with
      | nil => intro _; exact Int.le_refl _
      | cons x r ih =>
        intro hx
        have h4 := ih (fun y hy => hx y (List.mem_cons_of_mem _ hy))
        have h5 := hx x List.mem_cons_self
        have e : sumLn (x :: r) = x.n + sumLn r := by unfold sumLn; simp
        unfold seenLn at h4 ⊢
        rw [List.filter_cons, e]
        split
        · have e2 : sumLn (x :: r.filter (fun x => underL x.a a)) = x.n + sumLn (r.filter (fun x => underL x.a a)) := by unfold sumLn; simp
          rw [e2]; omega
        · omega
    exact key l (fun x hx => (hok x hx).2)
end Go.Proofs.YtbggaijjgnjknaaDoor
