/-
  PLAIN LAWS of the statements on labels.
-/
import Derived.Test.YtbggaijjgnjknaaDoorLab
namespace Go.Proofs.YtbggaijjgnjknaaDoor

/-- what Join tells -/
inductive JoinS (a b : Lab) : Lab → Int → Prop
  | ok (ha : okL a = true) (hb : okL b = true) : JoinS a b (joinL a b) 0
  | bad (h : ¬ (okL a = true ∧ okL b = true)) : JoinS a b zeroL 20
/-- what Meet tells -/
inductive MeetS (a b : Lab) : Lab → Int → Prop
  | ok (ha : okL a = true) (hb : okL b = true) : MeetS a b (meetL a b) 0
  | bad (h : ¬ (okL a = true ∧ okL b = true)) : MeetS a b zeroL 20

theorem sub_lsb {x y : BitVec 64} : sub x y = true ↔ ∀ k, k < 64 → x.getLsbD k = true → y.getLsbD k = true := by
  rw [sub_iff]
  constructor <;> intro h k hk h1
  · have := h k hk (by rw [has_nat _ _ hk]; exact h1)
    rwa [has_nat _ _ hk] at this
  · rw [has_nat _ _ hk] at *; exact h k hk h1
theorem sub_or_l (x y : BitVec 64) : sub x (x ||| y) = true := by
  rw [sub_lsb]; intro k _ h; simp [BitVec.getLsbD_or, h]
theorem sub_or_r (x y : BitVec 64) : sub y (x ||| y) = true := by
  rw [sub_lsb]; intro k _ h; simp [BitVec.getLsbD_or, h]
theorem sub_and_l (x y : BitVec 64) : sub (x &&& y) x = true := by
  rw [sub_lsb]; intro k _ h; simp [BitVec.getLsbD_and] at h; exact h.1
theorem sub_and_r (x y : BitVec 64) : sub (x &&& y) y = true := by
  rw [sub_lsb]; intro k _ h; simp [BitVec.getLsbD_and] at h; exact h.2
theorem sub_or_of {x y z : BitVec 64} (h1 : sub x z = true) (h2 : sub y z = true) : sub (x ||| y) z = true := by
  rw [sub_lsb] at *; intro k hk h; simp [BitVec.getLsbD_or] at h
  rcases h with h | h
  · exact h1 k hk h
  · exact h2 k hk h
theorem sub_and_of {x y z : BitVec 64} (h1 : sub z x = true) (h2 : sub z y = true) : sub z (x &&& y) = true := by
  rw [sub_lsb] at *; intro k hk h; simp [BitVec.getLsbD_and, h1 k hk h, h2 k hk h]
theorem sub_trans {x y z : BitVec 64} (h1 : sub x y = true) (h2 : sub y z = true) : sub x z = true := by
  rw [sub_lsb] at *; intro k hk h; exact h2 k hk (h1 k hk h)
theorem sub_or_eq {x y : BitVec 64} : sub x y = true ↔ x ||| y = y := by
  rw [sub_lsb]
  constructor
  · intro h
    apply BitVec.eq_of_getLsbD_eq
    intro k hk
    rw [BitVec.getLsbD_or]
    cases hx : x.getLsbD k
    · simp
    · simp [h k hk hx]
  · intro h k hk hx
    rw [← h, BitVec.getLsbD_or, hx]; rfl
theorem sub_and_eq {x y : BitVec 64} : sub x y = true ↔ x &&& y = x := by
  rw [sub_lsb]
  constructor
  · intro h
    apply BitVec.eq_of_getLsbD_eq
    intro k hk
    rw [BitVec.getLsbD_and]
    cases hx : x.getLsbD k
    · simp
    · simp [h k hk hx]
  · intro h k hk hx
    rw [← h, BitVec.getLsbD_and] at hx
    simp at hx; exact hx.2
theorem sub_anti {x y : BitVec 64} (h1 : sub x y = true) (h2 : sub y x = true) : x = y := by
  have := sub_or_eq.1 h1
  have h := sub_or_eq.1 h2
  rw [BitVec.or_comm] at h
  rw [← h]; exact this

theorem le3_iff {a b : Lab} : le3 a b = true ↔ a.lv ≤ b.lv ∧ b.ig ≤ a.ig ∧ sub a.c b.c = true := by
  unfold le3; simp [and_assoc]
theorem underL_iff {a b : Lab} : underL a b = true ↔ okL a = true ∧ okL b = true ∧ le3 a b = true := by
  unfold underL; simp [and_assoc]
theorem okL_join {a b : Lab} (ha : okL a = true) (hb : okL b = true) : okL (joinL a b) = true := by
  rw [okL_iff] at *; simp only [joinL]; omega
theorem okL_meet {a b : Lab} (ha : okL a = true) (hb : okL b = true) : okL (meetL a b) = true := by
  rw [okL_iff] at *; simp only [meetL]; omega
theorem le3_join_l (a b : Lab) : le3 a (joinL a b) = true := by
  rw [le3_iff]; simp only [joinL]; exact ⟨by omega, by omega, sub_or_l _ _⟩
theorem le3_join_r (a b : Lab) : le3 b (joinL a b) = true := by
  rw [le3_iff]; simp only [joinL]; exact ⟨by omega, by omega, sub_or_r _ _⟩
theorem le3_meet_l (a b : Lab) : le3 (meetL a b) a = true := by
  rw [le3_iff]; simp only [meetL]; exact ⟨by omega, by omega, sub_and_l _ _⟩
theorem le3_meet_r (a b : Lab) : le3 (meetL a b) b = true := by
  rw [le3_iff]; simp only [meetL]; exact ⟨by omega, by omega, sub_and_r _ _⟩
theorem le3_join_of {a b c : Lab} (h1 : le3 a c = true) (h2 : le3 b c = true) : le3 (joinL a b) c = true := by
  rw [le3_iff] at *; simp only [joinL]; exact ⟨by omega, by omega, sub_or_of h1.2.2 h2.2.2⟩
theorem le3_meet_of {a b c : Lab} (h1 : le3 c a = true) (h2 : le3 c b = true) : le3 c (meetL a b) = true := by
  rw [le3_iff] at *; simp only [meetL]; exact ⟨by omega, by omega, sub_and_of h1.2.2 h2.2.2⟩
theorem le3_trans {a b c : Lab} (h1 : le3 a b = true) (h2 : le3 b c = true) : le3 a c = true := by
  rw [le3_iff] at *; exact ⟨by omega, by omega, sub_trans h1.2.2 h2.2.2⟩
theorem le3_anti {a b : Lab} (h1 : le3 a b = true) (h2 : le3 b a = true) : a = b := by
  rw [le3_iff] at *; exact Lab.ext' (by omega) (sub_anti h1.2.2 h2.2.2) (by omega)
theorem le3_join_eq {a b : Lab} : le3 a b = true ↔ joinL a b = b := by
  constructor
  · intro h; rw [le3_iff] at h; exact Lab.ext' (by simp only [joinL]; omega) (sub_or_eq.1 h.2.2) (by simp only [joinL]; omega)
  · intro h; rw [← h]; exact le3_join_l a b
theorem le3_meet_eq {a b : Lab} : le3 a b = true ↔ meetL a b = a := by
  constructor
  · intro h; rw [le3_iff] at h; exact Lab.ext' (by simp only [meetL]; omega) (sub_and_eq.1 h.2.2) (by simp only [meetL]; omega)
  · intro h; rw [← h]; exact le3_meet_r a b
theorem joinL_comm (a b : Lab) : joinL a b = joinL b a := Lab.ext' (by simp only [joinL]; omega) (by simp only [joinL]; rw [BitVec.or_comm]) (by simp only [joinL]; omega)
theorem meetL_comm (a b : Lab) : meetL a b = meetL b a := Lab.ext' (by simp only [meetL]; omega) (by simp only [meetL]; rw [BitVec.and_comm]) (by simp only [meetL]; omega)
theorem joinL_assoc (a b c : Lab) : joinL (joinL a b) c = joinL a (joinL b c) := Lab.ext' (by simp only [joinL]; omega) (by simp only [joinL]; rw [BitVec.or_assoc]) (by simp only [joinL]; omega)
theorem joinL_meet (a b : Lab) : joinL a (meetL a b) = a := by
  rw [joinL_comm]; exact le3_join_eq.1 (le3_meet_l a b)
theorem bot_le {a : Lab} (ha : okL a = true) : le3 botL a = true := by
  rw [okL_iff] at ha; rw [le3_iff]; exact ⟨ha.1, ha.2.2.2, by rw [sub_lsb]; intro k _ h; simp [botL] at h⟩
theorem le_top {a : Lab} (ha : okL a = true) : le3 a topL = true := by
  rw [okL_iff] at ha; rw [le3_iff]; exact ⟨ha.2.1, ha.2.2.1, by rw [sub_lsb]; intro k hk _; show (BitVec.allOnes 64).getLsbD k = true; rw [BitVec.getLsbD_allOnes]; simpa using hk⟩
theorem okL_bot : okL botL = true := rfl
theorem okL_top : okL topL = true := rfl
end Go.Proofs.YtbggaijjgnjknaaDoor
