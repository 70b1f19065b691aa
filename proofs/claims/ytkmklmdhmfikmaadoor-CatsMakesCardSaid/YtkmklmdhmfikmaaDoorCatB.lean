/-
  THE WALKS OF PACKAGE cats, part two: the exported functions but List.
-/
import Derived.Test.YtkmklmdhmfikmaaDoorCat
namespace Go.Proofs.YtkmklmdhmfikmaaDoor
open Go.RowKit Go.Extern.Stop Go.Stop Go.Extern

attribute [local go_sem] u_and u_or u_andNot u_add u_sub u_bit u_p1 u_p2 u_p3 u_shr8 u_shr16 u_shr32 u_has and_bit u_eq_zero u_beq

theorem Picks.below {b : Nat} {w W w' : World} {x : BitVec 64} {e : Value} (h : Picks b W w' x e) (hb : Below w.heap.size w W) (hB : w.heap.size ≤ b) : Below w.heap.size w w' :=
  hb.grown h.grown hb.size (fun k e => by injection e with e; omega)
theorem cell_one (w : World) (v : Value) (t : TypeId) (k : Nat) (hk : k < 1) (b : Nat) (hb : b = w.heap.size) : (w.alloc (.cells #[v] t)).cell? ⟨b, 0 + k, none⟩ = some v := by
  obtain rfl : k = 0 := by omega
  subst hb
  exact World.cell?_alloc_at _ _ _ _ rfl

theorem heap_old {w : World} {o : Obj} {b : Nat} {p : Obj} (h : w.heap[b]? = some p) : (w.alloc o).heap[b]? = some p := by
  have hlt : b < w.heap.size := (Array.getElem?_eq_some_iff.1 h).1
  rw [Below.heap_alloc _ _ _ hlt]; exact h
theorem heap_new (w : World) (o : Obj) : (w.alloc o).heap[w.heap.size]? = some o := by
  show (w.heap.push o)[w.heap.size]? = _
  simp
theorem Sent.alloc {w : World} {a : Addr} (h : Sent w a) (o : Obj) : Sent (w.alloc o) a :=
  h.below (B := w.heap.size) ((Below.refl _ _).alloc (Nat.le_refl _) _) h.lt

/-- the world of a picker and a list of one -/
def one (w : World) (x : BitVec 64) (i : Int) : World := (w.alloc (.cells #[.int .u64 (u x), .nilIface] 45)).alloc (.cells #[.int .i64 i] 3)
theorem one_facts (w : World) (x : BitVec 64) (i : Int) (a : Addr) (hs : Sent w a) :
    (one w x i).heap[w.heap.size]? = some (pk x .nilIface) ∧ Sent (one w x i) a ∧ (∀ k, k < [i].length → (one w x i).cell? ⟨w.heap.size + 1, 0 + k, none⟩ = some (.int .i64 ([i][k]?.getD 0))) ∧ Below w.heap.size w (one w x i) := by
  refine ⟨heap_old (heap_new _ _), (hs.alloc _).alloc _, fun k hk => ?_, ((Below.refl _ _).alloc (Nat.le_refl _) _).alloc (by simp) _⟩
  obtain rfl : k = 0 := by simpa using hk
  exact World.cell?_alloc_at _ _ _ _ (by simp)

theorem with_one (x : BitVec 64) (i : Int) (a : Addr) (w : World) (hs : Sent w a) :
    Calls Tryd.prog 29 #[.pointer (some ⟨w.heap.size, 0, none⟩), .slice (some ⟨w.heap.size + 1, 0, none⟩) 1 1] (one w x i) fun e w' =>
      e = .returned (.tuple #[]) ∧ w'.heap[w.heap.size]? = some (pk (if ok i then x ||| bit i else x) (if ok i then .nilIface else errv a)) ∧ Below w.heap.size w w' ∧ Sent w' a := by
  obtain ⟨h1, h2, h3, h4⟩ := one_facts w x i a hs
  have hg : 0 ≠ w.heap.size := Nat.ne_of_lt hs.lt
  refine (with_any w.heap.size (w.heap.size + 1) 0 1 [i] x .nilIface a _ h1 h2 hg (by omega) h3 (by simp)).mono ?_
  rintro e w' ⟨rfl, hP⟩
  refine ⟨rfl, ?_, hP.below h4 (Nat.le_refl _), hP.sent h2 hg⟩
  have := hP.obj
  simpa [withAll, errOf] using this
theorem without_one (x : BitVec 64) (i : Int) (a : Addr) (w : World) (hs : Sent w a) :
    Calls Tryd.prog 32 #[.pointer (some ⟨w.heap.size, 0, none⟩), .slice (some ⟨w.heap.size + 1, 0, none⟩) 1 1] (one w x i) fun e w' =>
      e = .returned (.tuple #[]) ∧ w'.heap[w.heap.size]? = some (pk (if ok i then x &&& ~~~bit i else x) (if ok i then .nilIface else errv a)) ∧ Below w.heap.size w w' ∧ Sent w' a := by
  obtain ⟨h1, h2, h3, h4⟩ := one_facts w x i a hs
  have hg : 0 ≠ w.heap.size := Nat.ne_of_lt hs.lt
  refine (without_any w.heap.size (w.heap.size + 1) 0 1 [i] x .nilIface a _ h1 h2 hg (by omega) h3 (by simp)).mono ?_
  rintro e w' ⟨rfl, hP⟩
  refine ⟨rfl, ?_, hP.below h4 (Nat.le_refl _), hP.sent h2 hg⟩
  have := hP.obj
  simpa [withoutAll, errOf] using this

theorem With_ok (x : BitVec 64) (i : Int) (a : Addr) (w : World) (hs : Sent w a) (hi : 0 ≤ i ∧ i < 64) :
    Calls Tryd.prog 16 #[.int .u64 (u x), .int .i64 i] w fun e w' => e = .returned (.tuple #[.int .u64 (u (x ||| bit i)), .int .i64 0]) ∧ Below w.heap.size w w' := by
  have H := with_one x i a w hs
  rw [if_pos (ok_iff.2 hi), if_pos (ok_iff.2 hi)] at H
  unfold one at H
  have HH := Lib.hid H
  clear H hs hi
  go_enter Tryd.func16, Tryd.ntmps16
  go_wp2_with fail
  refine HH.out.mono ?_
  rintro e w' ⟨rfl, ho, hB, hS⟩
  have HB := Lib.hid hB
  clear HH hB
  go_wp2_with (go_at_call 30; refine (end_ok _ _ _ ho).mono ?_; rintro e w' ⟨rfl, rfl⟩)
  go_ret2
  exact ⟨rfl, HB.out⟩
theorem With_bad (x : BitVec 64) (i : Int) (a : Addr) (w : World) (hs : Sent w a) (hi : ¬ (0 ≤ i ∧ i < 64)) :
    Calls Tryd.prog 16 #[.int .u64 (u x), .int .i64 i] w fun e w' => e = .returned (.tuple #[.int .u64 0, .int .i64 10]) ∧ Below w.heap.size w w' := by
  have H := with_one x i a w hs
  rw [if_neg (fun h => hi (ok_iff.1 h)), if_neg (fun h => hi (ok_iff.1 h))] at H
  unfold one at H
  have HH := Lib.hid H
  clear H hs hi
  go_enter Tryd.func16, Tryd.ntmps16
  go_wp2_with fail
  refine HH.out.mono ?_
  rintro e w' ⟨rfl, ho, hB, hS⟩
  have HB := Lib.hid hB
  clear HH hB
  go_wp2_with (go_at_call 30; refine (end_bad _ _ a _ ho hS).mono ?_; rintro e w' ⟨rfl, rfl⟩)
  go_ret2
  exact ⟨rfl, HB.out⟩

theorem Without_ok (x : BitVec 64) (i : Int) (a : Addr) (w : World) (hs : Sent w a) (hi : 0 ≤ i ∧ i < 64) :
    Calls Tryd.prog 18 #[.int .u64 (u x), .int .i64 i] w fun e w' => e = .returned (.tuple #[.int .u64 (u (x &&& ~~~bit i)), .int .i64 0]) ∧ Below w.heap.size w w' := by
  have H := without_one x i a w hs
  rw [if_pos (ok_iff.2 hi), if_pos (ok_iff.2 hi)] at H
  unfold one at H
  have HH := Lib.hid H
  clear H hs hi
  go_enter Tryd.func18, Tryd.ntmps18
  go_wp2_with fail
  refine HH.out.mono ?_
  rintro e w' ⟨rfl, ho, hB, hS⟩
  have HB := Lib.hid hB
  clear HH hB
  go_wp2_with (go_at_call 30; refine (end_ok _ _ _ ho).mono ?_; rintro e w' ⟨rfl, rfl⟩)
  go_ret2
  exact ⟨rfl, HB.out⟩
theorem Without_bad (x : BitVec 64) (i : Int) (a : Addr) (w : World) (hs : Sent w a) (hi : ¬ (0 ≤ i ∧ i < 64)) :
    Calls Tryd.prog 18 #[.int .u64 (u x), .int .i64 i] w fun e w' => e = .returned (.tuple #[.int .u64 0, .int .i64 10]) ∧ Below w.heap.size w w' := by
  have H := without_one x i a w hs
  rw [if_neg (fun h => hi (ok_iff.1 h)), if_neg (fun h => hi (ok_iff.1 h))] at H
  unfold one at H
  have HH := Lib.hid H
  clear H hs hi
  go_enter Tryd.func18, Tryd.ntmps18
  go_wp2_with fail
  refine HH.out.mono ?_
  rintro e w' ⟨rfl, ho, hB, hS⟩
  have HB := Lib.hid hB
  clear HH hB
  go_wp2_with (go_at_call 30; refine (end_bad _ _ a _ ho hS).mono ?_; rintro e w' ⟨rfl, rfl⟩)
  go_ret2
  exact ⟨rfl, HB.out⟩

theorem Count_any (x : BitVec 64) (w : World) :
    Calls Tryd.prog 14 #[.int .u64 (u x)] w fun e w' => e = .returned (.int .i64 (pc x)) ∧ w = w' := by
  go_enter Tryd.func14, Tryd.ntmps14
  go_wp2_with (go_at_call 28; refine (ones_any x _).mono ?_; rintro e w' ⟨rfl, rfl⟩)
  go_ret
  exact ⟨rfl, rfl⟩
theorem Has_in (x : BitVec 64) (i : Int) (w : World) (hi : 0 ≤ i ∧ i < 64) :
    Calls Tryd.prog 17 #[.int .u64 (u x), .int .i64 i] w fun e w' => e = .returned (.bool (has x i)) ∧ Below w.heap.size w w' := by
  have hi' := hi
  obtain ⟨h0, h1⟩ := hi'
  go_enter Tryd.func17, Tryd.ntmps17
  go_wp2_with (go_at_call 31; refine (is_yes _ _ _ hi).mono ?_; rintro e w' ⟨rfl, rfl⟩)
  go_ret
  exact ⟨rfl, (Below.refl _ _).alloc (Nat.le_refl _) _⟩
theorem Has_out (x : BitVec 64) (i : Int) (a : Addr) (w : World) (hs : Sent w a) (hi : ¬ (0 ≤ i ∧ i < 64)) :
    Calls Tryd.prog 17 #[.int .u64 (u x), .int .i64 i] w fun e w' => e = .returned (.bool (has x i)) ∧ Below w.heap.size w w' := by
  have HF := Lib.hid (has_out x i (by omega))
  have hS := hs.alloc (pk 0#64 .nilIface)
  have H := is_no w.heap.size i (w.alloc (pk 0#64 .nilIface)) 0#64 .nilIface a (heap_new _ _) hS hi
  unfold pk at H
  rw [u_zero] at H
  have HH := Lib.hid H
  clear H hs hi hS
  go_enter Tryd.func17, Tryd.ntmps17
  go_wp2_with fail
  refine HH.out.mono ?_
  rintro e w' ⟨rfl, rfl⟩
  clear HH
  go_wp2
  go_ret
  rw [HF.out]
  exact ⟨rfl, (Below.refl _ _).alloc (Nat.le_refl _) _⟩
theorem Has_any (x : BitVec 64) (i : Int) (a : Addr) (w : World) (hs : Sent w a) :
    Calls Tryd.prog 17 #[.int .u64 (u x), .int .i64 i] w fun e w' => e = .returned (.bool (has x i)) ∧ Below w.heap.size w w' := by
  by_cases hi : 0 ≤ i ∧ i < 64
  · exact Has_in x i w hi
  · exact Has_out x i a w hs hi

/-! ### Of: a list of integers in memory -/
/-- A slice value that reads as a list of integers (nil too), in blocks below B. -/
def IntsAt (B : Nat) (w : World) (v : Value) (l : List Int) : Prop :=
  (v = .slice none 0 0 ∧ l = []) ∨ ∃ b off cap, v = .slice (some ⟨b, off, none⟩) l.length cap ∧ b < B ∧ l.length ≤ 9223372036854775807 ∧ l.length ≤ cap ∧ ∀ k, k < l.length → w.cell? ⟨b, off + k, none⟩ = some (.int .i64 (l[k]?.getD 0))
theorem IntsAt.below {B : Nat} {w w' : World} {v : Value} {l : List Int} (h : IntsAt B w v l) (hb : Below B w w') : IntsAt B w' v l := by
  rcases h with h | ⟨b, off, cap, hv, hlt, hn, hcap, hc⟩
  · exact .inl h
  · exact .inr ⟨b, off, cap, hv, hlt, hn, hcap, fun k hk => (hb.cell (p := ⟨b, off + k, none⟩) hlt).trans (hc k hk)⟩
theorem IntsAt.nil (B : Nat) (w : World) : IntsAt B w (.slice none 0 0) [] := .inl ⟨rfl, rfl⟩
theorem IntsAt.mono {B B' : Nat} {w : World} {v : Value} {l : List Int} (h : IntsAt B w v l) (hb : B ≤ B') : IntsAt B' w v l := by
  rcases h with h | ⟨b, off, cap, hv, hlt, hn, hcap, hc⟩
  · exact .inl h
  · exact .inr ⟨b, off, cap, hv, by omega, hn, hcap, hc⟩
/-- what Of tells -/
def ofSet (l : List Int) : BitVec 64 := if l.all ok then withAll 0#64 l else 0#64
def ofErr (l : List Int) : Int := if l.all ok then 0 else 10

theorem Of_any (v : Value) (l : List Int) (a : Addr) (w : World) (hs : Sent w a) (hv : IntsAt w.heap.size w v l) :
    Calls Tryd.prog 20 #[v] w fun e w' => e = .returned (.tuple #[.int .u64 (u (ofSet l)), .int .i64 (ofErr l)]) ∧ Below w.heap.size w w' := by
  have hg : 0 ≠ w.heap.size := Nat.ne_of_lt hs.lt
  have H : Calls Tryd.prog 29 #[.pointer (some ⟨w.heap.size, 0, none⟩), v] (w.alloc (pk 0#64 .nilIface)) fun e w' =>
      e = .returned (.tuple #[]) ∧ w'.heap[w.heap.size]? = some (pk (withAll 0#64 l) (if l.all ok then .nilIface else errv a)) ∧ Below w.heap.size w w' ∧ Sent w' a := by
    have hB : Below w.heap.size w (w.alloc (pk 0#64 .nilIface)) := (Below.refl _ _).alloc (Nat.le_refl _) _
    have hv' := hv.below hB
    rcases hv' with ⟨rfl, rfl⟩ | ⟨b, off, cap, rfl, hlt, hn, _, hc⟩
    · refine (with_nil _ _).mono ?_
      rintro e w' ⟨rfl, rfl⟩
      exact ⟨rfl, heap_new _ _, hB, hs.alloc _⟩
    · refine (with_any w.heap.size b off cap l 0#64 .nilIface a _ (heap_new _ _) (hs.alloc _) hg (Nat.ne_of_lt hlt) hc (by omega)).mono ?_
      rintro e w' ⟨rfl, hP⟩
      exact ⟨rfl, hP.obj, hP.below hB (Nat.le_refl _), hP.sent (hs.alloc _) hg⟩
  unfold pk at H
  rw [u_zero] at H
  by_cases hl : l.all ok = true
  · rw [if_pos hl] at H
    have e1 : ofSet l = withAll 0#64 l := if_pos hl
    have e2 : ofErr l = 0 := if_pos hl
    rw [e1, e2]
    have HH := Lib.hid H
    clear H hs hv hl e1 e2
    go_enter Tryd.func20, Tryd.ntmps20
    go_wp2_with fail
    refine HH.out.mono ?_
    rintro e w' ⟨rfl, ho, hB, hS⟩
    have HB := Lib.hid hB
    clear HH hB
    go_wp2_with (go_at_call 30; refine (end_ok _ _ _ ho).mono ?_; rintro e w' ⟨rfl, rfl⟩)
    go_ret2
    exact ⟨rfl, HB.out⟩
  · rw [if_neg hl] at H
    have e1 : ofSet l = 0#64 := if_neg hl
    have e2 : ofErr l = 10 := if_neg hl
    rw [e1, e2, u_zero]
    have HH := Lib.hid H
    clear H hs hv hl e1 e2
    go_enter Tryd.func20, Tryd.ntmps20
    go_wp2_with fail
    refine HH.out.mono ?_
    rintro e w' ⟨rfl, ho, hB, hS⟩
    have HB := Lib.hid hB
    clear HH hB
    go_wp2_with (go_at_call 30; refine (end_bad _ _ a _ ho hS).mono ?_; rintro e w' ⟨rfl, rfl⟩)
    go_ret2
    exact ⟨rfl, HB.out⟩
end Go.Proofs.YtkmklmdhmfikmaaDoor
