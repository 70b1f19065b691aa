/-
  THE WALK OF THE STATEMENT LabelOrders; label.Bottom, label.Top.
-/
import Derived.Test.YtapgeagmdiphgaaDoorLabW
namespace Go.Proofs.YtapgeagmdiphgaaDoor
open Go.RowKit

attribute [local go_sem] u_and u_or u_andNot u_add u_sub u_bit u_eq_zero u_beq

theorem Bottom_any (w : World) : Calls Tryd.prog 16 #[] w fun e w' => e = .returned (.agg #[.int .i64 botL.lv, .int .u64 (u botL.c), .int .i64 botL.ig]) ∧ Below w.heap.size w w' := by
  go_enter Tryd.func16, Tryd.ntmps16
  go_wp2
  go_returns
  exact ⟨rfl, by go_grown⟩
theorem less_all (W : World) : Calls Tryd.prog 34 #[.int .u64 18446744073709551615, .int .u64 0] W fun e w' => e = .returned (.int .u64 18446744073709551615) ∧ W = w' := by
  have h := less_any (BitVec.allOnes 64) 0#64 W
  rw [show u (BitVec.allOnes 64) = 18446744073709551615 by decide +kernel, show u 0#64 = 0 by decide +kernel, show u (BitVec.allOnes 64 &&& ~~~0#64) = 18446744073709551615 by decide +kernel] at h
  exact h
theorem Top_any (w : World) : Calls Tryd.prog 17 #[] w fun e w' => e = .returned (.agg #[.int .i64 topL.lv, .int .u64 (u topL.c), .int .i64 topL.ig]) ∧ Below w.heap.size w w' := by
  rw [show u topL.c = 18446744073709551615 by decide +kernel]
  go_enter Tryd.func17, Tryd.ntmps17
  go_wp2_with (go_at_call 34; refine (less_all _).mono ?_; rintro e w1 ⟨rfl, rfl⟩)
  go_returns
  exact ⟨rfl, by go_grown⟩

/-- an operation of a region, written out (not left as an element of the row) -/
theorem at_drop {α : Type} {xs : Array α} {i : Nat} {x : α} {rest : List α} (h : xs.toList.drop i = x :: rest) : xs[i]? = some x := by
  rw [← Array.getElem?_toList, ← List.head?_drop, h]; rfl
--ORDERS
set_option maxRecDepth 100000 in
set_option maxHeartbeats 4000000 in
theorem orders_1 (a b c : Lab) (w : World) (hh : Handle w) (h0 : UnderIs a b false) (h1 : UnderIs a a false) (h2 : RightIs a false) :
    Calls Tryd.prog 7 #[.agg #[.int .i64 a.lv, .int .u64 (u a.c), .int .i64 a.ig], .agg #[.int .i64 b.lv, .int .u64 (u b.c), .int .i64 b.ig], .agg #[.int .i64 c.lv, .int .u64 (u c.c), .int .i64 c.ig]] w (Yes w) := by
  have H0 := Lib.hid h0
  clear h0
  have H1 := Lib.hid h1
  clear h1
  have H2 := Lib.hid h2
  clear h2
  have HH := Lib.hid hh
  clear hh
  have HB := Lib.hid (Below.refl w.heap.size w)
  go_enter Tryd.func7, Tryd.ntmps7
  go_wp2_with fail
  refine (shown_any _ (HH.out.up (by (first | exact HB.out | exact HB.out.drew | exact HB.out.alloc HB.out.size _ | exact (HB.out.alloc HB.out.size _).drew | exact (HB.out.alloc HB.out.size _).alloc (Nat.le_trans HB.out.size (by simp)) _ | exact ((HB.out.alloc HB.out.size _).alloc (Nat.le_trans HB.out.size (by simp)) _).alloc (Nat.le_trans HB.out.size (by simp; omega)) _)))).mono ?_
  rintro e w1 ⟨rfl, hB⟩
  (have HBn : Below w.heap.size w w1 := below_lift (by (first | exact HB.out | exact HB.out.drew | exact HB.out.alloc HB.out.size _ | exact (HB.out.alloc HB.out.size _).drew | exact (HB.out.alloc HB.out.size _).alloc (Nat.le_trans HB.out.size (by simp)) _ | exact ((HB.out.alloc HB.out.size _).alloc (Nat.le_trans HB.out.size (by simp)) _).alloc (Nat.le_trans HB.out.size (by simp; omega)) _)) hB; obtain ⟨hc, hf⟩ := below_cell hB; have zz := hB.size; (try simp at zz); have HB := Lib.hid HBn; clear HBn hB)
  have k0 : w.heap.size < w1.heap.size := by omega
  have m0 : w.heap.size < w1.heap.size + 1 := by omega
  have k1 : w.heap.size + 1 < w1.heap.size := by omega
  have m1 : w.heap.size + 1 < w1.heap.size + 1 := by omega
  have k2 : w.heap.size + 1 + 1 < w1.heap.size := by omega
  have m2 : w.heap.size + 1 + 1 < w1.heap.size + 1 := by omega
  go_wp2_with fail
  refine (H0.out _).mono ?_
  rintro e w2 ⟨rfl, hB⟩
  have p0 : w2.cell? ⟨w.heap.size, 0, none⟩ = some (.int .i64 a.lv) := by rw [(below_cell hB).1 _ _ (by first | omega | (simp; omega))]; (try simp only [World.cell?_drew]); rw [hc _ _ (by simp <;> omega)]; go_simp
  have p1 : w2.cell? ⟨w.heap.size, 1, none⟩ = some (.int .u64 (u a.c)) := by rw [(below_cell hB).1 _ _ (by first | omega | (simp; omega))]; (try simp only [World.cell?_drew]); rw [hc _ _ (by simp <;> omega)]; go_simp
  have p2 : w2.cell? ⟨w.heap.size, 2, none⟩ = some (.int .i64 a.ig) := by rw [(below_cell hB).1 _ _ (by first | omega | (simp; omega))]; (try simp only [World.cell?_drew]); rw [hc _ _ (by simp <;> omega)]; go_simp
  have p3 : w2.cell? ⟨w.heap.size + 1, 0, none⟩ = some (.int .i64 b.lv) := by rw [(below_cell hB).1 _ _ (by first | omega | (simp; omega))]; (try simp only [World.cell?_drew]); rw [hc _ _ (by simp <;> omega)]; go_simp
  have p4 : w2.cell? ⟨w.heap.size + 1, 1, none⟩ = some (.int .u64 (u b.c)) := by rw [(below_cell hB).1 _ _ (by first | omega | (simp; omega))]; (try simp only [World.cell?_drew]); rw [hc _ _ (by simp <;> omega)]; go_simp
  have p5 : w2.cell? ⟨w.heap.size + 1, 2, none⟩ = some (.int .i64 b.ig) := by rw [(below_cell hB).1 _ _ (by first | omega | (simp; omega))]; (try simp only [World.cell?_drew]); rw [hc _ _ (by simp <;> omega)]; go_simp
  have p6 : w2.cell? ⟨w.heap.size + 1 + 1, 0, none⟩ = some (.int .i64 c.lv) := by rw [(below_cell hB).1 _ _ (by first | omega | (simp; omega))]; (try simp only [World.cell?_drew]); rw [hc _ _ (by simp <;> omega)]; go_simp
  have p7 : w2.cell? ⟨w.heap.size + 1 + 1, 1, none⟩ = some (.int .u64 (u c.c)) := by rw [(below_cell hB).1 _ _ (by first | omega | (simp; omega))]; (try simp only [World.cell?_drew]); rw [hc _ _ (by simp <;> omega)]; go_simp
  have p8 : w2.cell? ⟨w.heap.size + 1 + 1, 2, none⟩ = some (.int .i64 c.ig) := by rw [(below_cell hB).1 _ _ (by first | omega | (simp; omega))]; (try simp only [World.cell?_drew]); rw [hc _ _ (by simp <;> omega)]; go_simp
  have y := hB.size
  (try simp at y)
  have z0 : w.heap.size < w2.heap.size := by omega
  have z1 : w.heap.size + 1 < w2.heap.size := by omega
  have z2 : w.heap.size + 1 + 1 < w2.heap.size := by omega
  have HBn : Below w.heap.size w w2 := below_lift (by (first | exact HB.out | exact HB.out.drew | exact HB.out.alloc HB.out.size _ | exact (HB.out.alloc HB.out.size _).drew | exact (HB.out.alloc HB.out.size _).alloc (Nat.le_trans HB.out.size (by simp)) _ | exact ((HB.out.alloc HB.out.size _).alloc (Nat.le_trans HB.out.size (by simp)) _).alloc (Nat.le_trans HB.out.size (by simp; omega)) _)) hB
  have HB := Lib.hid HBn
  clear HBn hB hc hf zz y k0 k1 k2 m0 m1 m2
  go_wp2_with fail
  refine wp_region_held_drew (S := (fun w' => w'.cell? ⟨w.heap.size, 0, none⟩ = some (.int .i64 a.lv) ∧ w'.cell? ⟨w.heap.size, 1, none⟩ = some (.int .u64 (u a.c)) ∧ w'.cell? ⟨w.heap.size, 2, none⟩ = some (.int .i64 a.ig) ∧ w'.cell? ⟨w.heap.size + 1, 0, none⟩ = some (.int .i64 b.lv) ∧ w'.cell? ⟨w.heap.size + 1, 1, none⟩ = some (.int .u64 (u b.c)) ∧ w'.cell? ⟨w.heap.size + 1, 2, none⟩ = some (.int .i64 b.ig) ∧ w'.cell? ⟨w.heap.size + 1 + 1, 0, none⟩ = some (.int .i64 c.lv) ∧ w'.cell? ⟨w.heap.size + 1 + 1, 1, none⟩ = some (.int .u64 (u c.c)) ∧ w'.cell? ⟨w.heap.size + 1 + 1, 2, none⟩ = some (.int .i64 c.ig))) (by kernel_rfl) (⟨p0, p1, p2, p3, p4, p5, p6, p7, p8⟩) (fun hHeld => ?_)
  first | (refine wpAnyH_take (i := 0) (v := ?_) (at_drop rfl) (by kernel_rfl) (by kernel_rfl) (by kernel_rfl) (fun _ _ _ h => h) (Or.inl ⟨by rfl, ?_⟩) (by assumption) ?_; rotate_left; focus ((intro w' hSw; (try dsimp only at hSw); go_simp) <;> with_reducible rfl)) | (refine wpAnyH_take (i := 0) (v := undef) (at_drop rfl) (by kernel_rfl) (by kernel_rfl) (by kernel_rfl) (fun _ _ _ h => h) (Or.inr ⟨by rfl, rfl⟩) (by assumption) ?_)
  try simp only [Act.put, List.setIfInBounds_toArray, List.set_cons_zero, List.set_cons_succ]
  first | (refine wpAnyH_take (i := 1) (v := ?_) (at_drop rfl) (by kernel_rfl) (by kernel_rfl) (by kernel_rfl) (fun _ _ _ h => h) (Or.inl ⟨by rfl, ?_⟩) (by assumption) ?_; rotate_left; focus ((intro w' hSw; (try dsimp only at hSw); go_simp) <;> with_reducible rfl)) | (refine wpAnyH_take (i := 1) (v := undef) (at_drop rfl) (by kernel_rfl) (by kernel_rfl) (by kernel_rfl) (fun _ _ _ h => h) (Or.inr ⟨by rfl, rfl⟩) (by assumption) ?_)
  try simp only [Act.put, List.setIfInBounds_toArray, List.set_cons_zero, List.set_cons_succ]
  first | (refine wpAnyH_take (i := 2) (v := ?_) (at_drop rfl) (by kernel_rfl) (by kernel_rfl) (by kernel_rfl) (fun _ _ _ h => h) (Or.inl ⟨by rfl, ?_⟩) (by assumption) ?_; rotate_left; focus ((intro w' hSw; (try dsimp only at hSw); go_simp) <;> with_reducible rfl)) | (refine wpAnyH_take (i := 2) (v := undef) (at_drop rfl) (by kernel_rfl) (by kernel_rfl) (by kernel_rfl) (fun _ _ _ h => h) (Or.inr ⟨by rfl, rfl⟩) (by assumption) ?_)
  try simp only [Act.put, List.setIfInBounds_toArray, List.set_cons_zero, List.set_cons_succ]
  first | (refine wpAnyH_take (i := 3) (v := ?_) (at_drop rfl) (by kernel_rfl) (by kernel_rfl) (by kernel_rfl) (fun _ _ _ h => h) (Or.inl ⟨by rfl, ?_⟩) (by assumption) ?_; rotate_left; focus ((intro w' hSw; (try dsimp only at hSw); go_simp) <;> with_reducible rfl)) | (refine wpAnyH_take (i := 3) (v := undef) (at_drop rfl) (by kernel_rfl) (by kernel_rfl) (by kernel_rfl) (fun _ _ _ h => h) (Or.inr ⟨by rfl, rfl⟩) (by assumption) ?_)
  try simp only [Act.put, List.setIfInBounds_toArray, List.set_cons_zero, List.set_cons_succ]
  first | (refine wpAnyH_take (i := 5) (v := ?_) (at_drop rfl) (by kernel_rfl) (by kernel_rfl) (by kernel_rfl) (fun _ _ _ h => h) (Or.inl ⟨by rfl, ?_⟩) (by assumption) ?_; rotate_left; focus ((intro w' hSw; (try dsimp only at hSw); go_simp) <;> with_reducible rfl)) | (refine wpAnyH_take (i := 5) (v := undef) (at_drop rfl) (by kernel_rfl) (by kernel_rfl) (by kernel_rfl) (fun _ _ _ h => h) (Or.inr ⟨by rfl, rfl⟩) (by assumption) ?_)
  try simp only [Act.put, List.setIfInBounds_toArray, List.set_cons_zero, List.set_cons_succ]
  refine wpAnyH_ready (rs := [4]) (by kernel_rfl) (by simp) ?_
  refine AllReadyH.cons (at_drop rfl) (fun K hK => ?_) AllReadyH.nil
  go_simp
  refine (H1.out _).mono ?_
  rintro e wn ⟨rfl, hB⟩
  (have HBn : Below w.heap.size w wn := below_lift (by (first | exact HB.out | exact HB.out.drew | exact HB.out.alloc HB.out.size _ | exact (HB.out.alloc HB.out.size _).drew | exact (HB.out.alloc HB.out.size _).alloc (Nat.le_trans HB.out.size (by simp)) _ | exact ((HB.out.alloc HB.out.size _).alloc (Nat.le_trans HB.out.size (by simp)) _).alloc (Nat.le_trans HB.out.size (by simp; omega)) _)) hB; obtain ⟨hc, hf⟩ := below_cell hB; have zz := hB.size; (try simp at zz); have HB := Lib.hid HBn; clear HBn hB)
  have p0 := (hc (w.heap.size) 0 (by first | omega | (simp; omega))).trans p0
  have p1 := (hc (w.heap.size) 1 (by first | omega | (simp; omega))).trans p1
  have p2 := (hc (w.heap.size) 2 (by first | omega | (simp; omega))).trans p2
  have p3 := (hc (w.heap.size + 1) 0 (by first | omega | (simp; omega))).trans p3
  have p4 := (hc (w.heap.size + 1) 1 (by first | omega | (simp; omega))).trans p4
  have p5 := (hc (w.heap.size + 1) 2 (by first | omega | (simp; omega))).trans p5
  have p6 := (hc (w.heap.size + 1 + 1) 0 (by first | omega | (simp; omega))).trans p6
  have p7 := (hc (w.heap.size + 1 + 1) 1 (by first | omega | (simp; omega))).trans p7
  have p8 := (hc (w.heap.size + 1 + 1) 2 (by first | omega | (simp; omega))).trans p8
  clear hc hf
  have z0 : w.heap.size < wn.heap.size := by omega
  have z1 : w.heap.size + 1 < wn.heap.size := by omega
  have z2 : w.heap.size + 1 + 1 < wn.heap.size := by omega
  refine hK.out _ _ (⟨p0, p1, p2, p3, p4, p5, p6, p7, p8⟩) (fun hHeld => ?_)
  clear hK K
  try simp only [Act.put, List.setIfInBounds_toArray, List.set_cons_zero, List.set_cons_succ]
  refine wpAnyH_ready (rs := [6]) (by kernel_rfl) (by simp) ?_
  refine AllReadyH.cons (at_drop rfl) (fun K hK => ?_) AllReadyH.nil
  go_simp
  refine (H2.out _).mono ?_
  rintro e wn ⟨rfl, hB⟩
  (have HBn : Below w.heap.size w wn := below_lift (by (first | exact HB.out | exact HB.out.drew | exact HB.out.alloc HB.out.size _ | exact (HB.out.alloc HB.out.size _).drew | exact (HB.out.alloc HB.out.size _).alloc (Nat.le_trans HB.out.size (by simp)) _ | exact ((HB.out.alloc HB.out.size _).alloc (Nat.le_trans HB.out.size (by simp)) _).alloc (Nat.le_trans HB.out.size (by simp; omega)) _)) hB; obtain ⟨hc, hf⟩ := below_cell hB; have zz := hB.size; (try simp at zz); have HB := Lib.hid HBn; clear HBn hB)
  have p0 := (hc (w.heap.size) 0 (by first | omega | (simp; omega))).trans p0
  have p1 := (hc (w.heap.size) 1 (by first | omega | (simp; omega))).trans p1
  have p2 := (hc (w.heap.size) 2 (by first | omega | (simp; omega))).trans p2
  have p3 := (hc (w.heap.size + 1) 0 (by first | omega | (simp; omega))).trans p3
  have p4 := (hc (w.heap.size + 1) 1 (by first | omega | (simp; omega))).trans p4
  have p5 := (hc (w.heap.size + 1) 2 (by first | omega | (simp; omega))).trans p5
  have p6 := (hc (w.heap.size + 1 + 1) 0 (by first | omega | (simp; omega))).trans p6
  have p7 := (hc (w.heap.size + 1 + 1) 1 (by first | omega | (simp; omega))).trans p7
  have p8 := (hc (w.heap.size + 1 + 1) 2 (by first | omega | (simp; omega))).trans p8
  clear hc hf
  have z0 : w.heap.size < wn.heap.size := by omega
  have z1 : w.heap.size + 1 < wn.heap.size := by omega
  have z2 : w.heap.size + 1 + 1 < wn.heap.size := by omega
  refine hK.out _ _ (⟨p0, p1, p2, p3, p4, p5, p6, p7, p8⟩) (fun hHeld => ?_)
  clear hK K
  try simp only [Act.put, List.setIfInBounds_toArray, List.set_cons_zero, List.set_cons_succ]
  first | (refine wpAnyH_take (i := 7) (v := ?_) (at_drop rfl) (by kernel_rfl) (by kernel_rfl) (by kernel_rfl) (fun _ _ _ h => h) (Or.inl ⟨by rfl, ?_⟩) (by assumption) ?_; rotate_left; focus ((intro w' hSw; (try dsimp only at hSw); go_simp) <;> with_reducible rfl)) | (refine wpAnyH_take (i := 7) (v := undef) (at_drop rfl) (by kernel_rfl) (by kernel_rfl) (by kernel_rfl) (fun _ _ _ h => h) (Or.inr ⟨by rfl, rfl⟩) (by assumption) ?_)
  try simp only [Act.put, List.setIfInBounds_toArray, List.set_cons_zero, List.set_cons_succ]
  first | (refine wpAnyH_take (i := 8) (v := ?_) (at_drop rfl) (by kernel_rfl) (by kernel_rfl) (by kernel_rfl) (fun _ _ _ h => h) (Or.inl ⟨by rfl, ?_⟩) (by assumption) ?_; rotate_left; focus ((intro w' hSw; (try dsimp only at hSw); go_simp) <;> with_reducible rfl)) | (refine wpAnyH_take (i := 8) (v := undef) (at_drop rfl) (by kernel_rfl) (by kernel_rfl) (by kernel_rfl) (fun _ _ _ h => h) (Or.inr ⟨by rfl, rfl⟩) (by assumption) ?_)
  try simp only [Act.put, List.setIfInBounds_toArray, List.set_cons_zero, List.set_cons_succ]
  first | (refine wpAnyH_take (i := 9) (v := ?_) (at_drop rfl) (by kernel_rfl) (by kernel_rfl) (by kernel_rfl) (fun _ _ _ h => h) (Or.inl ⟨by rfl, ?_⟩) (by assumption) ?_; rotate_left; focus ((intro w' hSw; (try dsimp only at hSw); go_simp) <;> with_reducible rfl)) | (refine wpAnyH_take (i := 9) (v := undef) (at_drop rfl) (by kernel_rfl) (by kernel_rfl) (by kernel_rfl) (fun _ _ _ h => h) (Or.inr ⟨by rfl, rfl⟩) (by assumption) ?_)
  try simp only [Act.put, List.setIfInBounds_toArray, List.set_cons_zero, List.set_cons_succ]
  first | (refine wpAnyH_take (i := 10) (v := ?_) (at_drop rfl) (by kernel_rfl) (by kernel_rfl) (by kernel_rfl) (fun _ _ _ h => h) (Or.inl ⟨by rfl, ?_⟩) (by assumption) ?_; rotate_left; focus ((intro w' hSw; (try dsimp only at hSw); go_simp) <;> with_reducible rfl)) | (refine wpAnyH_take (i := 10) (v := undef) (at_drop rfl) (by kernel_rfl) (by kernel_rfl) (by kernel_rfl) (fun _ _ _ h => h) (Or.inr ⟨by rfl, rfl⟩) (by assumption) ?_)
  try simp only [Act.put, List.setIfInBounds_toArray, List.set_cons_zero, List.set_cons_succ]
  first | (refine wpAnyH_take (i := 11) (v := ?_) (at_drop rfl) (by kernel_rfl) (by kernel_rfl) (by kernel_rfl) (fun _ _ _ h => h) (Or.inl ⟨by rfl, ?_⟩) (by assumption) ?_; rotate_left; focus ((intro w' hSw; (try dsimp only at hSw); go_simp) <;> with_reducible rfl)) | (refine wpAnyH_take (i := 11) (v := undef) (at_drop rfl) (by kernel_rfl) (by kernel_rfl) (by kernel_rfl) (fun _ _ _ h => h) (Or.inr ⟨by rfl, rfl⟩) (by assumption) ?_)
  try simp only [Act.put, List.setIfInBounds_toArray, List.set_cons_zero, List.set_cons_succ]
  first | (refine wpAnyH_take (i := 12) (v := ?_) (at_drop rfl) (by kernel_rfl) (by kernel_rfl) (by kernel_rfl) (fun _ _ _ h => h) (Or.inl ⟨by rfl, ?_⟩) (by assumption) ?_; rotate_left; focus ((intro w' hSw; (try dsimp only at hSw); go_simp) <;> with_reducible rfl)) | (refine wpAnyH_take (i := 12) (v := undef) (at_drop rfl) (by kernel_rfl) (by kernel_rfl) (by kernel_rfl) (fun _ _ _ h => h) (Or.inr ⟨by rfl, rfl⟩) (by assumption) ?_)
  try simp only [Act.put, List.setIfInBounds_toArray, List.set_cons_zero, List.set_cons_succ]
  first | (refine wpAnyH_take (i := 13) (v := ?_) (at_drop rfl) (by kernel_rfl) (by kernel_rfl) (by kernel_rfl) (fun _ _ _ h => h) (Or.inl ⟨by rfl, ?_⟩) (by assumption) ?_; rotate_left; focus ((intro w' hSw; (try dsimp only at hSw); go_simp) <;> with_reducible rfl)) | (refine wpAnyH_take (i := 13) (v := undef) (at_drop rfl) (by kernel_rfl) (by kernel_rfl) (by kernel_rfl) (fun _ _ _ h => h) (Or.inr ⟨by rfl, rfl⟩) (by assumption) ?_)
  try simp only [Act.put, List.setIfInBounds_toArray, List.set_cons_zero, List.set_cons_succ]
  first | (refine wpAnyH_take (i := 14) (v := ?_) (at_drop rfl) (by kernel_rfl) (by kernel_rfl) (by kernel_rfl) (fun _ _ _ h => h) (Or.inl ⟨by rfl, ?_⟩) (by assumption) ?_; rotate_left; focus ((intro w' hSw; (try dsimp only at hSw); go_simp) <;> with_reducible rfl)) | (refine wpAnyH_take (i := 14) (v := undef) (at_drop rfl) (by kernel_rfl) (by kernel_rfl) (by kernel_rfl) (fun _ _ _ h => h) (Or.inr ⟨by rfl, rfl⟩) (by assumption) ?_)
  try simp only [Act.put, List.setIfInBounds_toArray, List.set_cons_zero, List.set_cons_succ]
  (refine wpAnyH_take (i := 15) (v := undef) (at_drop rfl) (by kernel_rfl) (by kernel_rfl) (by kernel_rfl) (fun _ _ _ h => h) (Or.inr ⟨by rfl, rfl⟩) (by assumption) ?_)
  try simp only [Act.put, List.setIfInBounds_toArray, List.set_cons_zero, List.set_cons_succ]
  first | (refine wpAnyH_take (i := 16) (v := ?_) (at_drop rfl) (by kernel_rfl) (by kernel_rfl) (by kernel_rfl) (fun _ _ _ h => h) (Or.inl ⟨by rfl, ?_⟩) (by assumption) ?_; rotate_left; focus ((intro w' hSw; (try dsimp only at hSw); go_simp) <;> with_reducible rfl)) | (refine wpAnyH_take (i := 16) (v := undef) (at_drop rfl) (by kernel_rfl) (by kernel_rfl) (by kernel_rfl) (fun _ _ _ h => h) (Or.inr ⟨by rfl, rfl⟩) (by assumption) ?_)
  try simp only [Act.put, List.setIfInBounds_toArray, List.set_cons_zero, List.set_cons_succ]
  first | (refine wpAnyH_take (i := 17) (v := ?_) (at_drop rfl) (by kernel_rfl) (by kernel_rfl) (by kernel_rfl) (fun _ _ _ h => h) (Or.inl ⟨by rfl, ?_⟩) (by assumption) ?_; rotate_left; focus ((intro w' hSw; (try dsimp only at hSw); go_simp) <;> with_reducible rfl)) | (refine wpAnyH_take (i := 17) (v := undef) (at_drop rfl) (by kernel_rfl) (by kernel_rfl) (by kernel_rfl) (fun _ _ _ h => h) (Or.inr ⟨by rfl, rfl⟩) (by assumption) ?_)
  try simp only [Act.put, List.setIfInBounds_toArray, List.set_cons_zero, List.set_cons_succ]
  first | (refine wpAnyH_take (i := 18) (v := ?_) (at_drop rfl) (by kernel_rfl) (by kernel_rfl) (by kernel_rfl) (fun _ _ _ h => h) (Or.inl ⟨by rfl, ?_⟩) (by assumption) ?_; rotate_left; focus ((intro w' hSw; (try dsimp only at hSw); go_simp) <;> with_reducible rfl)) | (refine wpAnyH_take (i := 18) (v := undef) (at_drop rfl) (by kernel_rfl) (by kernel_rfl) (by kernel_rfl) (fun _ _ _ h => h) (Or.inr ⟨by rfl, rfl⟩) (by assumption) ?_)
  try simp only [Act.put, List.setIfInBounds_toArray, List.set_cons_zero, List.set_cons_succ]
  first | (refine wpAnyH_take (i := 19) (v := ?_) (at_drop rfl) (by kernel_rfl) (by kernel_rfl) (by kernel_rfl) (fun _ _ _ h => h) (Or.inl ⟨by rfl, ?_⟩) (by assumption) ?_; rotate_left; focus ((intro w' hSw; (try dsimp only at hSw); go_simp) <;> with_reducible rfl)) | (refine wpAnyH_take (i := 19) (v := undef) (at_drop rfl) (by kernel_rfl) (by kernel_rfl) (by kernel_rfl) (fun _ _ _ h => h) (Or.inr ⟨by rfl, rfl⟩) (by assumption) ?_)
  try simp only [Act.put, List.setIfInBounds_toArray, List.set_cons_zero, List.set_cons_succ]
  first | (refine wpAnyH_take (i := 20) (v := ?_) (at_drop rfl) (by kernel_rfl) (by kernel_rfl) (by kernel_rfl) (fun _ _ _ h => h) (Or.inl ⟨by rfl, ?_⟩) (by assumption) ?_; rotate_left; focus ((intro w' hSw; (try dsimp only at hSw); go_simp) <;> with_reducible rfl)) | (refine wpAnyH_take (i := 20) (v := undef) (at_drop rfl) (by kernel_rfl) (by kernel_rfl) (by kernel_rfl) (fun _ _ _ h => h) (Or.inr ⟨by rfl, rfl⟩) (by assumption) ?_)
  try simp only [Act.put, List.setIfInBounds_toArray, List.set_cons_zero, List.set_cons_succ]
  first | (refine wpAnyH_take (i := 21) (v := ?_) (at_drop rfl) (by kernel_rfl) (by kernel_rfl) (by kernel_rfl) (fun _ _ _ h => h) (Or.inl ⟨by rfl, ?_⟩) (by assumption) ?_; rotate_left; focus ((intro w' hSw; (try dsimp only at hSw); go_simp) <;> with_reducible rfl)) | (refine wpAnyH_take (i := 21) (v := undef) (at_drop rfl) (by kernel_rfl) (by kernel_rfl) (by kernel_rfl) (fun _ _ _ h => h) (Or.inr ⟨by rfl, rfl⟩) (by assumption) ?_)
  try simp only [Act.put, List.setIfInBounds_toArray, List.set_cons_zero, List.set_cons_succ]
  first | (refine wpAnyH_take (i := 22) (v := ?_) (at_drop rfl) (by kernel_rfl) (by kernel_rfl) (by kernel_rfl) (fun _ _ _ h => h) (Or.inl ⟨by rfl, ?_⟩) (by assumption) ?_; rotate_left; focus ((intro w' hSw; (try dsimp only at hSw); go_simp) <;> with_reducible rfl)) | (refine wpAnyH_take (i := 22) (v := undef) (at_drop rfl) (by kernel_rfl) (by kernel_rfl) (by kernel_rfl) (fun _ _ _ h => h) (Or.inr ⟨by rfl, rfl⟩) (by assumption) ?_)
  try simp only [Act.put, List.setIfInBounds_toArray, List.set_cons_zero, List.set_cons_succ]
  first | (refine wpAnyH_take (i := 23) (v := ?_) (at_drop rfl) (by kernel_rfl) (by kernel_rfl) (by kernel_rfl) (fun _ _ _ h => h) (Or.inl ⟨by rfl, ?_⟩) (by assumption) ?_; rotate_left; focus ((intro w' hSw; (try dsimp only at hSw); go_simp) <;> with_reducible rfl)) | (refine wpAnyH_take (i := 23) (v := undef) (at_drop rfl) (by kernel_rfl) (by kernel_rfl) (by kernel_rfl) (fun _ _ _ h => h) (Or.inr ⟨by rfl, rfl⟩) (by assumption) ?_)
  try simp only [Act.put, List.setIfInBounds_toArray, List.set_cons_zero, List.set_cons_succ]
  first | (refine wpAnyH_take (i := 24) (v := ?_) (at_drop rfl) (by kernel_rfl) (by kernel_rfl) (by kernel_rfl) (fun _ _ _ h => h) (Or.inl ⟨by rfl, ?_⟩) (by assumption) ?_; rotate_left; focus ((intro w' hSw; (try dsimp only at hSw); go_simp) <;> with_reducible rfl)) | (refine wpAnyH_take (i := 24) (v := undef) (at_drop rfl) (by kernel_rfl) (by kernel_rfl) (by kernel_rfl) (fun _ _ _ h => h) (Or.inr ⟨by rfl, rfl⟩) (by assumption) ?_)
  try simp only [Act.put, List.setIfInBounds_toArray, List.set_cons_zero, List.set_cons_succ]
  first | (refine wpAnyH_take (i := 25) (v := ?_) (at_drop rfl) (by kernel_rfl) (by kernel_rfl) (by kernel_rfl) (fun _ _ _ h => h) (Or.inl ⟨by rfl, ?_⟩) (by assumption) ?_; rotate_left; focus ((intro w' hSw; (try dsimp only at hSw); go_simp) <;> with_reducible rfl)) | (refine wpAnyH_take (i := 25) (v := undef) (at_drop rfl) (by kernel_rfl) (by kernel_rfl) (by kernel_rfl) (fun _ _ _ h => h) (Or.inr ⟨by rfl, rfl⟩) (by assumption) ?_)
  try simp only [Act.put, List.setIfInBounds_toArray, List.set_cons_zero, List.set_cons_succ]
  first | (refine wpAnyH_take (i := 26) (v := ?_) (at_drop rfl) (by kernel_rfl) (by kernel_rfl) (by kernel_rfl) (fun _ _ _ h => h) (Or.inl ⟨by rfl, ?_⟩) (by assumption) ?_; rotate_left; focus ((intro w' hSw; (try dsimp only at hSw); go_simp) <;> with_reducible rfl)) | (refine wpAnyH_take (i := 26) (v := undef) (at_drop rfl) (by kernel_rfl) (by kernel_rfl) (by kernel_rfl) (fun _ _ _ h => h) (Or.inr ⟨by rfl, rfl⟩) (by assumption) ?_)
  try simp only [Act.put, List.setIfInBounds_toArray, List.set_cons_zero, List.set_cons_succ]
  first | (refine wpAnyH_take (i := 27) (v := ?_) (at_drop rfl) (by kernel_rfl) (by kernel_rfl) (by kernel_rfl) (fun _ _ _ h => h) (Or.inl ⟨by rfl, ?_⟩) (by assumption) ?_; rotate_left; focus ((intro w' hSw; (try dsimp only at hSw); go_simp) <;> with_reducible rfl)) | (refine wpAnyH_take (i := 27) (v := undef) (at_drop rfl) (by kernel_rfl) (by kernel_rfl) (by kernel_rfl) (fun _ _ _ h => h) (Or.inr ⟨by rfl, rfl⟩) (by assumption) ?_)
  try simp only [Act.put, List.setIfInBounds_toArray, List.set_cons_zero, List.set_cons_succ]
  first | (refine wpAnyH_take (i := 28) (v := ?_) (at_drop rfl) (by kernel_rfl) (by kernel_rfl) (by kernel_rfl) (fun _ _ _ h => h) (Or.inl ⟨by rfl, ?_⟩) (by assumption) ?_; rotate_left; focus ((intro w' hSw; (try dsimp only at hSw); go_simp) <;> with_reducible rfl)) | (refine wpAnyH_take (i := 28) (v := undef) (at_drop rfl) (by kernel_rfl) (by kernel_rfl) (by kernel_rfl) (fun _ _ _ h => h) (Or.inr ⟨by rfl, rfl⟩) (by assumption) ?_)
  try simp only [Act.put, List.setIfInBounds_toArray, List.set_cons_zero, List.set_cons_succ]
  first | (refine wpAnyH_take (i := 29) (v := ?_) (at_drop rfl) (by kernel_rfl) (by kernel_rfl) (by kernel_rfl) (fun _ _ _ h => h) (Or.inl ⟨by rfl, ?_⟩) (by assumption) ?_; rotate_left; focus ((intro w' hSw; (try dsimp only at hSw); go_simp) <;> with_reducible rfl)) | (refine wpAnyH_take (i := 29) (v := undef) (at_drop rfl) (by kernel_rfl) (by kernel_rfl) (by kernel_rfl) (fun _ _ _ h => h) (Or.inr ⟨by rfl, rfl⟩) (by assumption) ?_)
  try simp only [Act.put, List.setIfInBounds_toArray, List.set_cons_zero, List.set_cons_succ]
  (refine wpAnyH_take (i := 30) (v := undef) (at_drop rfl) (by kernel_rfl) (by kernel_rfl) (by kernel_rfl) (fun _ _ _ h => h) (Or.inr ⟨by rfl, rfl⟩) (by assumption) ?_)
  try simp only [Act.put, List.setIfInBounds_toArray, List.set_cons_zero, List.set_cons_succ]
  first | (refine wpAnyH_take (i := 31) (v := ?_) (at_drop rfl) (by kernel_rfl) (by kernel_rfl) (by kernel_rfl) (fun _ _ _ h => h) (Or.inl ⟨by rfl, ?_⟩) (by assumption) ?_; rotate_left; focus ((intro w' hSw; (try dsimp only at hSw); go_simp) <;> with_reducible rfl)) | (refine wpAnyH_take (i := 31) (v := undef) (at_drop rfl) (by kernel_rfl) (by kernel_rfl) (by kernel_rfl) (fun _ _ _ h => h) (Or.inr ⟨by rfl, rfl⟩) (by assumption) ?_)
  try simp only [Act.put, List.setIfInBounds_toArray, List.set_cons_zero, List.set_cons_succ]
  first | (refine wpAnyH_take (i := 32) (v := ?_) (at_drop rfl) (by kernel_rfl) (by kernel_rfl) (by kernel_rfl) (fun _ _ _ h => h) (Or.inl ⟨by rfl, ?_⟩) (by assumption) ?_; rotate_left; focus ((intro w' hSw; (try dsimp only at hSw); go_simp) <;> with_reducible rfl)) | (refine wpAnyH_take (i := 32) (v := undef) (at_drop rfl) (by kernel_rfl) (by kernel_rfl) (by kernel_rfl) (fun _ _ _ h => h) (Or.inr ⟨by rfl, rfl⟩) (by assumption) ?_)
  try simp only [Act.put, List.setIfInBounds_toArray, List.set_cons_zero, List.set_cons_succ]
  first | (refine wpAnyH_take (i := 33) (v := ?_) (at_drop rfl) (by kernel_rfl) (by kernel_rfl) (by kernel_rfl) (fun _ _ _ h => h) (Or.inl ⟨by rfl, ?_⟩) (by assumption) ?_; rotate_left; focus ((intro w' hSw; (try dsimp only at hSw); go_simp) <;> with_reducible rfl)) | (refine wpAnyH_take (i := 33) (v := undef) (at_drop rfl) (by kernel_rfl) (by kernel_rfl) (by kernel_rfl) (fun _ _ _ h => h) (Or.inr ⟨by rfl, rfl⟩) (by assumption) ?_)
  try simp only [Act.put, List.setIfInBounds_toArray, List.set_cons_zero, List.set_cons_succ]
  first | (refine wpAnyH_take (i := 34) (v := ?_) (at_drop rfl) (by kernel_rfl) (by kernel_rfl) (by kernel_rfl) (fun _ _ _ h => h) (Or.inl ⟨by rfl, ?_⟩) (by assumption) ?_; rotate_left; focus ((intro w' hSw; (try dsimp only at hSw); go_simp) <;> with_reducible rfl)) | (refine wpAnyH_take (i := 34) (v := undef) (at_drop rfl) (by kernel_rfl) (by kernel_rfl) (by kernel_rfl) (fun _ _ _ h => h) (Or.inr ⟨by rfl, rfl⟩) (by assumption) ?_)
  try simp only [Act.put, List.setIfInBounds_toArray, List.set_cons_zero, List.set_cons_succ]
  first | (refine wpAnyH_take (i := 35) (v := ?_) (at_drop rfl) (by kernel_rfl) (by kernel_rfl) (by kernel_rfl) (fun _ _ _ h => h) (Or.inl ⟨by rfl, ?_⟩) (by assumption) ?_; rotate_left; focus ((intro w' hSw; (try dsimp only at hSw); go_simp) <;> with_reducible rfl)) | (refine wpAnyH_take (i := 35) (v := undef) (at_drop rfl) (by kernel_rfl) (by kernel_rfl) (by kernel_rfl) (fun _ _ _ h => h) (Or.inr ⟨by rfl, rfl⟩) (by assumption) ?_)
  try simp only [Act.put, List.setIfInBounds_toArray, List.set_cons_zero, List.set_cons_succ]
  (refine wpAnyH_take (i := 36) (v := undef) (at_drop rfl) (by kernel_rfl) (by kernel_rfl) (by kernel_rfl) (fun _ _ _ h => h) (Or.inr ⟨by rfl, rfl⟩) (by assumption) ?_)
  try simp only [Act.put, List.setIfInBounds_toArray, List.set_cons_zero, List.set_cons_succ]
  first | (refine wpAnyH_take (i := 37) (v := ?_) (at_drop rfl) (by kernel_rfl) (by kernel_rfl) (by kernel_rfl) (fun _ _ _ h => h) (Or.inl ⟨by rfl, ?_⟩) (by assumption) ?_; rotate_left; focus ((intro w' hSw; (try dsimp only at hSw); go_simp) <;> with_reducible rfl)) | (refine wpAnyH_take (i := 37) (v := undef) (at_drop rfl) (by kernel_rfl) (by kernel_rfl) (by kernel_rfl) (fun _ _ _ h => h) (Or.inr ⟨by rfl, rfl⟩) (by assumption) ?_)
  try simp only [Act.put, List.setIfInBounds_toArray, List.set_cons_zero, List.set_cons_succ]
  first | (refine wpAnyH_take (i := 38) (v := ?_) (at_drop rfl) (by kernel_rfl) (by kernel_rfl) (by kernel_rfl) (fun _ _ _ h => h) (Or.inl ⟨by rfl, ?_⟩) (by assumption) ?_; rotate_left; focus ((intro w' hSw; (try dsimp only at hSw); go_simp) <;> with_reducible rfl)) | (refine wpAnyH_take (i := 38) (v := undef) (at_drop rfl) (by kernel_rfl) (by kernel_rfl) (by kernel_rfl) (fun _ _ _ h => h) (Or.inr ⟨by rfl, rfl⟩) (by assumption) ?_)
  try simp only [Act.put, List.setIfInBounds_toArray, List.set_cons_zero, List.set_cons_succ]
  first | (refine wpAnyH_take (i := 39) (v := ?_) (at_drop rfl) (by kernel_rfl) (by kernel_rfl) (by kernel_rfl) (fun _ _ _ h => h) (Or.inl ⟨by rfl, ?_⟩) (by assumption) ?_; rotate_left; focus ((intro w' hSw; (try dsimp only at hSw); go_simp) <;> with_reducible rfl)) | (refine wpAnyH_take (i := 39) (v := undef) (at_drop rfl) (by kernel_rfl) (by kernel_rfl) (by kernel_rfl) (fun _ _ _ h => h) (Or.inr ⟨by rfl, rfl⟩) (by assumption) ?_)
  try simp only [Act.put, List.setIfInBounds_toArray, List.set_cons_zero, List.set_cons_succ]
  first | (refine wpAnyH_take (i := 40) (v := ?_) (at_drop rfl) (by kernel_rfl) (by kernel_rfl) (by kernel_rfl) (fun _ _ _ h => h) (Or.inl ⟨by rfl, ?_⟩) (by assumption) ?_; rotate_left; focus ((intro w' hSw; (try dsimp only at hSw); go_simp) <;> with_reducible rfl)) | (refine wpAnyH_take (i := 40) (v := undef) (at_drop rfl) (by kernel_rfl) (by kernel_rfl) (by kernel_rfl) (fun _ _ _ h => h) (Or.inr ⟨by rfl, rfl⟩) (by assumption) ?_)
  try simp only [Act.put, List.setIfInBounds_toArray, List.set_cons_zero, List.set_cons_succ]
  refine wpAnyH_ready (rs := [41]) (by kernel_rfl) (by simp) ?_
  refine AllReadyH.cons (at_drop rfl) (fun K hK => ?_) AllReadyH.nil
  go_simp
  refine (H2.out _).mono ?_
  rintro e wn ⟨rfl, hB⟩
  (have HBn : Below w.heap.size w wn := below_lift (by (first | exact HB.out | exact HB.out.drew | exact HB.out.alloc HB.out.size _ | exact (HB.out.alloc HB.out.size _).drew | exact (HB.out.alloc HB.out.size _).alloc (Nat.le_trans HB.out.size (by simp)) _ | exact ((HB.out.alloc HB.out.size _).alloc (Nat.le_trans HB.out.size (by simp)) _).alloc (Nat.le_trans HB.out.size (by simp; omega)) _)) hB; obtain ⟨hc, hf⟩ := below_cell hB; have zz := hB.size; (try simp at zz); have HB := Lib.hid HBn; clear HBn hB)
  have p0 := (hc (w.heap.size) 0 (by first | omega | (simp; omega))).trans p0
  have p1 := (hc (w.heap.size) 1 (by first | omega | (simp; omega))).trans p1
  have p2 := (hc (w.heap.size) 2 (by first | omega | (simp; omega))).trans p2
  have p3 := (hc (w.heap.size + 1) 0 (by first | omega | (simp; omega))).trans p3
  have p4 := (hc (w.heap.size + 1) 1 (by first | omega | (simp; omega))).trans p4
  have p5 := (hc (w.heap.size + 1) 2 (by first | omega | (simp; omega))).trans p5
  have p6 := (hc (w.heap.size + 1 + 1) 0 (by first | omega | (simp; omega))).trans p6
  have p7 := (hc (w.heap.size + 1 + 1) 1 (by first | omega | (simp; omega))).trans p7
  have p8 := (hc (w.heap.size + 1 + 1) 2 (by first | omega | (simp; omega))).trans p8
  clear hc hf
  have z0 : w.heap.size < wn.heap.size := by omega
  have z1 : w.heap.size + 1 < wn.heap.size := by omega
  have z2 : w.heap.size + 1 + 1 < wn.heap.size := by omega
  refine hK.out _ _ (⟨p0, p1, p2, p3, p4, p5, p6, p7, p8⟩) (fun hHeld => ?_)
  clear hK K
  try simp only [Act.put, List.setIfInBounds_toArray, List.set_cons_zero, List.set_cons_succ]
  first | (refine wpAnyH_take (i := 42) (v := ?_) (at_drop rfl) (by kernel_rfl) (by kernel_rfl) (by kernel_rfl) (fun _ _ _ h => h) (Or.inl ⟨by rfl, ?_⟩) (by assumption) ?_; rotate_left; focus ((intro w' hSw; (try dsimp only at hSw); go_simp) <;> with_reducible rfl)) | (refine wpAnyH_take (i := 42) (v := undef) (at_drop rfl) (by kernel_rfl) (by kernel_rfl) (by kernel_rfl) (fun _ _ _ h => h) (Or.inr ⟨by rfl, rfl⟩) (by assumption) ?_)
  try simp only [Act.put, List.setIfInBounds_toArray, List.set_cons_zero, List.set_cons_succ]
  first | (refine wpAnyH_take (i := 43) (v := ?_) (at_drop rfl) (by kernel_rfl) (by kernel_rfl) (by kernel_rfl) (fun _ _ _ h => h) (Or.inl ⟨by rfl, ?_⟩) (by assumption) ?_; rotate_left; focus ((intro w' hSw; (try dsimp only at hSw); go_simp) <;> with_reducible rfl)) | (refine wpAnyH_take (i := 43) (v := undef) (at_drop rfl) (by kernel_rfl) (by kernel_rfl) (by kernel_rfl) (fun _ _ _ h => h) (Or.inr ⟨by rfl, rfl⟩) (by assumption) ?_)
  try simp only [Act.put, List.setIfInBounds_toArray, List.set_cons_zero, List.set_cons_succ]
  first | (refine wpAnyH_take (i := 45) (v := ?_) (at_drop rfl) (by kernel_rfl) (by kernel_rfl) (by kernel_rfl) (fun _ _ _ h => h) (Or.inl ⟨by rfl, ?_⟩) (by assumption) ?_; rotate_left; focus ((intro w' hSw; (try dsimp only at hSw); go_simp) <;> with_reducible rfl)) | (refine wpAnyH_take (i := 45) (v := undef) (at_drop rfl) (by kernel_rfl) (by kernel_rfl) (by kernel_rfl) (fun _ _ _ h => h) (Or.inr ⟨by rfl, rfl⟩) (by assumption) ?_)
  try simp only [Act.put, List.setIfInBounds_toArray, List.set_cons_zero, List.set_cons_succ]
  (refine wpAnyH_take (i := 44) (v := undef) (at_drop rfl) (by kernel_rfl) (by kernel_rfl) (by kernel_rfl) (fun _ _ _ h => h) (Or.inr ⟨by rfl, rfl⟩) (by assumption) ?_)
  try simp only [Act.put, List.setIfInBounds_toArray, List.set_cons_zero, List.set_cons_succ]
  (refine wpAnyH_take (i := 46) (v := undef) (at_drop rfl) (by kernel_rfl) (by kernel_rfl) (by kernel_rfl) (fun _ _ _ h => h) (Or.inr ⟨by rfl, rfl⟩) (by assumption) ?_)
  try simp only [Act.put, List.setIfInBounds_toArray, List.set_cons_zero, List.set_cons_succ]
  first | (refine wpAnyH_take (i := 47) (v := ?_) (at_drop rfl) (by kernel_rfl) (by kernel_rfl) (by kernel_rfl) (fun _ _ _ h => h) (Or.inl ⟨by rfl, ?_⟩) (by assumption) ?_; rotate_left; focus ((intro w' hSw; (try dsimp only at hSw); go_simp) <;> with_reducible rfl)) | (refine wpAnyH_take (i := 47) (v := undef) (at_drop rfl) (by kernel_rfl) (by kernel_rfl) (by kernel_rfl) (fun _ _ _ h => h) (Or.inr ⟨by rfl, rfl⟩) (by assumption) ?_)
  try simp only [Act.put, List.setIfInBounds_toArray, List.set_cons_zero, List.set_cons_succ]
  first | (refine wpAnyH_take (i := 48) (v := ?_) (at_drop rfl) (by kernel_rfl) (by kernel_rfl) (by kernel_rfl) (fun _ _ _ h => h) (Or.inl ⟨by rfl, ?_⟩) (by assumption) ?_; rotate_left; focus ((intro w' hSw; (try dsimp only at hSw); go_simp) <;> with_reducible rfl)) | (refine wpAnyH_take (i := 48) (v := undef) (at_drop rfl) (by kernel_rfl) (by kernel_rfl) (by kernel_rfl) (fun _ _ _ h => h) (Or.inr ⟨by rfl, rfl⟩) (by assumption) ?_)
  try simp only [Act.put, List.setIfInBounds_toArray, List.set_cons_zero, List.set_cons_succ]
  (refine wpAnyH_take (i := 49) (v := undef) (at_drop rfl) (by kernel_rfl) (by kernel_rfl) (by kernel_rfl) (fun _ _ _ h => h) (Or.inr ⟨by rfl, rfl⟩) (by assumption) ?_)
  try simp only [Act.put, List.setIfInBounds_toArray, List.set_cons_zero, List.set_cons_succ]
  (refine wpAnyH_take (i := 50) (v := undef) (at_drop rfl) (by kernel_rfl) (by kernel_rfl) (by kernel_rfl) (fun _ _ _ h => h) (Or.inr ⟨by rfl, rfl⟩) (by assumption) ?_)
  try simp only [Act.put, List.setIfInBounds_toArray, List.set_cons_zero, List.set_cons_succ]
  first | (refine wpAnyH_take (i := 51) (v := ?_) (at_drop rfl) (by kernel_rfl) (by kernel_rfl) (by kernel_rfl) (fun _ _ _ h => h) (Or.inl ⟨by rfl, ?_⟩) (by assumption) ?_; rotate_left; focus ((intro w' hSw; (try dsimp only at hSw); go_simp) <;> with_reducible rfl)) | (refine wpAnyH_take (i := 51) (v := undef) (at_drop rfl) (by kernel_rfl) (by kernel_rfl) (by kernel_rfl) (fun _ _ _ h => h) (Or.inr ⟨by rfl, rfl⟩) (by assumption) ?_)
  try simp only [Act.put, List.setIfInBounds_toArray, List.set_cons_zero, List.set_cons_succ]
  first | (refine wpAnyH_take (i := 52) (v := ?_) (at_drop rfl) (by kernel_rfl) (by kernel_rfl) (by kernel_rfl) (fun _ _ _ h => h) (Or.inl ⟨by rfl, ?_⟩) (by assumption) ?_; rotate_left; focus ((intro w' hSw; (try dsimp only at hSw); go_simp) <;> with_reducible rfl)) | (refine wpAnyH_take (i := 52) (v := undef) (at_drop rfl) (by kernel_rfl) (by kernel_rfl) (by kernel_rfl) (fun _ _ _ h => h) (Or.inr ⟨by rfl, rfl⟩) (by assumption) ?_)
  try simp only [Act.put, List.setIfInBounds_toArray, List.set_cons_zero, List.set_cons_succ]
  first | (refine wpAnyH_take (i := 53) (v := ?_) (at_drop rfl) (by kernel_rfl) (by kernel_rfl) (by kernel_rfl) (fun _ _ _ h => h) (Or.inl ⟨by rfl, ?_⟩) (by assumption) ?_; rotate_left; focus ((intro w' hSw; (try dsimp only at hSw); go_simp) <;> with_reducible rfl)) | (refine wpAnyH_take (i := 53) (v := undef) (at_drop rfl) (by kernel_rfl) (by kernel_rfl) (by kernel_rfl) (fun _ _ _ h => h) (Or.inr ⟨by rfl, rfl⟩) (by assumption) ?_)
  try simp only [Act.put, List.setIfInBounds_toArray, List.set_cons_zero, List.set_cons_succ]
  first | (refine wpAnyH_take (i := 54) (v := ?_) (at_drop rfl) (by kernel_rfl) (by kernel_rfl) (by kernel_rfl) (fun _ _ _ h => h) (Or.inl ⟨by rfl, ?_⟩) (by assumption) ?_; rotate_left; focus ((intro w' hSw; (try dsimp only at hSw); go_simp) <;> with_reducible rfl)) | (refine wpAnyH_take (i := 54) (v := undef) (at_drop rfl) (by kernel_rfl) (by kernel_rfl) (by kernel_rfl) (fun _ _ _ h => h) (Or.inr ⟨by rfl, rfl⟩) (by assumption) ?_)
  try simp only [Act.put, List.setIfInBounds_toArray, List.set_cons_zero, List.set_cons_succ]
  refine wpAnyH_done (by kernel_rfl) ?_ _
  go_wp2_with fail
  go_ret
  exact ⟨rfl, HB.out⟩

set_option maxRecDepth 100000 in
set_option maxHeartbeats 4000000 in
theorem orders_2 (a b c bo tp : Lab) (w : World) (hh : Handle w) (h0 : UnderIs a b false) (h1 : UnderIs a a true) (h2 : RightIs a true) (h3 : ∀ W, Calls Tryd.prog 16 #[] W fun e w' => e = .returned (.agg #[.int .i64 bo.lv, .int .u64 (u bo.c), .int .i64 bo.ig]) ∧ Below W.heap.size W w') (h4 : UnderIs bo a true) (h5 : ∀ W, Calls Tryd.prog 17 #[] W fun e w' => e = .returned (.agg #[.int .i64 tp.lv, .int .u64 (u tp.c), .int .i64 tp.ig]) ∧ Below W.heap.size W w') (h6 : UnderIs a tp true) :
    Calls Tryd.prog 7 #[.agg #[.int .i64 a.lv, .int .u64 (u a.c), .int .i64 a.ig], .agg #[.int .i64 b.lv, .int .u64 (u b.c), .int .i64 b.ig], .agg #[.int .i64 c.lv, .int .u64 (u c.c), .int .i64 c.ig]] w (Yes w) := by
  have H0 := Lib.hid h0
  clear h0
  have H1 := Lib.hid h1
  clear h1
  have H2 := Lib.hid h2
  clear h2
  have H3 := Lib.hid h3
  clear h3
  have H4 := Lib.hid h4
  clear h4
  have H5 := Lib.hid h5
  clear h5
  have H6 := Lib.hid h6
  clear h6
  have HH := Lib.hid hh
  clear hh
  have HB := Lib.hid (Below.refl w.heap.size w)
  go_enter Tryd.func7, Tryd.ntmps7
  go_wp2_with fail
  refine (shown_any _ (HH.out.up (by (first | exact HB.out | exact HB.out.drew | exact HB.out.alloc HB.out.size _ | exact (HB.out.alloc HB.out.size _).drew | exact (HB.out.alloc HB.out.size _).alloc (Nat.le_trans HB.out.size (by simp)) _ | exact ((HB.out.alloc HB.out.size _).alloc (Nat.le_trans HB.out.size (by simp)) _).alloc (Nat.le_trans HB.out.size (by simp; omega)) _)))).mono ?_
  rintro e w1 ⟨rfl, hB⟩
  (have HBn : Below w.heap.size w w1 := below_lift (by (first | exact HB.out | exact HB.out.drew | exact HB.out.alloc HB.out.size _ | exact (HB.out.alloc HB.out.size _).drew | exact (HB.out.alloc HB.out.size _).alloc (Nat.le_trans HB.out.size (by simp)) _ | exact ((HB.out.alloc HB.out.size _).alloc (Nat.le_trans HB.out.size (by simp)) _).alloc (Nat.le_trans HB.out.size (by simp; omega)) _)) hB; obtain ⟨hc, hf⟩ := below_cell hB; have zz := hB.size; (try simp at zz); have HB := Lib.hid HBn; clear HBn hB)
  have k0 : w.heap.size < w1.heap.size := by omega
  have m0 : w.heap.size < w1.heap.size + 1 := by omega
  have k1 : w.heap.size + 1 < w1.heap.size := by omega
  have m1 : w.heap.size + 1 < w1.heap.size + 1 := by omega
  have k2 : w.heap.size + 1 + 1 < w1.heap.size := by omega
  have m2 : w.heap.size + 1 + 1 < w1.heap.size + 1 := by omega
  go_wp2_with fail
  refine (H0.out _).mono ?_
  rintro e w2 ⟨rfl, hB⟩
  have p0 : w2.cell? ⟨w.heap.size, 0, none⟩ = some (.int .i64 a.lv) := by rw [(below_cell hB).1 _ _ (by first | omega | (simp; omega))]; (try simp only [World.cell?_drew]); rw [hc _ _ (by simp <;> omega)]; go_simp
  have p1 : w2.cell? ⟨w.heap.size, 1, none⟩ = some (.int .u64 (u a.c)) := by rw [(below_cell hB).1 _ _ (by first | omega | (simp; omega))]; (try simp only [World.cell?_drew]); rw [hc _ _ (by simp <;> omega)]; go_simp
  have p2 : w2.cell? ⟨w.heap.size, 2, none⟩ = some (.int .i64 a.ig) := by rw [(below_cell hB).1 _ _ (by first | omega | (simp; omega))]; (try simp only [World.cell?_drew]); rw [hc _ _ (by simp <;> omega)]; go_simp
  have p3 : w2.cell? ⟨w.heap.size + 1, 0, none⟩ = some (.int .i64 b.lv) := by rw [(below_cell hB).1 _ _ (by first | omega | (simp; omega))]; (try simp only [World.cell?_drew]); rw [hc _ _ (by simp <;> omega)]; go_simp
  have p4 : w2.cell? ⟨w.heap.size + 1, 1, none⟩ = some (.int .u64 (u b.c)) := by rw [(below_cell hB).1 _ _ (by first | omega | (simp; omega))]; (try simp only [World.cell?_drew]); rw [hc _ _ (by simp <;> omega)]; go_simp
  have p5 : w2.cell? ⟨w.heap.size + 1, 2, none⟩ = some (.int .i64 b.ig) := by rw [(below_cell hB).1 _ _ (by first | omega | (simp; omega))]; (try simp only [World.cell?_drew]); rw [hc _ _ (by simp <;> omega)]; go_simp
  have p6 : w2.cell? ⟨w.heap.size + 1 + 1, 0, none⟩ = some (.int .i64 c.lv) := by rw [(below_cell hB).1 _ _ (by first | omega | (simp; omega))]; (try simp only [World.cell?_drew]); rw [hc _ _ (by simp <;> omega)]; go_simp
  have p7 : w2.cell? ⟨w.heap.size + 1 + 1, 1, none⟩ = some (.int .u64 (u c.c)) := by rw [(below_cell hB).1 _ _ (by first | omega | (simp; omega))]; (try simp only [World.cell?_drew]); rw [hc _ _ (by simp <;> omega)]; go_simp
  have p8 : w2.cell? ⟨w.heap.size + 1 + 1, 2, none⟩ = some (.int .i64 c.ig) := by rw [(below_cell hB).1 _ _ (by first | omega | (simp; omega))]; (try simp only [World.cell?_drew]); rw [hc _ _ (by simp <;> omega)]; go_simp
  have y := hB.size
  (try simp at y)
  have z0 : w.heap.size < w2.heap.size := by omega
  have z1 : w.heap.size + 1 < w2.heap.size := by omega
  have z2 : w.heap.size + 1 + 1 < w2.heap.size := by omega
  have HBn : Below w.heap.size w w2 := below_lift (by (first | exact HB.out | exact HB.out.drew | exact HB.out.alloc HB.out.size _ | exact (HB.out.alloc HB.out.size _).drew | exact (HB.out.alloc HB.out.size _).alloc (Nat.le_trans HB.out.size (by simp)) _ | exact ((HB.out.alloc HB.out.size _).alloc (Nat.le_trans HB.out.size (by simp)) _).alloc (Nat.le_trans HB.out.size (by simp; omega)) _)) hB
  have HB := Lib.hid HBn
  clear HBn hB hc hf zz y k0 k1 k2 m0 m1 m2
  go_wp2_with fail
  refine wp_region_held_drew (S := (fun w' => w'.cell? ⟨w.heap.size, 0, none⟩ = some (.int .i64 a.lv) ∧ w'.cell? ⟨w.heap.size, 1, none⟩ = some (.int .u64 (u a.c)) ∧ w'.cell? ⟨w.heap.size, 2, none⟩ = some (.int .i64 a.ig) ∧ w'.cell? ⟨w.heap.size + 1, 0, none⟩ = some (.int .i64 b.lv) ∧ w'.cell? ⟨w.heap.size + 1, 1, none⟩ = some (.int .u64 (u b.c)) ∧ w'.cell? ⟨w.heap.size + 1, 2, none⟩ = some (.int .i64 b.ig) ∧ w'.cell? ⟨w.heap.size + 1 + 1, 0, none⟩ = some (.int .i64 c.lv) ∧ w'.cell? ⟨w.heap.size + 1 + 1, 1, none⟩ = some (.int .u64 (u c.c)) ∧ w'.cell? ⟨w.heap.size + 1 + 1, 2, none⟩ = some (.int .i64 c.ig))) (by kernel_rfl) (⟨p0, p1, p2, p3, p4, p5, p6, p7, p8⟩) (fun hHeld => ?_)
  first | (refine wpAnyH_take (i := 0) (v := ?_) (at_drop rfl) (by kernel_rfl) (by kernel_rfl) (by kernel_rfl) (fun _ _ _ h => h) (Or.inl ⟨by rfl, ?_⟩) (by assumption) ?_; rotate_left; focus ((intro w' hSw; (try dsimp only at hSw); go_simp) <;> with_reducible rfl)) | (refine wpAnyH_take (i := 0) (v := undef) (at_drop rfl) (by kernel_rfl) (by kernel_rfl) (by kernel_rfl) (fun _ _ _ h => h) (Or.inr ⟨by rfl, rfl⟩) (by assumption) ?_)
  try simp only [Act.put, List.setIfInBounds_toArray, List.set_cons_zero, List.set_cons_succ]
  first | (refine wpAnyH_take (i := 1) (v := ?_) (at_drop rfl) (by kernel_rfl) (by kernel_rfl) (by kernel_rfl) (fun _ _ _ h => h) (Or.inl ⟨by rfl, ?_⟩) (by assumption) ?_; rotate_left; focus ((intro w' hSw; (try dsimp only at hSw); go_simp) <;> with_reducible rfl)) | (refine wpAnyH_take (i := 1) (v := undef) (at_drop rfl) (by kernel_rfl) (by kernel_rfl) (by kernel_rfl) (fun _ _ _ h => h) (Or.inr ⟨by rfl, rfl⟩) (by assumption) ?_)
  try simp only [Act.put, List.setIfInBounds_toArray, List.set_cons_zero, List.set_cons_succ]
  first | (refine wpAnyH_take (i := 2) (v := ?_) (at_drop rfl) (by kernel_rfl) (by kernel_rfl) (by kernel_rfl) (fun _ _ _ h => h) (Or.inl ⟨by rfl, ?_⟩) (by assumption) ?_; rotate_left; focus ((intro w' hSw; (try dsimp only at hSw); go_simp) <;> with_reducible rfl)) | (refine wpAnyH_take (i := 2) (v := undef) (at_drop rfl) (by kernel_rfl) (by kernel_rfl) (by kernel_rfl) (fun _ _ _ h => h) (Or.inr ⟨by rfl, rfl⟩) (by assumption) ?_)
  try simp only [Act.put, List.setIfInBounds_toArray, List.set_cons_zero, List.set_cons_succ]
  first | (refine wpAnyH_take (i := 3) (v := ?_) (at_drop rfl) (by kernel_rfl) (by kernel_rfl) (by kernel_rfl) (fun _ _ _ h => h) (Or.inl ⟨by rfl, ?_⟩) (by assumption) ?_; rotate_left; focus ((intro w' hSw; (try dsimp only at hSw); go_simp) <;> with_reducible rfl)) | (refine wpAnyH_take (i := 3) (v := undef) (at_drop rfl) (by kernel_rfl) (by kernel_rfl) (by kernel_rfl) (fun _ _ _ h => h) (Or.inr ⟨by rfl, rfl⟩) (by assumption) ?_)
  try simp only [Act.put, List.setIfInBounds_toArray, List.set_cons_zero, List.set_cons_succ]
  first | (refine wpAnyH_take (i := 5) (v := ?_) (at_drop rfl) (by kernel_rfl) (by kernel_rfl) (by kernel_rfl) (fun _ _ _ h => h) (Or.inl ⟨by rfl, ?_⟩) (by assumption) ?_; rotate_left; focus ((intro w' hSw; (try dsimp only at hSw); go_simp) <;> with_reducible rfl)) | (refine wpAnyH_take (i := 5) (v := undef) (at_drop rfl) (by kernel_rfl) (by kernel_rfl) (by kernel_rfl) (fun _ _ _ h => h) (Or.inr ⟨by rfl, rfl⟩) (by assumption) ?_)
  try simp only [Act.put, List.setIfInBounds_toArray, List.set_cons_zero, List.set_cons_succ]
  refine wpAnyH_ready (rs := [4]) (by kernel_rfl) (by simp) ?_
  refine AllReadyH.cons (at_drop rfl) (fun K hK => ?_) AllReadyH.nil
  go_simp
  refine (H1.out _).mono ?_
  rintro e wn ⟨rfl, hB⟩
  (have HBn : Below w.heap.size w wn := below_lift (by (first | exact HB.out | exact HB.out.drew | exact HB.out.alloc HB.out.size _ | exact (HB.out.alloc HB.out.size _).drew | exact (HB.out.alloc HB.out.size _).alloc (Nat.le_trans HB.out.size (by simp)) _ | exact ((HB.out.alloc HB.out.size _).alloc (Nat.le_trans HB.out.size (by simp)) _).alloc (Nat.le_trans HB.out.size (by simp; omega)) _)) hB; obtain ⟨hc, hf⟩ := below_cell hB; have zz := hB.size; (try simp at zz); have HB := Lib.hid HBn; clear HBn hB)
  have p0 := (hc (w.heap.size) 0 (by first | omega | (simp; omega))).trans p0
  have p1 := (hc (w.heap.size) 1 (by first | omega | (simp; omega))).trans p1
  have p2 := (hc (w.heap.size) 2 (by first | omega | (simp; omega))).trans p2
  have p3 := (hc (w.heap.size + 1) 0 (by first | omega | (simp; omega))).trans p3
  have p4 := (hc (w.heap.size + 1) 1 (by first | omega | (simp; omega))).trans p4
  have p5 := (hc (w.heap.size + 1) 2 (by first | omega | (simp; omega))).trans p5
  have p6 := (hc (w.heap.size + 1 + 1) 0 (by first | omega | (simp; omega))).trans p6
  have p7 := (hc (w.heap.size + 1 + 1) 1 (by first | omega | (simp; omega))).trans p7
  have p8 := (hc (w.heap.size + 1 + 1) 2 (by first | omega | (simp; omega))).trans p8
  clear hc hf
  have z0 : w.heap.size < wn.heap.size := by omega
  have z1 : w.heap.size + 1 < wn.heap.size := by omega
  have z2 : w.heap.size + 1 + 1 < wn.heap.size := by omega
  refine hK.out _ _ (⟨p0, p1, p2, p3, p4, p5, p6, p7, p8⟩) (fun hHeld => ?_)
  clear hK K
  try simp only [Act.put, List.setIfInBounds_toArray, List.set_cons_zero, List.set_cons_succ]
  refine wpAnyH_ready (rs := [6]) (by kernel_rfl) (by simp) ?_
  refine AllReadyH.cons (at_drop rfl) (fun K hK => ?_) AllReadyH.nil
  go_simp
  refine (H2.out _).mono ?_
  rintro e wn ⟨rfl, hB⟩
  (have HBn : Below w.heap.size w wn := below_lift (by (first | exact HB.out | exact HB.out.drew | exact HB.out.alloc HB.out.size _ | exact (HB.out.alloc HB.out.size _).drew | exact (HB.out.alloc HB.out.size _).alloc (Nat.le_trans HB.out.size (by simp)) _ | exact ((HB.out.alloc HB.out.size _).alloc (Nat.le_trans HB.out.size (by simp)) _).alloc (Nat.le_trans HB.out.size (by simp; omega)) _)) hB; obtain ⟨hc, hf⟩ := below_cell hB; have zz := hB.size; (try simp at zz); have HB := Lib.hid HBn; clear HBn hB)
  have p0 := (hc (w.heap.size) 0 (by first | omega | (simp; omega))).trans p0
  have p1 := (hc (w.heap.size) 1 (by first | omega | (simp; omega))).trans p1
  have p2 := (hc (w.heap.size) 2 (by first | omega | (simp; omega))).trans p2
  have p3 := (hc (w.heap.size + 1) 0 (by first | omega | (simp; omega))).trans p3
  have p4 := (hc (w.heap.size + 1) 1 (by first | omega | (simp; omega))).trans p4
  have p5 := (hc (w.heap.size + 1) 2 (by first | omega | (simp; omega))).trans p5
  have p6 := (hc (w.heap.size + 1 + 1) 0 (by first | omega | (simp; omega))).trans p6
  have p7 := (hc (w.heap.size + 1 + 1) 1 (by first | omega | (simp; omega))).trans p7
  have p8 := (hc (w.heap.size + 1 + 1) 2 (by first | omega | (simp; omega))).trans p8
  clear hc hf
  have z0 : w.heap.size < wn.heap.size := by omega
  have z1 : w.heap.size + 1 < wn.heap.size := by omega
  have z2 : w.heap.size + 1 + 1 < wn.heap.size := by omega
  refine hK.out _ _ (⟨p0, p1, p2, p3, p4, p5, p6, p7, p8⟩) (fun hHeld => ?_)
  clear hK K
  try simp only [Act.put, List.setIfInBounds_toArray, List.set_cons_zero, List.set_cons_succ]
  first | (refine wpAnyH_take (i := 7) (v := ?_) (at_drop rfl) (by kernel_rfl) (by kernel_rfl) (by kernel_rfl) (fun _ _ _ h => h) (Or.inl ⟨by rfl, ?_⟩) (by assumption) ?_; rotate_left; focus ((intro w' hSw; (try dsimp only at hSw); go_simp) <;> with_reducible rfl)) | (refine wpAnyH_take (i := 7) (v := undef) (at_drop rfl) (by kernel_rfl) (by kernel_rfl) (by kernel_rfl) (fun _ _ _ h => h) (Or.inr ⟨by rfl, rfl⟩) (by assumption) ?_)
  try simp only [Act.put, List.setIfInBounds_toArray, List.set_cons_zero, List.set_cons_succ]
  first | (refine wpAnyH_take (i := 8) (v := ?_) (at_drop rfl) (by kernel_rfl) (by kernel_rfl) (by kernel_rfl) (fun _ _ _ h => h) (Or.inl ⟨by rfl, ?_⟩) (by assumption) ?_; rotate_left; focus ((intro w' hSw; (try dsimp only at hSw); go_simp) <;> with_reducible rfl)) | (refine wpAnyH_take (i := 8) (v := undef) (at_drop rfl) (by kernel_rfl) (by kernel_rfl) (by kernel_rfl) (fun _ _ _ h => h) (Or.inr ⟨by rfl, rfl⟩) (by assumption) ?_)
  try simp only [Act.put, List.setIfInBounds_toArray, List.set_cons_zero, List.set_cons_succ]
  first | (refine wpAnyH_take (i := 9) (v := ?_) (at_drop rfl) (by kernel_rfl) (by kernel_rfl) (by kernel_rfl) (fun _ _ _ h => h) (Or.inl ⟨by rfl, ?_⟩) (by assumption) ?_; rotate_left; focus ((intro w' hSw; (try dsimp only at hSw); go_simp) <;> with_reducible rfl)) | (refine wpAnyH_take (i := 9) (v := undef) (at_drop rfl) (by kernel_rfl) (by kernel_rfl) (by kernel_rfl) (fun _ _ _ h => h) (Or.inr ⟨by rfl, rfl⟩) (by assumption) ?_)
  try simp only [Act.put, List.setIfInBounds_toArray, List.set_cons_zero, List.set_cons_succ]
  first | (refine wpAnyH_take (i := 10) (v := ?_) (at_drop rfl) (by kernel_rfl) (by kernel_rfl) (by kernel_rfl) (fun _ _ _ h => h) (Or.inl ⟨by rfl, ?_⟩) (by assumption) ?_; rotate_left; focus ((intro w' hSw; (try dsimp only at hSw); go_simp) <;> with_reducible rfl)) | (refine wpAnyH_take (i := 10) (v := undef) (at_drop rfl) (by kernel_rfl) (by kernel_rfl) (by kernel_rfl) (fun _ _ _ h => h) (Or.inr ⟨by rfl, rfl⟩) (by assumption) ?_)
  try simp only [Act.put, List.setIfInBounds_toArray, List.set_cons_zero, List.set_cons_succ]
  first | (refine wpAnyH_take (i := 11) (v := ?_) (at_drop rfl) (by kernel_rfl) (by kernel_rfl) (by kernel_rfl) (fun _ _ _ h => h) (Or.inl ⟨by rfl, ?_⟩) (by assumption) ?_; rotate_left; focus ((intro w' hSw; (try dsimp only at hSw); go_simp) <;> with_reducible rfl)) | (refine wpAnyH_take (i := 11) (v := undef) (at_drop rfl) (by kernel_rfl) (by kernel_rfl) (by kernel_rfl) (fun _ _ _ h => h) (Or.inr ⟨by rfl, rfl⟩) (by assumption) ?_)
  try simp only [Act.put, List.setIfInBounds_toArray, List.set_cons_zero, List.set_cons_succ]
  first | (refine wpAnyH_take (i := 12) (v := ?_) (at_drop rfl) (by kernel_rfl) (by kernel_rfl) (by kernel_rfl) (fun _ _ _ h => h) (Or.inl ⟨by rfl, ?_⟩) (by assumption) ?_; rotate_left; focus ((intro w' hSw; (try dsimp only at hSw); go_simp) <;> with_reducible rfl)) | (refine wpAnyH_take (i := 12) (v := undef) (at_drop rfl) (by kernel_rfl) (by kernel_rfl) (by kernel_rfl) (fun _ _ _ h => h) (Or.inr ⟨by rfl, rfl⟩) (by assumption) ?_)
  try simp only [Act.put, List.setIfInBounds_toArray, List.set_cons_zero, List.set_cons_succ]
  first | (refine wpAnyH_take (i := 13) (v := ?_) (at_drop rfl) (by kernel_rfl) (by kernel_rfl) (by kernel_rfl) (fun _ _ _ h => h) (Or.inl ⟨by rfl, ?_⟩) (by assumption) ?_; rotate_left; focus ((intro w' hSw; (try dsimp only at hSw); go_simp) <;> with_reducible rfl)) | (refine wpAnyH_take (i := 13) (v := undef) (at_drop rfl) (by kernel_rfl) (by kernel_rfl) (by kernel_rfl) (fun _ _ _ h => h) (Or.inr ⟨by rfl, rfl⟩) (by assumption) ?_)
  try simp only [Act.put, List.setIfInBounds_toArray, List.set_cons_zero, List.set_cons_succ]
  first | (refine wpAnyH_take (i := 14) (v := ?_) (at_drop rfl) (by kernel_rfl) (by kernel_rfl) (by kernel_rfl) (fun _ _ _ h => h) (Or.inl ⟨by rfl, ?_⟩) (by assumption) ?_; rotate_left; focus ((intro w' hSw; (try dsimp only at hSw); go_simp) <;> with_reducible rfl)) | (refine wpAnyH_take (i := 14) (v := undef) (at_drop rfl) (by kernel_rfl) (by kernel_rfl) (by kernel_rfl) (fun _ _ _ h => h) (Or.inr ⟨by rfl, rfl⟩) (by assumption) ?_)
  try simp only [Act.put, List.setIfInBounds_toArray, List.set_cons_zero, List.set_cons_succ]
  (refine wpAnyH_take (i := 15) (v := undef) (at_drop rfl) (by kernel_rfl) (by kernel_rfl) (by kernel_rfl) (fun _ _ _ h => h) (Or.inr ⟨by rfl, rfl⟩) (by assumption) ?_)
  try simp only [Act.put, List.setIfInBounds_toArray, List.set_cons_zero, List.set_cons_succ]
  first | (refine wpAnyH_take (i := 16) (v := ?_) (at_drop rfl) (by kernel_rfl) (by kernel_rfl) (by kernel_rfl) (fun _ _ _ h => h) (Or.inl ⟨by rfl, ?_⟩) (by assumption) ?_; rotate_left; focus ((intro w' hSw; (try dsimp only at hSw); go_simp) <;> with_reducible rfl)) | (refine wpAnyH_take (i := 16) (v := undef) (at_drop rfl) (by kernel_rfl) (by kernel_rfl) (by kernel_rfl) (fun _ _ _ h => h) (Or.inr ⟨by rfl, rfl⟩) (by assumption) ?_)
  try simp only [Act.put, List.setIfInBounds_toArray, List.set_cons_zero, List.set_cons_succ]
  first | (refine wpAnyH_take (i := 17) (v := ?_) (at_drop rfl) (by kernel_rfl) (by kernel_rfl) (by kernel_rfl) (fun _ _ _ h => h) (Or.inl ⟨by rfl, ?_⟩) (by assumption) ?_; rotate_left; focus ((intro w' hSw; (try dsimp only at hSw); go_simp) <;> with_reducible rfl)) | (refine wpAnyH_take (i := 17) (v := undef) (at_drop rfl) (by kernel_rfl) (by kernel_rfl) (by kernel_rfl) (fun _ _ _ h => h) (Or.inr ⟨by rfl, rfl⟩) (by assumption) ?_)
  try simp only [Act.put, List.setIfInBounds_toArray, List.set_cons_zero, List.set_cons_succ]
  first | (refine wpAnyH_take (i := 18) (v := ?_) (at_drop rfl) (by kernel_rfl) (by kernel_rfl) (by kernel_rfl) (fun _ _ _ h => h) (Or.inl ⟨by rfl, ?_⟩) (by assumption) ?_; rotate_left; focus ((intro w' hSw; (try dsimp only at hSw); go_simp) <;> with_reducible rfl)) | (refine wpAnyH_take (i := 18) (v := undef) (at_drop rfl) (by kernel_rfl) (by kernel_rfl) (by kernel_rfl) (fun _ _ _ h => h) (Or.inr ⟨by rfl, rfl⟩) (by assumption) ?_)
  try simp only [Act.put, List.setIfInBounds_toArray, List.set_cons_zero, List.set_cons_succ]
  first | (refine wpAnyH_take (i := 19) (v := ?_) (at_drop rfl) (by kernel_rfl) (by kernel_rfl) (by kernel_rfl) (fun _ _ _ h => h) (Or.inl ⟨by rfl, ?_⟩) (by assumption) ?_; rotate_left; focus ((intro w' hSw; (try dsimp only at hSw); go_simp) <;> with_reducible rfl)) | (refine wpAnyH_take (i := 19) (v := undef) (at_drop rfl) (by kernel_rfl) (by kernel_rfl) (by kernel_rfl) (fun _ _ _ h => h) (Or.inr ⟨by rfl, rfl⟩) (by assumption) ?_)
  try simp only [Act.put, List.setIfInBounds_toArray, List.set_cons_zero, List.set_cons_succ]
  first | (refine wpAnyH_take (i := 20) (v := ?_) (at_drop rfl) (by kernel_rfl) (by kernel_rfl) (by kernel_rfl) (fun _ _ _ h => h) (Or.inl ⟨by rfl, ?_⟩) (by assumption) ?_; rotate_left; focus ((intro w' hSw; (try dsimp only at hSw); go_simp) <;> with_reducible rfl)) | (refine wpAnyH_take (i := 20) (v := undef) (at_drop rfl) (by kernel_rfl) (by kernel_rfl) (by kernel_rfl) (fun _ _ _ h => h) (Or.inr ⟨by rfl, rfl⟩) (by assumption) ?_)
  try simp only [Act.put, List.setIfInBounds_toArray, List.set_cons_zero, List.set_cons_succ]
  first | (refine wpAnyH_take (i := 21) (v := ?_) (at_drop rfl) (by kernel_rfl) (by kernel_rfl) (by kernel_rfl) (fun _ _ _ h => h) (Or.inl ⟨by rfl, ?_⟩) (by assumption) ?_; rotate_left; focus ((intro w' hSw; (try dsimp only at hSw); go_simp) <;> with_reducible rfl)) | (refine wpAnyH_take (i := 21) (v := undef) (at_drop rfl) (by kernel_rfl) (by kernel_rfl) (by kernel_rfl) (fun _ _ _ h => h) (Or.inr ⟨by rfl, rfl⟩) (by assumption) ?_)
  try simp only [Act.put, List.setIfInBounds_toArray, List.set_cons_zero, List.set_cons_succ]
  first | (refine wpAnyH_take (i := 22) (v := ?_) (at_drop rfl) (by kernel_rfl) (by kernel_rfl) (by kernel_rfl) (fun _ _ _ h => h) (Or.inl ⟨by rfl, ?_⟩) (by assumption) ?_; rotate_left; focus ((intro w' hSw; (try dsimp only at hSw); go_simp) <;> with_reducible rfl)) | (refine wpAnyH_take (i := 22) (v := undef) (at_drop rfl) (by kernel_rfl) (by kernel_rfl) (by kernel_rfl) (fun _ _ _ h => h) (Or.inr ⟨by rfl, rfl⟩) (by assumption) ?_)
  try simp only [Act.put, List.setIfInBounds_toArray, List.set_cons_zero, List.set_cons_succ]
  first | (refine wpAnyH_take (i := 23) (v := ?_) (at_drop rfl) (by kernel_rfl) (by kernel_rfl) (by kernel_rfl) (fun _ _ _ h => h) (Or.inl ⟨by rfl, ?_⟩) (by assumption) ?_; rotate_left; focus ((intro w' hSw; (try dsimp only at hSw); go_simp) <;> with_reducible rfl)) | (refine wpAnyH_take (i := 23) (v := undef) (at_drop rfl) (by kernel_rfl) (by kernel_rfl) (by kernel_rfl) (fun _ _ _ h => h) (Or.inr ⟨by rfl, rfl⟩) (by assumption) ?_)
  try simp only [Act.put, List.setIfInBounds_toArray, List.set_cons_zero, List.set_cons_succ]
  first | (refine wpAnyH_take (i := 24) (v := ?_) (at_drop rfl) (by kernel_rfl) (by kernel_rfl) (by kernel_rfl) (fun _ _ _ h => h) (Or.inl ⟨by rfl, ?_⟩) (by assumption) ?_; rotate_left; focus ((intro w' hSw; (try dsimp only at hSw); go_simp) <;> with_reducible rfl)) | (refine wpAnyH_take (i := 24) (v := undef) (at_drop rfl) (by kernel_rfl) (by kernel_rfl) (by kernel_rfl) (fun _ _ _ h => h) (Or.inr ⟨by rfl, rfl⟩) (by assumption) ?_)
  try simp only [Act.put, List.setIfInBounds_toArray, List.set_cons_zero, List.set_cons_succ]
  first | (refine wpAnyH_take (i := 25) (v := ?_) (at_drop rfl) (by kernel_rfl) (by kernel_rfl) (by kernel_rfl) (fun _ _ _ h => h) (Or.inl ⟨by rfl, ?_⟩) (by assumption) ?_; rotate_left; focus ((intro w' hSw; (try dsimp only at hSw); go_simp) <;> with_reducible rfl)) | (refine wpAnyH_take (i := 25) (v := undef) (at_drop rfl) (by kernel_rfl) (by kernel_rfl) (by kernel_rfl) (fun _ _ _ h => h) (Or.inr ⟨by rfl, rfl⟩) (by assumption) ?_)
  try simp only [Act.put, List.setIfInBounds_toArray, List.set_cons_zero, List.set_cons_succ]
  first | (refine wpAnyH_take (i := 26) (v := ?_) (at_drop rfl) (by kernel_rfl) (by kernel_rfl) (by kernel_rfl) (fun _ _ _ h => h) (Or.inl ⟨by rfl, ?_⟩) (by assumption) ?_; rotate_left; focus ((intro w' hSw; (try dsimp only at hSw); go_simp) <;> with_reducible rfl)) | (refine wpAnyH_take (i := 26) (v := undef) (at_drop rfl) (by kernel_rfl) (by kernel_rfl) (by kernel_rfl) (fun _ _ _ h => h) (Or.inr ⟨by rfl, rfl⟩) (by assumption) ?_)
  try simp only [Act.put, List.setIfInBounds_toArray, List.set_cons_zero, List.set_cons_succ]
  first | (refine wpAnyH_take (i := 27) (v := ?_) (at_drop rfl) (by kernel_rfl) (by kernel_rfl) (by kernel_rfl) (fun _ _ _ h => h) (Or.inl ⟨by rfl, ?_⟩) (by assumption) ?_; rotate_left; focus ((intro w' hSw; (try dsimp only at hSw); go_simp) <;> with_reducible rfl)) | (refine wpAnyH_take (i := 27) (v := undef) (at_drop rfl) (by kernel_rfl) (by kernel_rfl) (by kernel_rfl) (fun _ _ _ h => h) (Or.inr ⟨by rfl, rfl⟩) (by assumption) ?_)
  try simp only [Act.put, List.setIfInBounds_toArray, List.set_cons_zero, List.set_cons_succ]
  first | (refine wpAnyH_take (i := 28) (v := ?_) (at_drop rfl) (by kernel_rfl) (by kernel_rfl) (by kernel_rfl) (fun _ _ _ h => h) (Or.inl ⟨by rfl, ?_⟩) (by assumption) ?_; rotate_left; focus ((intro w' hSw; (try dsimp only at hSw); go_simp) <;> with_reducible rfl)) | (refine wpAnyH_take (i := 28) (v := undef) (at_drop rfl) (by kernel_rfl) (by kernel_rfl) (by kernel_rfl) (fun _ _ _ h => h) (Or.inr ⟨by rfl, rfl⟩) (by assumption) ?_)
  try simp only [Act.put, List.setIfInBounds_toArray, List.set_cons_zero, List.set_cons_succ]
  first | (refine wpAnyH_take (i := 29) (v := ?_) (at_drop rfl) (by kernel_rfl) (by kernel_rfl) (by kernel_rfl) (fun _ _ _ h => h) (Or.inl ⟨by rfl, ?_⟩) (by assumption) ?_; rotate_left; focus ((intro w' hSw; (try dsimp only at hSw); go_simp) <;> with_reducible rfl)) | (refine wpAnyH_take (i := 29) (v := undef) (at_drop rfl) (by kernel_rfl) (by kernel_rfl) (by kernel_rfl) (fun _ _ _ h => h) (Or.inr ⟨by rfl, rfl⟩) (by assumption) ?_)
  try simp only [Act.put, List.setIfInBounds_toArray, List.set_cons_zero, List.set_cons_succ]
  (refine wpAnyH_take (i := 30) (v := undef) (at_drop rfl) (by kernel_rfl) (by kernel_rfl) (by kernel_rfl) (fun _ _ _ h => h) (Or.inr ⟨by rfl, rfl⟩) (by assumption) ?_)
  try simp only [Act.put, List.setIfInBounds_toArray, List.set_cons_zero, List.set_cons_succ]
  first | (refine wpAnyH_take (i := 31) (v := ?_) (at_drop rfl) (by kernel_rfl) (by kernel_rfl) (by kernel_rfl) (fun _ _ _ h => h) (Or.inl ⟨by rfl, ?_⟩) (by assumption) ?_; rotate_left; focus ((intro w' hSw; (try dsimp only at hSw); go_simp) <;> with_reducible rfl)) | (refine wpAnyH_take (i := 31) (v := undef) (at_drop rfl) (by kernel_rfl) (by kernel_rfl) (by kernel_rfl) (fun _ _ _ h => h) (Or.inr ⟨by rfl, rfl⟩) (by assumption) ?_)
  try simp only [Act.put, List.setIfInBounds_toArray, List.set_cons_zero, List.set_cons_succ]
  first | (refine wpAnyH_take (i := 32) (v := ?_) (at_drop rfl) (by kernel_rfl) (by kernel_rfl) (by kernel_rfl) (fun _ _ _ h => h) (Or.inl ⟨by rfl, ?_⟩) (by assumption) ?_; rotate_left; focus ((intro w' hSw; (try dsimp only at hSw); go_simp) <;> with_reducible rfl)) | (refine wpAnyH_take (i := 32) (v := undef) (at_drop rfl) (by kernel_rfl) (by kernel_rfl) (by kernel_rfl) (fun _ _ _ h => h) (Or.inr ⟨by rfl, rfl⟩) (by assumption) ?_)
  try simp only [Act.put, List.setIfInBounds_toArray, List.set_cons_zero, List.set_cons_succ]
  first | (refine wpAnyH_take (i := 33) (v := ?_) (at_drop rfl) (by kernel_rfl) (by kernel_rfl) (by kernel_rfl) (fun _ _ _ h => h) (Or.inl ⟨by rfl, ?_⟩) (by assumption) ?_; rotate_left; focus ((intro w' hSw; (try dsimp only at hSw); go_simp) <;> with_reducible rfl)) | (refine wpAnyH_take (i := 33) (v := undef) (at_drop rfl) (by kernel_rfl) (by kernel_rfl) (by kernel_rfl) (fun _ _ _ h => h) (Or.inr ⟨by rfl, rfl⟩) (by assumption) ?_)
  try simp only [Act.put, List.setIfInBounds_toArray, List.set_cons_zero, List.set_cons_succ]
  first | (refine wpAnyH_take (i := 34) (v := ?_) (at_drop rfl) (by kernel_rfl) (by kernel_rfl) (by kernel_rfl) (fun _ _ _ h => h) (Or.inl ⟨by rfl, ?_⟩) (by assumption) ?_; rotate_left; focus ((intro w' hSw; (try dsimp only at hSw); go_simp) <;> with_reducible rfl)) | (refine wpAnyH_take (i := 34) (v := undef) (at_drop rfl) (by kernel_rfl) (by kernel_rfl) (by kernel_rfl) (fun _ _ _ h => h) (Or.inr ⟨by rfl, rfl⟩) (by assumption) ?_)
  try simp only [Act.put, List.setIfInBounds_toArray, List.set_cons_zero, List.set_cons_succ]
  first | (refine wpAnyH_take (i := 35) (v := ?_) (at_drop rfl) (by kernel_rfl) (by kernel_rfl) (by kernel_rfl) (fun _ _ _ h => h) (Or.inl ⟨by rfl, ?_⟩) (by assumption) ?_; rotate_left; focus ((intro w' hSw; (try dsimp only at hSw); go_simp) <;> with_reducible rfl)) | (refine wpAnyH_take (i := 35) (v := undef) (at_drop rfl) (by kernel_rfl) (by kernel_rfl) (by kernel_rfl) (fun _ _ _ h => h) (Or.inr ⟨by rfl, rfl⟩) (by assumption) ?_)
  try simp only [Act.put, List.setIfInBounds_toArray, List.set_cons_zero, List.set_cons_succ]
  (refine wpAnyH_take (i := 36) (v := undef) (at_drop rfl) (by kernel_rfl) (by kernel_rfl) (by kernel_rfl) (fun _ _ _ h => h) (Or.inr ⟨by rfl, rfl⟩) (by assumption) ?_)
  try simp only [Act.put, List.setIfInBounds_toArray, List.set_cons_zero, List.set_cons_succ]
  first | (refine wpAnyH_take (i := 37) (v := ?_) (at_drop rfl) (by kernel_rfl) (by kernel_rfl) (by kernel_rfl) (fun _ _ _ h => h) (Or.inl ⟨by rfl, ?_⟩) (by assumption) ?_; rotate_left; focus ((intro w' hSw; (try dsimp only at hSw); go_simp) <;> with_reducible rfl)) | (refine wpAnyH_take (i := 37) (v := undef) (at_drop rfl) (by kernel_rfl) (by kernel_rfl) (by kernel_rfl) (fun _ _ _ h => h) (Or.inr ⟨by rfl, rfl⟩) (by assumption) ?_)
  try simp only [Act.put, List.setIfInBounds_toArray, List.set_cons_zero, List.set_cons_succ]
  first | (refine wpAnyH_take (i := 38) (v := ?_) (at_drop rfl) (by kernel_rfl) (by kernel_rfl) (by kernel_rfl) (fun _ _ _ h => h) (Or.inl ⟨by rfl, ?_⟩) (by assumption) ?_; rotate_left; focus ((intro w' hSw; (try dsimp only at hSw); go_simp) <;> with_reducible rfl)) | (refine wpAnyH_take (i := 38) (v := undef) (at_drop rfl) (by kernel_rfl) (by kernel_rfl) (by kernel_rfl) (fun _ _ _ h => h) (Or.inr ⟨by rfl, rfl⟩) (by assumption) ?_)
  try simp only [Act.put, List.setIfInBounds_toArray, List.set_cons_zero, List.set_cons_succ]
  first | (refine wpAnyH_take (i := 39) (v := ?_) (at_drop rfl) (by kernel_rfl) (by kernel_rfl) (by kernel_rfl) (fun _ _ _ h => h) (Or.inl ⟨by rfl, ?_⟩) (by assumption) ?_; rotate_left; focus ((intro w' hSw; (try dsimp only at hSw); go_simp) <;> with_reducible rfl)) | (refine wpAnyH_take (i := 39) (v := undef) (at_drop rfl) (by kernel_rfl) (by kernel_rfl) (by kernel_rfl) (fun _ _ _ h => h) (Or.inr ⟨by rfl, rfl⟩) (by assumption) ?_)
  try simp only [Act.put, List.setIfInBounds_toArray, List.set_cons_zero, List.set_cons_succ]
  first | (refine wpAnyH_take (i := 40) (v := ?_) (at_drop rfl) (by kernel_rfl) (by kernel_rfl) (by kernel_rfl) (fun _ _ _ h => h) (Or.inl ⟨by rfl, ?_⟩) (by assumption) ?_; rotate_left; focus ((intro w' hSw; (try dsimp only at hSw); go_simp) <;> with_reducible rfl)) | (refine wpAnyH_take (i := 40) (v := undef) (at_drop rfl) (by kernel_rfl) (by kernel_rfl) (by kernel_rfl) (fun _ _ _ h => h) (Or.inr ⟨by rfl, rfl⟩) (by assumption) ?_)
  try simp only [Act.put, List.setIfInBounds_toArray, List.set_cons_zero, List.set_cons_succ]
  refine wpAnyH_ready (rs := [41]) (by kernel_rfl) (by simp) ?_
  refine AllReadyH.cons (at_drop rfl) (fun K hK => ?_) AllReadyH.nil
  go_simp
  refine (H2.out _).mono ?_
  rintro e wn ⟨rfl, hB⟩
  (have HBn : Below w.heap.size w wn := below_lift (by (first | exact HB.out | exact HB.out.drew | exact HB.out.alloc HB.out.size _ | exact (HB.out.alloc HB.out.size _).drew | exact (HB.out.alloc HB.out.size _).alloc (Nat.le_trans HB.out.size (by simp)) _ | exact ((HB.out.alloc HB.out.size _).alloc (Nat.le_trans HB.out.size (by simp)) _).alloc (Nat.le_trans HB.out.size (by simp; omega)) _)) hB; obtain ⟨hc, hf⟩ := below_cell hB; have zz := hB.size; (try simp at zz); have HB := Lib.hid HBn; clear HBn hB)
  have p0 := (hc (w.heap.size) 0 (by first | omega | (simp; omega))).trans p0
  have p1 := (hc (w.heap.size) 1 (by first | omega | (simp; omega))).trans p1
  have p2 := (hc (w.heap.size) 2 (by first | omega | (simp; omega))).trans p2
  have p3 := (hc (w.heap.size + 1) 0 (by first | omega | (simp; omega))).trans p3
  have p4 := (hc (w.heap.size + 1) 1 (by first | omega | (simp; omega))).trans p4
  have p5 := (hc (w.heap.size + 1) 2 (by first | omega | (simp; omega))).trans p5
  have p6 := (hc (w.heap.size + 1 + 1) 0 (by first | omega | (simp; omega))).trans p6
  have p7 := (hc (w.heap.size + 1 + 1) 1 (by first | omega | (simp; omega))).trans p7
  have p8 := (hc (w.heap.size + 1 + 1) 2 (by first | omega | (simp; omega))).trans p8
  clear hc hf
  have z0 : w.heap.size < wn.heap.size := by omega
  have z1 : w.heap.size + 1 < wn.heap.size := by omega
  have z2 : w.heap.size + 1 + 1 < wn.heap.size := by omega
  refine hK.out _ _ (⟨p0, p1, p2, p3, p4, p5, p6, p7, p8⟩) (fun hHeld => ?_)
  clear hK K
  try simp only [Act.put, List.setIfInBounds_toArray, List.set_cons_zero, List.set_cons_succ]
  first | (refine wpAnyH_take (i := 42) (v := ?_) (at_drop rfl) (by kernel_rfl) (by kernel_rfl) (by kernel_rfl) (fun _ _ _ h => h) (Or.inl ⟨by rfl, ?_⟩) (by assumption) ?_; rotate_left; focus ((intro w' hSw; (try dsimp only at hSw); go_simp) <;> with_reducible rfl)) | (refine wpAnyH_take (i := 42) (v := undef) (at_drop rfl) (by kernel_rfl) (by kernel_rfl) (by kernel_rfl) (fun _ _ _ h => h) (Or.inr ⟨by rfl, rfl⟩) (by assumption) ?_)
  try simp only [Act.put, List.setIfInBounds_toArray, List.set_cons_zero, List.set_cons_succ]
  first | (refine wpAnyH_take (i := 43) (v := ?_) (at_drop rfl) (by kernel_rfl) (by kernel_rfl) (by kernel_rfl) (fun _ _ _ h => h) (Or.inl ⟨by rfl, ?_⟩) (by assumption) ?_; rotate_left; focus ((intro w' hSw; (try dsimp only at hSw); go_simp) <;> with_reducible rfl)) | (refine wpAnyH_take (i := 43) (v := undef) (at_drop rfl) (by kernel_rfl) (by kernel_rfl) (by kernel_rfl) (fun _ _ _ h => h) (Or.inr ⟨by rfl, rfl⟩) (by assumption) ?_)
  try simp only [Act.put, List.setIfInBounds_toArray, List.set_cons_zero, List.set_cons_succ]
  first | (refine wpAnyH_take (i := 45) (v := ?_) (at_drop rfl) (by kernel_rfl) (by kernel_rfl) (by kernel_rfl) (fun _ _ _ h => h) (Or.inl ⟨by rfl, ?_⟩) (by assumption) ?_; rotate_left; focus ((intro w' hSw; (try dsimp only at hSw); go_simp) <;> with_reducible rfl)) | (refine wpAnyH_take (i := 45) (v := undef) (at_drop rfl) (by kernel_rfl) (by kernel_rfl) (by kernel_rfl) (fun _ _ _ h => h) (Or.inr ⟨by rfl, rfl⟩) (by assumption) ?_)
  try simp only [Act.put, List.setIfInBounds_toArray, List.set_cons_zero, List.set_cons_succ]
  refine wpAnyH_ready (rs := [44]) (by kernel_rfl) (by simp) ?_
  refine AllReadyH.cons (at_drop rfl) (fun K hK => ?_) AllReadyH.nil
  go_simp
  refine (H3.out _).mono ?_
  rintro e wn ⟨rfl, hB⟩
  (have HBn : Below w.heap.size w wn := below_lift (by (first | exact HB.out | exact HB.out.drew | exact HB.out.alloc HB.out.size _ | exact (HB.out.alloc HB.out.size _).drew | exact (HB.out.alloc HB.out.size _).alloc (Nat.le_trans HB.out.size (by simp)) _ | exact ((HB.out.alloc HB.out.size _).alloc (Nat.le_trans HB.out.size (by simp)) _).alloc (Nat.le_trans HB.out.size (by simp; omega)) _)) hB; obtain ⟨hc, hf⟩ := below_cell hB; have zz := hB.size; (try simp at zz); have HB := Lib.hid HBn; clear HBn hB)
  have p0 := (hc (w.heap.size) 0 (by first | omega | (simp; omega))).trans p0
  have p1 := (hc (w.heap.size) 1 (by first | omega | (simp; omega))).trans p1
  have p2 := (hc (w.heap.size) 2 (by first | omega | (simp; omega))).trans p2
  have p3 := (hc (w.heap.size + 1) 0 (by first | omega | (simp; omega))).trans p3
  have p4 := (hc (w.heap.size + 1) 1 (by first | omega | (simp; omega))).trans p4
  have p5 := (hc (w.heap.size + 1) 2 (by first | omega | (simp; omega))).trans p5
  have p6 := (hc (w.heap.size + 1 + 1) 0 (by first | omega | (simp; omega))).trans p6
  have p7 := (hc (w.heap.size + 1 + 1) 1 (by first | omega | (simp; omega))).trans p7
  have p8 := (hc (w.heap.size + 1 + 1) 2 (by first | omega | (simp; omega))).trans p8
  clear hc hf
  have z0 : w.heap.size < wn.heap.size := by omega
  have z1 : w.heap.size + 1 < wn.heap.size := by omega
  have z2 : w.heap.size + 1 + 1 < wn.heap.size := by omega
  refine hK.out _ _ (⟨p0, p1, p2, p3, p4, p5, p6, p7, p8⟩) (fun hHeld => ?_)
  clear hK K
  try simp only [Act.put, List.setIfInBounds_toArray, List.set_cons_zero, List.set_cons_succ]
  refine wpAnyH_ready (rs := [46]) (by kernel_rfl) (by simp) ?_
  refine AllReadyH.cons (at_drop rfl) (fun K hK => ?_) AllReadyH.nil
  go_simp
  refine (H4.out _).mono ?_
  rintro e wn ⟨rfl, hB⟩
  (have HBn : Below w.heap.size w wn := below_lift (by (first | exact HB.out | exact HB.out.drew | exact HB.out.alloc HB.out.size _ | exact (HB.out.alloc HB.out.size _).drew | exact (HB.out.alloc HB.out.size _).alloc (Nat.le_trans HB.out.size (by simp)) _ | exact ((HB.out.alloc HB.out.size _).alloc (Nat.le_trans HB.out.size (by simp)) _).alloc (Nat.le_trans HB.out.size (by simp; omega)) _)) hB; obtain ⟨hc, hf⟩ := below_cell hB; have zz := hB.size; (try simp at zz); have HB := Lib.hid HBn; clear HBn hB)
  have p0 := (hc (w.heap.size) 0 (by first | omega | (simp; omega))).trans p0
  have p1 := (hc (w.heap.size) 1 (by first | omega | (simp; omega))).trans p1
  have p2 := (hc (w.heap.size) 2 (by first | omega | (simp; omega))).trans p2
  have p3 := (hc (w.heap.size + 1) 0 (by first | omega | (simp; omega))).trans p3
  have p4 := (hc (w.heap.size + 1) 1 (by first | omega | (simp; omega))).trans p4
  have p5 := (hc (w.heap.size + 1) 2 (by first | omega | (simp; omega))).trans p5
  have p6 := (hc (w.heap.size + 1 + 1) 0 (by first | omega | (simp; omega))).trans p6
  have p7 := (hc (w.heap.size + 1 + 1) 1 (by first | omega | (simp; omega))).trans p7
  have p8 := (hc (w.heap.size + 1 + 1) 2 (by first | omega | (simp; omega))).trans p8
  clear hc hf
  have z0 : w.heap.size < wn.heap.size := by omega
  have z1 : w.heap.size + 1 < wn.heap.size := by omega
  have z2 : w.heap.size + 1 + 1 < wn.heap.size := by omega
  refine hK.out _ _ (⟨p0, p1, p2, p3, p4, p5, p6, p7, p8⟩) (fun hHeld => ?_)
  clear hK K
  try simp only [Act.put, List.setIfInBounds_toArray, List.set_cons_zero, List.set_cons_succ]
  first | (refine wpAnyH_take (i := 47) (v := ?_) (at_drop rfl) (by kernel_rfl) (by kernel_rfl) (by kernel_rfl) (fun _ _ _ h => h) (Or.inl ⟨by rfl, ?_⟩) (by assumption) ?_; rotate_left; focus ((intro w' hSw; (try dsimp only at hSw); go_simp) <;> with_reducible rfl)) | (refine wpAnyH_take (i := 47) (v := undef) (at_drop rfl) (by kernel_rfl) (by kernel_rfl) (by kernel_rfl) (fun _ _ _ h => h) (Or.inr ⟨by rfl, rfl⟩) (by assumption) ?_)
  try simp only [Act.put, List.setIfInBounds_toArray, List.set_cons_zero, List.set_cons_succ]
  first | (refine wpAnyH_take (i := 48) (v := ?_) (at_drop rfl) (by kernel_rfl) (by kernel_rfl) (by kernel_rfl) (fun _ _ _ h => h) (Or.inl ⟨by rfl, ?_⟩) (by assumption) ?_; rotate_left; focus ((intro w' hSw; (try dsimp only at hSw); go_simp) <;> with_reducible rfl)) | (refine wpAnyH_take (i := 48) (v := undef) (at_drop rfl) (by kernel_rfl) (by kernel_rfl) (by kernel_rfl) (fun _ _ _ h => h) (Or.inr ⟨by rfl, rfl⟩) (by assumption) ?_)
  try simp only [Act.put, List.setIfInBounds_toArray, List.set_cons_zero, List.set_cons_succ]
  refine wpAnyH_ready (rs := [49]) (by kernel_rfl) (by simp) ?_
  refine AllReadyH.cons (at_drop rfl) (fun K hK => ?_) AllReadyH.nil
  go_simp
  refine (H5.out _).mono ?_
  rintro e wn ⟨rfl, hB⟩
  (have HBn : Below w.heap.size w wn := below_lift (by (first | exact HB.out | exact HB.out.drew | exact HB.out.alloc HB.out.size _ | exact (HB.out.alloc HB.out.size _).drew | exact (HB.out.alloc HB.out.size _).alloc (Nat.le_trans HB.out.size (by simp)) _ | exact ((HB.out.alloc HB.out.size _).alloc (Nat.le_trans HB.out.size (by simp)) _).alloc (Nat.le_trans HB.out.size (by simp; omega)) _)) hB; obtain ⟨hc, hf⟩ := below_cell hB; have zz := hB.size; (try simp at zz); have HB := Lib.hid HBn; clear HBn hB)
  have p0 := (hc (w.heap.size) 0 (by first | omega | (simp; omega))).trans p0
  have p1 := (hc (w.heap.size) 1 (by first | omega | (simp; omega))).trans p1
  have p2 := (hc (w.heap.size) 2 (by first | omega | (simp; omega))).trans p2
  have p3 := (hc (w.heap.size + 1) 0 (by first | omega | (simp; omega))).trans p3
  have p4 := (hc (w.heap.size + 1) 1 (by first | omega | (simp; omega))).trans p4
  have p5 := (hc (w.heap.size + 1) 2 (by first | omega | (simp; omega))).trans p5
  have p6 := (hc (w.heap.size + 1 + 1) 0 (by first | omega | (simp; omega))).trans p6
  have p7 := (hc (w.heap.size + 1 + 1) 1 (by first | omega | (simp; omega))).trans p7
  have p8 := (hc (w.heap.size + 1 + 1) 2 (by first | omega | (simp; omega))).trans p8
  clear hc hf
  have z0 : w.heap.size < wn.heap.size := by omega
  have z1 : w.heap.size + 1 < wn.heap.size := by omega
  have z2 : w.heap.size + 1 + 1 < wn.heap.size := by omega
  refine hK.out _ _ (⟨p0, p1, p2, p3, p4, p5, p6, p7, p8⟩) (fun hHeld => ?_)
  clear hK K
  try simp only [Act.put, List.setIfInBounds_toArray, List.set_cons_zero, List.set_cons_succ]
  refine wpAnyH_ready (rs := [50]) (by kernel_rfl) (by simp) ?_
  refine AllReadyH.cons (at_drop rfl) (fun K hK => ?_) AllReadyH.nil
  go_simp
  refine (H6.out _).mono ?_
  rintro e wn ⟨rfl, hB⟩
  (have HBn : Below w.heap.size w wn := below_lift (by (first | exact HB.out | exact HB.out.drew | exact HB.out.alloc HB.out.size _ | exact (HB.out.alloc HB.out.size _).drew | exact (HB.out.alloc HB.out.size _).alloc (Nat.le_trans HB.out.size (by simp)) _ | exact ((HB.out.alloc HB.out.size _).alloc (Nat.le_trans HB.out.size (by simp)) _).alloc (Nat.le_trans HB.out.size (by simp; omega)) _)) hB; obtain ⟨hc, hf⟩ := below_cell hB; have zz := hB.size; (try simp at zz); have HB := Lib.hid HBn; clear HBn hB)
  have p0 := (hc (w.heap.size) 0 (by first | omega | (simp; omega))).trans p0
  have p1 := (hc (w.heap.size) 1 (by first | omega | (simp; omega))).trans p1
  have p2 := (hc (w.heap.size) 2 (by first | omega | (simp; omega))).trans p2
  have p3 := (hc (w.heap.size + 1) 0 (by first | omega | (simp; omega))).trans p3
  have p4 := (hc (w.heap.size + 1) 1 (by first | omega | (simp; omega))).trans p4
  have p5 := (hc (w.heap.size + 1) 2 (by first | omega | (simp; omega))).trans p5
  have p6 := (hc (w.heap.size + 1 + 1) 0 (by first | omega | (simp; omega))).trans p6
  have p7 := (hc (w.heap.size + 1 + 1) 1 (by first | omega | (simp; omega))).trans p7
  have p8 := (hc (w.heap.size + 1 + 1) 2 (by first | omega | (simp; omega))).trans p8
  clear hc hf
  have z0 : w.heap.size < wn.heap.size := by omega
  have z1 : w.heap.size + 1 < wn.heap.size := by omega
  have z2 : w.heap.size + 1 + 1 < wn.heap.size := by omega
  refine hK.out _ _ (⟨p0, p1, p2, p3, p4, p5, p6, p7, p8⟩) (fun hHeld => ?_)
  clear hK K
  try simp only [Act.put, List.setIfInBounds_toArray, List.set_cons_zero, List.set_cons_succ]
  first | (refine wpAnyH_take (i := 51) (v := ?_) (at_drop rfl) (by kernel_rfl) (by kernel_rfl) (by kernel_rfl) (fun _ _ _ h => h) (Or.inl ⟨by rfl, ?_⟩) (by assumption) ?_; rotate_left; focus ((intro w' hSw; (try dsimp only at hSw); go_simp) <;> with_reducible rfl)) | (refine wpAnyH_take (i := 51) (v := undef) (at_drop rfl) (by kernel_rfl) (by kernel_rfl) (by kernel_rfl) (fun _ _ _ h => h) (Or.inr ⟨by rfl, rfl⟩) (by assumption) ?_)
  try simp only [Act.put, List.setIfInBounds_toArray, List.set_cons_zero, List.set_cons_succ]
  first | (refine wpAnyH_take (i := 52) (v := ?_) (at_drop rfl) (by kernel_rfl) (by kernel_rfl) (by kernel_rfl) (fun _ _ _ h => h) (Or.inl ⟨by rfl, ?_⟩) (by assumption) ?_; rotate_left; focus ((intro w' hSw; (try dsimp only at hSw); go_simp) <;> with_reducible rfl)) | (refine wpAnyH_take (i := 52) (v := undef) (at_drop rfl) (by kernel_rfl) (by kernel_rfl) (by kernel_rfl) (fun _ _ _ h => h) (Or.inr ⟨by rfl, rfl⟩) (by assumption) ?_)
  try simp only [Act.put, List.setIfInBounds_toArray, List.set_cons_zero, List.set_cons_succ]
  first | (refine wpAnyH_take (i := 53) (v := ?_) (at_drop rfl) (by kernel_rfl) (by kernel_rfl) (by kernel_rfl) (fun _ _ _ h => h) (Or.inl ⟨by rfl, ?_⟩) (by assumption) ?_; rotate_left; focus ((intro w' hSw; (try dsimp only at hSw); go_simp) <;> with_reducible rfl)) | (refine wpAnyH_take (i := 53) (v := undef) (at_drop rfl) (by kernel_rfl) (by kernel_rfl) (by kernel_rfl) (fun _ _ _ h => h) (Or.inr ⟨by rfl, rfl⟩) (by assumption) ?_)
  try simp only [Act.put, List.setIfInBounds_toArray, List.set_cons_zero, List.set_cons_succ]
  first | (refine wpAnyH_take (i := 54) (v := ?_) (at_drop rfl) (by kernel_rfl) (by kernel_rfl) (by kernel_rfl) (fun _ _ _ h => h) (Or.inl ⟨by rfl, ?_⟩) (by assumption) ?_; rotate_left; focus ((intro w' hSw; (try dsimp only at hSw); go_simp) <;> with_reducible rfl)) | (refine wpAnyH_take (i := 54) (v := undef) (at_drop rfl) (by kernel_rfl) (by kernel_rfl) (by kernel_rfl) (fun _ _ _ h => h) (Or.inr ⟨by rfl, rfl⟩) (by assumption) ?_)
  try simp only [Act.put, List.setIfInBounds_toArray, List.set_cons_zero, List.set_cons_succ]
  refine wpAnyH_done (by kernel_rfl) ?_ _
  go_wp2_with fail
  go_ret
  exact ⟨rfl, HB.out⟩

set_option maxRecDepth 100000 in
set_option maxHeartbeats 4000000 in
theorem orders_3 (a b c bo tp : Lab) (w : World) (hh : Handle w) (h0 : UnderIs a b true) (h1 : UnderIs a a true) (h2 : UnderIs b a false) (h3 : UnderIs b c false) (h4 : RightIs a true) (h5 : ∀ W, Calls Tryd.prog 16 #[] W fun e w' => e = .returned (.agg #[.int .i64 bo.lv, .int .u64 (u bo.c), .int .i64 bo.ig]) ∧ Below W.heap.size W w') (h6 : UnderIs bo a true) (h7 : ∀ W, Calls Tryd.prog 17 #[] W fun e w' => e = .returned (.agg #[.int .i64 tp.lv, .int .u64 (u tp.c), .int .i64 tp.ig]) ∧ Below W.heap.size W w') (h8 : UnderIs a tp true) :
    Calls Tryd.prog 7 #[.agg #[.int .i64 a.lv, .int .u64 (u a.c), .int .i64 a.ig], .agg #[.int .i64 b.lv, .int .u64 (u b.c), .int .i64 b.ig], .agg #[.int .i64 c.lv, .int .u64 (u c.c), .int .i64 c.ig]] w (Yes w) := by
  have H0 := Lib.hid h0
  clear h0
  have H1 := Lib.hid h1
  clear h1
  have H2 := Lib.hid h2
  clear h2
  have H3 := Lib.hid h3
  clear h3
  have H4 := Lib.hid h4
  clear h4
  have H5 := Lib.hid h5
  clear h5
  have H6 := Lib.hid h6
  clear h6
  have H7 := Lib.hid h7
  clear h7
  have H8 := Lib.hid h8
  clear h8
  have HH := Lib.hid hh
  clear hh
  have HB := Lib.hid (Below.refl w.heap.size w)
  go_enter Tryd.func7, Tryd.ntmps7
  go_wp2_with fail
  refine (shown_any _ (HH.out.up (by (first | exact HB.out | exact HB.out.drew | exact HB.out.alloc HB.out.size _ | exact (HB.out.alloc HB.out.size _).drew | exact (HB.out.alloc HB.out.size _).alloc (Nat.le_trans HB.out.size (by simp)) _ | exact ((HB.out.alloc HB.out.size _).alloc (Nat.le_trans HB.out.size (by simp)) _).alloc (Nat.le_trans HB.out.size (by simp; omega)) _)))).mono ?_
  rintro e w1 ⟨rfl, hB⟩
  (have HBn : Below w.heap.size w w1 := below_lift (by (first | exact HB.out | exact HB.out.drew | exact HB.out.alloc HB.out.size _ | exact (HB.out.alloc HB.out.size _).drew | exact (HB.out.alloc HB.out.size _).alloc (Nat.le_trans HB.out.size (by simp)) _ | exact ((HB.out.alloc HB.out.size _).alloc (Nat.le_trans HB.out.size (by simp)) _).alloc (Nat.le_trans HB.out.size (by simp; omega)) _)) hB; obtain ⟨hc, hf⟩ := below_cell hB; have zz := hB.size; (try simp at zz); have HB := Lib.hid HBn; clear HBn hB)
  have k0 : w.heap.size < w1.heap.size := by omega
  have m0 : w.heap.size < w1.heap.size + 1 := by omega
  have k1 : w.heap.size + 1 < w1.heap.size := by omega
  have m1 : w.heap.size + 1 < w1.heap.size + 1 := by omega
  have k2 : w.heap.size + 1 + 1 < w1.heap.size := by omega
  have m2 : w.heap.size + 1 + 1 < w1.heap.size + 1 := by omega
  go_wp2_with fail
  refine (H0.out _).mono ?_
  rintro e w2 ⟨rfl, hB⟩
  have p0 : w2.cell? ⟨w.heap.size, 0, none⟩ = some (.int .i64 a.lv) := by rw [(below_cell hB).1 _ _ (by first | omega | (simp; omega))]; (try simp only [World.cell?_drew]); rw [hc _ _ (by simp <;> omega)]; go_simp
  have p1 : w2.cell? ⟨w.heap.size, 1, none⟩ = some (.int .u64 (u a.c)) := by rw [(below_cell hB).1 _ _ (by first | omega | (simp; omega))]; (try simp only [World.cell?_drew]); rw [hc _ _ (by simp <;> omega)]; go_simp
  have p2 : w2.cell? ⟨w.heap.size, 2, none⟩ = some (.int .i64 a.ig) := by rw [(below_cell hB).1 _ _ (by first | omega | (simp; omega))]; (try simp only [World.cell?_drew]); rw [hc _ _ (by simp <;> omega)]; go_simp
  have p3 : w2.cell? ⟨w.heap.size + 1, 0, none⟩ = some (.int .i64 b.lv) := by rw [(below_cell hB).1 _ _ (by first | omega | (simp; omega))]; (try simp only [World.cell?_drew]); rw [hc _ _ (by simp <;> omega)]; go_simp
  have p4 : w2.cell? ⟨w.heap.size + 1, 1, none⟩ = some (.int .u64 (u b.c)) := by rw [(below_cell hB).1 _ _ (by first | omega | (simp; omega))]; (try simp only [World.cell?_drew]); rw [hc _ _ (by simp <;> omega)]; go_simp
  have p5 : w2.cell? ⟨w.heap.size + 1, 2, none⟩ = some (.int .i64 b.ig) := by rw [(below_cell hB).1 _ _ (by first | omega | (simp; omega))]; (try simp only [World.cell?_drew]); rw [hc _ _ (by simp <;> omega)]; go_simp
  have p6 : w2.cell? ⟨w.heap.size + 1 + 1, 0, none⟩ = some (.int .i64 c.lv) := by rw [(below_cell hB).1 _ _ (by first | omega | (simp; omega))]; (try simp only [World.cell?_drew]); rw [hc _ _ (by simp <;> omega)]; go_simp
  have p7 : w2.cell? ⟨w.heap.size + 1 + 1, 1, none⟩ = some (.int .u64 (u c.c)) := by rw [(below_cell hB).1 _ _ (by first | omega | (simp; omega))]; (try simp only [World.cell?_drew]); rw [hc _ _ (by simp <;> omega)]; go_simp
  have p8 : w2.cell? ⟨w.heap.size + 1 + 1, 2, none⟩ = some (.int .i64 c.ig) := by rw [(below_cell hB).1 _ _ (by first | omega | (simp; omega))]; (try simp only [World.cell?_drew]); rw [hc _ _ (by simp <;> omega)]; go_simp
  have y := hB.size
  (try simp at y)
  have z0 : w.heap.size < w2.heap.size := by omega
  have z1 : w.heap.size + 1 < w2.heap.size := by omega
  have z2 : w.heap.size + 1 + 1 < w2.heap.size := by omega
  have HBn : Below w.heap.size w w2 := below_lift (by (first | exact HB.out | exact HB.out.drew | exact HB.out.alloc HB.out.size _ | exact (HB.out.alloc HB.out.size _).drew | exact (HB.out.alloc HB.out.size _).alloc (Nat.le_trans HB.out.size (by simp)) _ | exact ((HB.out.alloc HB.out.size _).alloc (Nat.le_trans HB.out.size (by simp)) _).alloc (Nat.le_trans HB.out.size (by simp; omega)) _)) hB
  have HB := Lib.hid HBn
  clear HBn hB hc hf zz y k0 k1 k2 m0 m1 m2
  go_wp2_with fail
  refine wp_region_held_drew (S := (fun w' => w'.cell? ⟨w.heap.size, 0, none⟩ = some (.int .i64 a.lv) ∧ w'.cell? ⟨w.heap.size, 1, none⟩ = some (.int .u64 (u a.c)) ∧ w'.cell? ⟨w.heap.size, 2, none⟩ = some (.int .i64 a.ig) ∧ w'.cell? ⟨w.heap.size + 1, 0, none⟩ = some (.int .i64 b.lv) ∧ w'.cell? ⟨w.heap.size + 1, 1, none⟩ = some (.int .u64 (u b.c)) ∧ w'.cell? ⟨w.heap.size + 1, 2, none⟩ = some (.int .i64 b.ig) ∧ w'.cell? ⟨w.heap.size + 1 + 1, 0, none⟩ = some (.int .i64 c.lv) ∧ w'.cell? ⟨w.heap.size + 1 + 1, 1, none⟩ = some (.int .u64 (u c.c)) ∧ w'.cell? ⟨w.heap.size + 1 + 1, 2, none⟩ = some (.int .i64 c.ig))) (by kernel_rfl) (⟨p0, p1, p2, p3, p4, p5, p6, p7, p8⟩) (fun hHeld => ?_)
  first | (refine wpAnyH_take (i := 0) (v := ?_) (at_drop rfl) (by kernel_rfl) (by kernel_rfl) (by kernel_rfl) (fun _ _ _ h => h) (Or.inl ⟨by rfl, ?_⟩) (by assumption) ?_; rotate_left; focus ((intro w' hSw; (try dsimp only at hSw); go_simp) <;> with_reducible rfl)) | (refine wpAnyH_take (i := 0) (v := undef) (at_drop rfl) (by kernel_rfl) (by kernel_rfl) (by kernel_rfl) (fun _ _ _ h => h) (Or.inr ⟨by rfl, rfl⟩) (by assumption) ?_)
  try simp only [Act.put, List.setIfInBounds_toArray, List.set_cons_zero, List.set_cons_succ]
  first | (refine wpAnyH_take (i := 1) (v := ?_) (at_drop rfl) (by kernel_rfl) (by kernel_rfl) (by kernel_rfl) (fun _ _ _ h => h) (Or.inl ⟨by rfl, ?_⟩) (by assumption) ?_; rotate_left; focus ((intro w' hSw; (try dsimp only at hSw); go_simp) <;> with_reducible rfl)) | (refine wpAnyH_take (i := 1) (v := undef) (at_drop rfl) (by kernel_rfl) (by kernel_rfl) (by kernel_rfl) (fun _ _ _ h => h) (Or.inr ⟨by rfl, rfl⟩) (by assumption) ?_)
  try simp only [Act.put, List.setIfInBounds_toArray, List.set_cons_zero, List.set_cons_succ]
  first | (refine wpAnyH_take (i := 2) (v := ?_) (at_drop rfl) (by kernel_rfl) (by kernel_rfl) (by kernel_rfl) (fun _ _ _ h => h) (Or.inl ⟨by rfl, ?_⟩) (by assumption) ?_; rotate_left; focus ((intro w' hSw; (try dsimp only at hSw); go_simp) <;> with_reducible rfl)) | (refine wpAnyH_take (i := 2) (v := undef) (at_drop rfl) (by kernel_rfl) (by kernel_rfl) (by kernel_rfl) (fun _ _ _ h => h) (Or.inr ⟨by rfl, rfl⟩) (by assumption) ?_)
  try simp only [Act.put, List.setIfInBounds_toArray, List.set_cons_zero, List.set_cons_succ]
  first | (refine wpAnyH_take (i := 3) (v := ?_) (at_drop rfl) (by kernel_rfl) (by kernel_rfl) (by kernel_rfl) (fun _ _ _ h => h) (Or.inl ⟨by rfl, ?_⟩) (by assumption) ?_; rotate_left; focus ((intro w' hSw; (try dsimp only at hSw); go_simp) <;> with_reducible rfl)) | (refine wpAnyH_take (i := 3) (v := undef) (at_drop rfl) (by kernel_rfl) (by kernel_rfl) (by kernel_rfl) (fun _ _ _ h => h) (Or.inr ⟨by rfl, rfl⟩) (by assumption) ?_)
  try simp only [Act.put, List.setIfInBounds_toArray, List.set_cons_zero, List.set_cons_succ]
  first | (refine wpAnyH_take (i := 5) (v := ?_) (at_drop rfl) (by kernel_rfl) (by kernel_rfl) (by kernel_rfl) (fun _ _ _ h => h) (Or.inl ⟨by rfl, ?_⟩) (by assumption) ?_; rotate_left; focus ((intro w' hSw; (try dsimp only at hSw); go_simp) <;> with_reducible rfl)) | (refine wpAnyH_take (i := 5) (v := undef) (at_drop rfl) (by kernel_rfl) (by kernel_rfl) (by kernel_rfl) (fun _ _ _ h => h) (Or.inr ⟨by rfl, rfl⟩) (by assumption) ?_)
  try simp only [Act.put, List.setIfInBounds_toArray, List.set_cons_zero, List.set_cons_succ]
  refine wpAnyH_ready (rs := [4]) (by kernel_rfl) (by simp) ?_
  refine AllReadyH.cons (at_drop rfl) (fun K hK => ?_) AllReadyH.nil
  go_simp
  refine (H1.out _).mono ?_
  rintro e wn ⟨rfl, hB⟩
  (have HBn : Below w.heap.size w wn := below_lift (by (first | exact HB.out | exact HB.out.drew | exact HB.out.alloc HB.out.size _ | exact (HB.out.alloc HB.out.size _).drew | exact (HB.out.alloc HB.out.size _).alloc (Nat.le_trans HB.out.size (by simp)) _ | exact ((HB.out.alloc HB.out.size _).alloc (Nat.le_trans HB.out.size (by simp)) _).alloc (Nat.le_trans HB.out.size (by simp; omega)) _)) hB; obtain ⟨hc, hf⟩ := below_cell hB; have zz := hB.size; (try simp at zz); have HB := Lib.hid HBn; clear HBn hB)
  have p0 := (hc (w.heap.size) 0 (by first | omega | (simp; omega))).trans p0
  have p1 := (hc (w.heap.size) 1 (by first | omega | (simp; omega))).trans p1
  have p2 := (hc (w.heap.size) 2 (by first | omega | (simp; omega))).trans p2
  have p3 := (hc (w.heap.size + 1) 0 (by first | omega | (simp; omega))).trans p3
  have p4 := (hc (w.heap.size + 1) 1 (by first | omega | (simp; omega))).trans p4
  have p5 := (hc (w.heap.size + 1) 2 (by first | omega | (simp; omega))).trans p5
  have p6 := (hc (w.heap.size + 1 + 1) 0 (by first | omega | (simp; omega))).trans p6
  have p7 := (hc (w.heap.size + 1 + 1) 1 (by first | omega | (simp; omega))).trans p7
  have p8 := (hc (w.heap.size + 1 + 1) 2 (by first | omega | (simp; omega))).trans p8
  clear hc hf
  have z0 : w.heap.size < wn.heap.size := by omega
  have z1 : w.heap.size + 1 < wn.heap.size := by omega
  have z2 : w.heap.size + 1 + 1 < wn.heap.size := by omega
  refine hK.out _ _ (⟨p0, p1, p2, p3, p4, p5, p6, p7, p8⟩) (fun hHeld => ?_)
  clear hK K
  try simp only [Act.put, List.setIfInBounds_toArray, List.set_cons_zero, List.set_cons_succ]
  refine wpAnyH_ready (rs := [6]) (by kernel_rfl) (by simp) ?_
  refine AllReadyH.cons (at_drop rfl) (fun K hK => ?_) AllReadyH.nil
  go_simp
  refine (H4.out _).mono ?_
  rintro e wn ⟨rfl, hB⟩
  (have HBn : Below w.heap.size w wn := below_lift (by (first | exact HB.out | exact HB.out.drew | exact HB.out.alloc HB.out.size _ | exact (HB.out.alloc HB.out.size _).drew | exact (HB.out.alloc HB.out.size _).alloc (Nat.le_trans HB.out.size (by simp)) _ | exact ((HB.out.alloc HB.out.size _).alloc (Nat.le_trans HB.out.size (by simp)) _).alloc (Nat.le_trans HB.out.size (by simp; omega)) _)) hB; obtain ⟨hc, hf⟩ := below_cell hB; have zz := hB.size; (try simp at zz); have HB := Lib.hid HBn; clear HBn hB)
  have p0 := (hc (w.heap.size) 0 (by first | omega | (simp; omega))).trans p0
  have p1 := (hc (w.heap.size) 1 (by first | omega | (simp; omega))).trans p1
  have p2 := (hc (w.heap.size) 2 (by first | omega | (simp; omega))).trans p2
  have p3 := (hc (w.heap.size + 1) 0 (by first | omega | (simp; omega))).trans p3
  have p4 := (hc (w.heap.size + 1) 1 (by first | omega | (simp; omega))).trans p4
  have p5 := (hc (w.heap.size + 1) 2 (by first | omega | (simp; omega))).trans p5
  have p6 := (hc (w.heap.size + 1 + 1) 0 (by first | omega | (simp; omega))).trans p6
  have p7 := (hc (w.heap.size + 1 + 1) 1 (by first | omega | (simp; omega))).trans p7
  have p8 := (hc (w.heap.size + 1 + 1) 2 (by first | omega | (simp; omega))).trans p8
  clear hc hf
  have z0 : w.heap.size < wn.heap.size := by omega
  have z1 : w.heap.size + 1 < wn.heap.size := by omega
  have z2 : w.heap.size + 1 + 1 < wn.heap.size := by omega
  refine hK.out _ _ (⟨p0, p1, p2, p3, p4, p5, p6, p7, p8⟩) (fun hHeld => ?_)
  clear hK K
  try simp only [Act.put, List.setIfInBounds_toArray, List.set_cons_zero, List.set_cons_succ]
  first | (refine wpAnyH_take (i := 7) (v := ?_) (at_drop rfl) (by kernel_rfl) (by kernel_rfl) (by kernel_rfl) (fun _ _ _ h => h) (Or.inl ⟨by rfl, ?_⟩) (by assumption) ?_; rotate_left; focus ((intro w' hSw; (try dsimp only at hSw); go_simp) <;> with_reducible rfl)) | (refine wpAnyH_take (i := 7) (v := undef) (at_drop rfl) (by kernel_rfl) (by kernel_rfl) (by kernel_rfl) (fun _ _ _ h => h) (Or.inr ⟨by rfl, rfl⟩) (by assumption) ?_)
  try simp only [Act.put, List.setIfInBounds_toArray, List.set_cons_zero, List.set_cons_succ]
  first | (refine wpAnyH_take (i := 8) (v := ?_) (at_drop rfl) (by kernel_rfl) (by kernel_rfl) (by kernel_rfl) (fun _ _ _ h => h) (Or.inl ⟨by rfl, ?_⟩) (by assumption) ?_; rotate_left; focus ((intro w' hSw; (try dsimp only at hSw); go_simp) <;> with_reducible rfl)) | (refine wpAnyH_take (i := 8) (v := undef) (at_drop rfl) (by kernel_rfl) (by kernel_rfl) (by kernel_rfl) (fun _ _ _ h => h) (Or.inr ⟨by rfl, rfl⟩) (by assumption) ?_)
  try simp only [Act.put, List.setIfInBounds_toArray, List.set_cons_zero, List.set_cons_succ]
  first | (refine wpAnyH_take (i := 9) (v := ?_) (at_drop rfl) (by kernel_rfl) (by kernel_rfl) (by kernel_rfl) (fun _ _ _ h => h) (Or.inl ⟨by rfl, ?_⟩) (by assumption) ?_; rotate_left; focus ((intro w' hSw; (try dsimp only at hSw); go_simp) <;> with_reducible rfl)) | (refine wpAnyH_take (i := 9) (v := undef) (at_drop rfl) (by kernel_rfl) (by kernel_rfl) (by kernel_rfl) (fun _ _ _ h => h) (Or.inr ⟨by rfl, rfl⟩) (by assumption) ?_)
  try simp only [Act.put, List.setIfInBounds_toArray, List.set_cons_zero, List.set_cons_succ]
  first | (refine wpAnyH_take (i := 10) (v := ?_) (at_drop rfl) (by kernel_rfl) (by kernel_rfl) (by kernel_rfl) (fun _ _ _ h => h) (Or.inl ⟨by rfl, ?_⟩) (by assumption) ?_; rotate_left; focus ((intro w' hSw; (try dsimp only at hSw); go_simp) <;> with_reducible rfl)) | (refine wpAnyH_take (i := 10) (v := undef) (at_drop rfl) (by kernel_rfl) (by kernel_rfl) (by kernel_rfl) (fun _ _ _ h => h) (Or.inr ⟨by rfl, rfl⟩) (by assumption) ?_)
  try simp only [Act.put, List.setIfInBounds_toArray, List.set_cons_zero, List.set_cons_succ]
  first | (refine wpAnyH_take (i := 11) (v := ?_) (at_drop rfl) (by kernel_rfl) (by kernel_rfl) (by kernel_rfl) (fun _ _ _ h => h) (Or.inl ⟨by rfl, ?_⟩) (by assumption) ?_; rotate_left; focus ((intro w' hSw; (try dsimp only at hSw); go_simp) <;> with_reducible rfl)) | (refine wpAnyH_take (i := 11) (v := undef) (at_drop rfl) (by kernel_rfl) (by kernel_rfl) (by kernel_rfl) (fun _ _ _ h => h) (Or.inr ⟨by rfl, rfl⟩) (by assumption) ?_)
  try simp only [Act.put, List.setIfInBounds_toArray, List.set_cons_zero, List.set_cons_succ]
  first | (refine wpAnyH_take (i := 12) (v := ?_) (at_drop rfl) (by kernel_rfl) (by kernel_rfl) (by kernel_rfl) (fun _ _ _ h => h) (Or.inl ⟨by rfl, ?_⟩) (by assumption) ?_; rotate_left; focus ((intro w' hSw; (try dsimp only at hSw); go_simp) <;> with_reducible rfl)) | (refine wpAnyH_take (i := 12) (v := undef) (at_drop rfl) (by kernel_rfl) (by kernel_rfl) (by kernel_rfl) (fun _ _ _ h => h) (Or.inr ⟨by rfl, rfl⟩) (by assumption) ?_)
  try simp only [Act.put, List.setIfInBounds_toArray, List.set_cons_zero, List.set_cons_succ]
  first | (refine wpAnyH_take (i := 13) (v := ?_) (at_drop rfl) (by kernel_rfl) (by kernel_rfl) (by kernel_rfl) (fun _ _ _ h => h) (Or.inl ⟨by rfl, ?_⟩) (by assumption) ?_; rotate_left; focus ((intro w' hSw; (try dsimp only at hSw); go_simp) <;> with_reducible rfl)) | (refine wpAnyH_take (i := 13) (v := undef) (at_drop rfl) (by kernel_rfl) (by kernel_rfl) (by kernel_rfl) (fun _ _ _ h => h) (Or.inr ⟨by rfl, rfl⟩) (by assumption) ?_)
  try simp only [Act.put, List.setIfInBounds_toArray, List.set_cons_zero, List.set_cons_succ]
  first | (refine wpAnyH_take (i := 14) (v := ?_) (at_drop rfl) (by kernel_rfl) (by kernel_rfl) (by kernel_rfl) (fun _ _ _ h => h) (Or.inl ⟨by rfl, ?_⟩) (by assumption) ?_; rotate_left; focus ((intro w' hSw; (try dsimp only at hSw); go_simp) <;> with_reducible rfl)) | (refine wpAnyH_take (i := 14) (v := undef) (at_drop rfl) (by kernel_rfl) (by kernel_rfl) (by kernel_rfl) (fun _ _ _ h => h) (Or.inr ⟨by rfl, rfl⟩) (by assumption) ?_)
  try simp only [Act.put, List.setIfInBounds_toArray, List.set_cons_zero, List.set_cons_succ]
  refine wpAnyH_ready (rs := [15]) (by kernel_rfl) (by simp) ?_
  refine AllReadyH.cons (at_drop rfl) (fun K hK => ?_) AllReadyH.nil
  go_simp
  refine (H2.out _).mono ?_
  rintro e wn ⟨rfl, hB⟩
  (have HBn : Below w.heap.size w wn := below_lift (by (first | exact HB.out | exact HB.out.drew | exact HB.out.alloc HB.out.size _ | exact (HB.out.alloc HB.out.size _).drew | exact (HB.out.alloc HB.out.size _).alloc (Nat.le_trans HB.out.size (by simp)) _ | exact ((HB.out.alloc HB.out.size _).alloc (Nat.le_trans HB.out.size (by simp)) _).alloc (Nat.le_trans HB.out.size (by simp; omega)) _)) hB; obtain ⟨hc, hf⟩ := below_cell hB; have zz := hB.size; (try simp at zz); have HB := Lib.hid HBn; clear HBn hB)
  have p0 := (hc (w.heap.size) 0 (by first | omega | (simp; omega))).trans p0
  have p1 := (hc (w.heap.size) 1 (by first | omega | (simp; omega))).trans p1
  have p2 := (hc (w.heap.size) 2 (by first | omega | (simp; omega))).trans p2
  have p3 := (hc (w.heap.size + 1) 0 (by first | omega | (simp; omega))).trans p3
  have p4 := (hc (w.heap.size + 1) 1 (by first | omega | (simp; omega))).trans p4
  have p5 := (hc (w.heap.size + 1) 2 (by first | omega | (simp; omega))).trans p5
  have p6 := (hc (w.heap.size + 1 + 1) 0 (by first | omega | (simp; omega))).trans p6
  have p7 := (hc (w.heap.size + 1 + 1) 1 (by first | omega | (simp; omega))).trans p7
  have p8 := (hc (w.heap.size + 1 + 1) 2 (by first | omega | (simp; omega))).trans p8
  clear hc hf
  have z0 : w.heap.size < wn.heap.size := by omega
  have z1 : w.heap.size + 1 < wn.heap.size := by omega
  have z2 : w.heap.size + 1 + 1 < wn.heap.size := by omega
  refine hK.out _ _ (⟨p0, p1, p2, p3, p4, p5, p6, p7, p8⟩) (fun hHeld => ?_)
  clear hK K
  try simp only [Act.put, List.setIfInBounds_toArray, List.set_cons_zero, List.set_cons_succ]
  first | (refine wpAnyH_take (i := 16) (v := ?_) (at_drop rfl) (by kernel_rfl) (by kernel_rfl) (by kernel_rfl) (fun _ _ _ h => h) (Or.inl ⟨by rfl, ?_⟩) (by assumption) ?_; rotate_left; focus ((intro w' hSw; (try dsimp only at hSw); go_simp) <;> with_reducible rfl)) | (refine wpAnyH_take (i := 16) (v := undef) (at_drop rfl) (by kernel_rfl) (by kernel_rfl) (by kernel_rfl) (fun _ _ _ h => h) (Or.inr ⟨by rfl, rfl⟩) (by assumption) ?_)
  try simp only [Act.put, List.setIfInBounds_toArray, List.set_cons_zero, List.set_cons_succ]
  first | (refine wpAnyH_take (i := 17) (v := ?_) (at_drop rfl) (by kernel_rfl) (by kernel_rfl) (by kernel_rfl) (fun _ _ _ h => h) (Or.inl ⟨by rfl, ?_⟩) (by assumption) ?_; rotate_left; focus ((intro w' hSw; (try dsimp only at hSw); go_simp) <;> with_reducible rfl)) | (refine wpAnyH_take (i := 17) (v := undef) (at_drop rfl) (by kernel_rfl) (by kernel_rfl) (by kernel_rfl) (fun _ _ _ h => h) (Or.inr ⟨by rfl, rfl⟩) (by assumption) ?_)
  try simp only [Act.put, List.setIfInBounds_toArray, List.set_cons_zero, List.set_cons_succ]
  first | (refine wpAnyH_take (i := 18) (v := ?_) (at_drop rfl) (by kernel_rfl) (by kernel_rfl) (by kernel_rfl) (fun _ _ _ h => h) (Or.inl ⟨by rfl, ?_⟩) (by assumption) ?_; rotate_left; focus ((intro w' hSw; (try dsimp only at hSw); go_simp) <;> with_reducible rfl)) | (refine wpAnyH_take (i := 18) (v := undef) (at_drop rfl) (by kernel_rfl) (by kernel_rfl) (by kernel_rfl) (fun _ _ _ h => h) (Or.inr ⟨by rfl, rfl⟩) (by assumption) ?_)
  try simp only [Act.put, List.setIfInBounds_toArray, List.set_cons_zero, List.set_cons_succ]
  first | (refine wpAnyH_take (i := 19) (v := ?_) (at_drop rfl) (by kernel_rfl) (by kernel_rfl) (by kernel_rfl) (fun _ _ _ h => h) (Or.inl ⟨by rfl, ?_⟩) (by assumption) ?_; rotate_left; focus ((intro w' hSw; (try dsimp only at hSw); go_simp) <;> with_reducible rfl)) | (refine wpAnyH_take (i := 19) (v := undef) (at_drop rfl) (by kernel_rfl) (by kernel_rfl) (by kernel_rfl) (fun _ _ _ h => h) (Or.inr ⟨by rfl, rfl⟩) (by assumption) ?_)
  try simp only [Act.put, List.setIfInBounds_toArray, List.set_cons_zero, List.set_cons_succ]
  first | (refine wpAnyH_take (i := 20) (v := ?_) (at_drop rfl) (by kernel_rfl) (by kernel_rfl) (by kernel_rfl) (fun _ _ _ h => h) (Or.inl ⟨by rfl, ?_⟩) (by assumption) ?_; rotate_left; focus ((intro w' hSw; (try dsimp only at hSw); go_simp) <;> with_reducible rfl)) | (refine wpAnyH_take (i := 20) (v := undef) (at_drop rfl) (by kernel_rfl) (by kernel_rfl) (by kernel_rfl) (fun _ _ _ h => h) (Or.inr ⟨by rfl, rfl⟩) (by assumption) ?_)
  try simp only [Act.put, List.setIfInBounds_toArray, List.set_cons_zero, List.set_cons_succ]
  first | (refine wpAnyH_take (i := 21) (v := ?_) (at_drop rfl) (by kernel_rfl) (by kernel_rfl) (by kernel_rfl) (fun _ _ _ h => h) (Or.inl ⟨by rfl, ?_⟩) (by assumption) ?_; rotate_left; focus ((intro w' hSw; (try dsimp only at hSw); go_simp) <;> with_reducible rfl)) | (refine wpAnyH_take (i := 21) (v := undef) (at_drop rfl) (by kernel_rfl) (by kernel_rfl) (by kernel_rfl) (fun _ _ _ h => h) (Or.inr ⟨by rfl, rfl⟩) (by assumption) ?_)
  try simp only [Act.put, List.setIfInBounds_toArray, List.set_cons_zero, List.set_cons_succ]
  first | (refine wpAnyH_take (i := 22) (v := ?_) (at_drop rfl) (by kernel_rfl) (by kernel_rfl) (by kernel_rfl) (fun _ _ _ h => h) (Or.inl ⟨by rfl, ?_⟩) (by assumption) ?_; rotate_left; focus ((intro w' hSw; (try dsimp only at hSw); go_simp) <;> with_reducible rfl)) | (refine wpAnyH_take (i := 22) (v := undef) (at_drop rfl) (by kernel_rfl) (by kernel_rfl) (by kernel_rfl) (fun _ _ _ h => h) (Or.inr ⟨by rfl, rfl⟩) (by assumption) ?_)
  try simp only [Act.put, List.setIfInBounds_toArray, List.set_cons_zero, List.set_cons_succ]
  first | (refine wpAnyH_take (i := 23) (v := ?_) (at_drop rfl) (by kernel_rfl) (by kernel_rfl) (by kernel_rfl) (fun _ _ _ h => h) (Or.inl ⟨by rfl, ?_⟩) (by assumption) ?_; rotate_left; focus ((intro w' hSw; (try dsimp only at hSw); go_simp) <;> with_reducible rfl)) | (refine wpAnyH_take (i := 23) (v := undef) (at_drop rfl) (by kernel_rfl) (by kernel_rfl) (by kernel_rfl) (fun _ _ _ h => h) (Or.inr ⟨by rfl, rfl⟩) (by assumption) ?_)
  try simp only [Act.put, List.setIfInBounds_toArray, List.set_cons_zero, List.set_cons_succ]
  first | (refine wpAnyH_take (i := 24) (v := ?_) (at_drop rfl) (by kernel_rfl) (by kernel_rfl) (by kernel_rfl) (fun _ _ _ h => h) (Or.inl ⟨by rfl, ?_⟩) (by assumption) ?_; rotate_left; focus ((intro w' hSw; (try dsimp only at hSw); go_simp) <;> with_reducible rfl)) | (refine wpAnyH_take (i := 24) (v := undef) (at_drop rfl) (by kernel_rfl) (by kernel_rfl) (by kernel_rfl) (fun _ _ _ h => h) (Or.inr ⟨by rfl, rfl⟩) (by assumption) ?_)
  try simp only [Act.put, List.setIfInBounds_toArray, List.set_cons_zero, List.set_cons_succ]
  first | (refine wpAnyH_take (i := 25) (v := ?_) (at_drop rfl) (by kernel_rfl) (by kernel_rfl) (by kernel_rfl) (fun _ _ _ h => h) (Or.inl ⟨by rfl, ?_⟩) (by assumption) ?_; rotate_left; focus ((intro w' hSw; (try dsimp only at hSw); go_simp) <;> with_reducible rfl)) | (refine wpAnyH_take (i := 25) (v := undef) (at_drop rfl) (by kernel_rfl) (by kernel_rfl) (by kernel_rfl) (fun _ _ _ h => h) (Or.inr ⟨by rfl, rfl⟩) (by assumption) ?_)
  try simp only [Act.put, List.setIfInBounds_toArray, List.set_cons_zero, List.set_cons_succ]
  first | (refine wpAnyH_take (i := 26) (v := ?_) (at_drop rfl) (by kernel_rfl) (by kernel_rfl) (by kernel_rfl) (fun _ _ _ h => h) (Or.inl ⟨by rfl, ?_⟩) (by assumption) ?_; rotate_left; focus ((intro w' hSw; (try dsimp only at hSw); go_simp) <;> with_reducible rfl)) | (refine wpAnyH_take (i := 26) (v := undef) (at_drop rfl) (by kernel_rfl) (by kernel_rfl) (by kernel_rfl) (fun _ _ _ h => h) (Or.inr ⟨by rfl, rfl⟩) (by assumption) ?_)
  try simp only [Act.put, List.setIfInBounds_toArray, List.set_cons_zero, List.set_cons_succ]
  first | (refine wpAnyH_take (i := 27) (v := ?_) (at_drop rfl) (by kernel_rfl) (by kernel_rfl) (by kernel_rfl) (fun _ _ _ h => h) (Or.inl ⟨by rfl, ?_⟩) (by assumption) ?_; rotate_left; focus ((intro w' hSw; (try dsimp only at hSw); go_simp) <;> with_reducible rfl)) | (refine wpAnyH_take (i := 27) (v := undef) (at_drop rfl) (by kernel_rfl) (by kernel_rfl) (by kernel_rfl) (fun _ _ _ h => h) (Or.inr ⟨by rfl, rfl⟩) (by assumption) ?_)
  try simp only [Act.put, List.setIfInBounds_toArray, List.set_cons_zero, List.set_cons_succ]
  first | (refine wpAnyH_take (i := 28) (v := ?_) (at_drop rfl) (by kernel_rfl) (by kernel_rfl) (by kernel_rfl) (fun _ _ _ h => h) (Or.inl ⟨by rfl, ?_⟩) (by assumption) ?_; rotate_left; focus ((intro w' hSw; (try dsimp only at hSw); go_simp) <;> with_reducible rfl)) | (refine wpAnyH_take (i := 28) (v := undef) (at_drop rfl) (by kernel_rfl) (by kernel_rfl) (by kernel_rfl) (fun _ _ _ h => h) (Or.inr ⟨by rfl, rfl⟩) (by assumption) ?_)
  try simp only [Act.put, List.setIfInBounds_toArray, List.set_cons_zero, List.set_cons_succ]
  first | (refine wpAnyH_take (i := 29) (v := ?_) (at_drop rfl) (by kernel_rfl) (by kernel_rfl) (by kernel_rfl) (fun _ _ _ h => h) (Or.inl ⟨by rfl, ?_⟩) (by assumption) ?_; rotate_left; focus ((intro w' hSw; (try dsimp only at hSw); go_simp) <;> with_reducible rfl)) | (refine wpAnyH_take (i := 29) (v := undef) (at_drop rfl) (by kernel_rfl) (by kernel_rfl) (by kernel_rfl) (fun _ _ _ h => h) (Or.inr ⟨by rfl, rfl⟩) (by assumption) ?_)
  try simp only [Act.put, List.setIfInBounds_toArray, List.set_cons_zero, List.set_cons_succ]
  refine wpAnyH_ready (rs := [30]) (by kernel_rfl) (by simp) ?_
  refine AllReadyH.cons (at_drop rfl) (fun K hK => ?_) AllReadyH.nil
  go_simp
  refine (H3.out _).mono ?_
  rintro e wn ⟨rfl, hB⟩
  (have HBn : Below w.heap.size w wn := below_lift (by (first | exact HB.out | exact HB.out.drew | exact HB.out.alloc HB.out.size _ | exact (HB.out.alloc HB.out.size _).drew | exact (HB.out.alloc HB.out.size _).alloc (Nat.le_trans HB.out.size (by simp)) _ | exact ((HB.out.alloc HB.out.size _).alloc (Nat.le_trans HB.out.size (by simp)) _).alloc (Nat.le_trans HB.out.size (by simp; omega)) _)) hB; obtain ⟨hc, hf⟩ := below_cell hB; have zz := hB.size; (try simp at zz); have HB := Lib.hid HBn; clear HBn hB)
  have p0 := (hc (w.heap.size) 0 (by first | omega | (simp; omega))).trans p0
  have p1 := (hc (w.heap.size) 1 (by first | omega | (simp; omega))).trans p1
  have p2 := (hc (w.heap.size) 2 (by first | omega | (simp; omega))).trans p2
  have p3 := (hc (w.heap.size + 1) 0 (by first | omega | (simp; omega))).trans p3
  have p4 := (hc (w.heap.size + 1) 1 (by first | omega | (simp; omega))).trans p4
  have p5 := (hc (w.heap.size + 1) 2 (by first | omega | (simp; omega))).trans p5
  have p6 := (hc (w.heap.size + 1 + 1) 0 (by first | omega | (simp; omega))).trans p6
  have p7 := (hc (w.heap.size + 1 + 1) 1 (by first | omega | (simp; omega))).trans p7
  have p8 := (hc (w.heap.size + 1 + 1) 2 (by first | omega | (simp; omega))).trans p8
  clear hc hf
  have z0 : w.heap.size < wn.heap.size := by omega
  have z1 : w.heap.size + 1 < wn.heap.size := by omega
  have z2 : w.heap.size + 1 + 1 < wn.heap.size := by omega
  refine hK.out _ _ (⟨p0, p1, p2, p3, p4, p5, p6, p7, p8⟩) (fun hHeld => ?_)
  clear hK K
  try simp only [Act.put, List.setIfInBounds_toArray, List.set_cons_zero, List.set_cons_succ]
  first | (refine wpAnyH_take (i := 31) (v := ?_) (at_drop rfl) (by kernel_rfl) (by kernel_rfl) (by kernel_rfl) (fun _ _ _ h => h) (Or.inl ⟨by rfl, ?_⟩) (by assumption) ?_; rotate_left; focus ((intro w' hSw; (try dsimp only at hSw); go_simp) <;> with_reducible rfl)) | (refine wpAnyH_take (i := 31) (v := undef) (at_drop rfl) (by kernel_rfl) (by kernel_rfl) (by kernel_rfl) (fun _ _ _ h => h) (Or.inr ⟨by rfl, rfl⟩) (by assumption) ?_)
  try simp only [Act.put, List.setIfInBounds_toArray, List.set_cons_zero, List.set_cons_succ]
  first | (refine wpAnyH_take (i := 32) (v := ?_) (at_drop rfl) (by kernel_rfl) (by kernel_rfl) (by kernel_rfl) (fun _ _ _ h => h) (Or.inl ⟨by rfl, ?_⟩) (by assumption) ?_; rotate_left; focus ((intro w' hSw; (try dsimp only at hSw); go_simp) <;> with_reducible rfl)) | (refine wpAnyH_take (i := 32) (v := undef) (at_drop rfl) (by kernel_rfl) (by kernel_rfl) (by kernel_rfl) (fun _ _ _ h => h) (Or.inr ⟨by rfl, rfl⟩) (by assumption) ?_)
  try simp only [Act.put, List.setIfInBounds_toArray, List.set_cons_zero, List.set_cons_succ]
  first | (refine wpAnyH_take (i := 33) (v := ?_) (at_drop rfl) (by kernel_rfl) (by kernel_rfl) (by kernel_rfl) (fun _ _ _ h => h) (Or.inl ⟨by rfl, ?_⟩) (by assumption) ?_; rotate_left; focus ((intro w' hSw; (try dsimp only at hSw); go_simp) <;> with_reducible rfl)) | (refine wpAnyH_take (i := 33) (v := undef) (at_drop rfl) (by kernel_rfl) (by kernel_rfl) (by kernel_rfl) (fun _ _ _ h => h) (Or.inr ⟨by rfl, rfl⟩) (by assumption) ?_)
  try simp only [Act.put, List.setIfInBounds_toArray, List.set_cons_zero, List.set_cons_succ]
  first | (refine wpAnyH_take (i := 34) (v := ?_) (at_drop rfl) (by kernel_rfl) (by kernel_rfl) (by kernel_rfl) (fun _ _ _ h => h) (Or.inl ⟨by rfl, ?_⟩) (by assumption) ?_; rotate_left; focus ((intro w' hSw; (try dsimp only at hSw); go_simp) <;> with_reducible rfl)) | (refine wpAnyH_take (i := 34) (v := undef) (at_drop rfl) (by kernel_rfl) (by kernel_rfl) (by kernel_rfl) (fun _ _ _ h => h) (Or.inr ⟨by rfl, rfl⟩) (by assumption) ?_)
  try simp only [Act.put, List.setIfInBounds_toArray, List.set_cons_zero, List.set_cons_succ]
  first | (refine wpAnyH_take (i := 35) (v := ?_) (at_drop rfl) (by kernel_rfl) (by kernel_rfl) (by kernel_rfl) (fun _ _ _ h => h) (Or.inl ⟨by rfl, ?_⟩) (by assumption) ?_; rotate_left; focus ((intro w' hSw; (try dsimp only at hSw); go_simp) <;> with_reducible rfl)) | (refine wpAnyH_take (i := 35) (v := undef) (at_drop rfl) (by kernel_rfl) (by kernel_rfl) (by kernel_rfl) (fun _ _ _ h => h) (Or.inr ⟨by rfl, rfl⟩) (by assumption) ?_)
  try simp only [Act.put, List.setIfInBounds_toArray, List.set_cons_zero, List.set_cons_succ]
  (refine wpAnyH_take (i := 36) (v := undef) (at_drop rfl) (by kernel_rfl) (by kernel_rfl) (by kernel_rfl) (fun _ _ _ h => h) (Or.inr ⟨by rfl, rfl⟩) (by assumption) ?_)
  try simp only [Act.put, List.setIfInBounds_toArray, List.set_cons_zero, List.set_cons_succ]
  first | (refine wpAnyH_take (i := 37) (v := ?_) (at_drop rfl) (by kernel_rfl) (by kernel_rfl) (by kernel_rfl) (fun _ _ _ h => h) (Or.inl ⟨by rfl, ?_⟩) (by assumption) ?_; rotate_left; focus ((intro w' hSw; (try dsimp only at hSw); go_simp) <;> with_reducible rfl)) | (refine wpAnyH_take (i := 37) (v := undef) (at_drop rfl) (by kernel_rfl) (by kernel_rfl) (by kernel_rfl) (fun _ _ _ h => h) (Or.inr ⟨by rfl, rfl⟩) (by assumption) ?_)
  try simp only [Act.put, List.setIfInBounds_toArray, List.set_cons_zero, List.set_cons_succ]
  first | (refine wpAnyH_take (i := 38) (v := ?_) (at_drop rfl) (by kernel_rfl) (by kernel_rfl) (by kernel_rfl) (fun _ _ _ h => h) (Or.inl ⟨by rfl, ?_⟩) (by assumption) ?_; rotate_left; focus ((intro w' hSw; (try dsimp only at hSw); go_simp) <;> with_reducible rfl)) | (refine wpAnyH_take (i := 38) (v := undef) (at_drop rfl) (by kernel_rfl) (by kernel_rfl) (by kernel_rfl) (fun _ _ _ h => h) (Or.inr ⟨by rfl, rfl⟩) (by assumption) ?_)
  try simp only [Act.put, List.setIfInBounds_toArray, List.set_cons_zero, List.set_cons_succ]
  first | (refine wpAnyH_take (i := 39) (v := ?_) (at_drop rfl) (by kernel_rfl) (by kernel_rfl) (by kernel_rfl) (fun _ _ _ h => h) (Or.inl ⟨by rfl, ?_⟩) (by assumption) ?_; rotate_left; focus ((intro w' hSw; (try dsimp only at hSw); go_simp) <;> with_reducible rfl)) | (refine wpAnyH_take (i := 39) (v := undef) (at_drop rfl) (by kernel_rfl) (by kernel_rfl) (by kernel_rfl) (fun _ _ _ h => h) (Or.inr ⟨by rfl, rfl⟩) (by assumption) ?_)
  try simp only [Act.put, List.setIfInBounds_toArray, List.set_cons_zero, List.set_cons_succ]
  first | (refine wpAnyH_take (i := 40) (v := ?_) (at_drop rfl) (by kernel_rfl) (by kernel_rfl) (by kernel_rfl) (fun _ _ _ h => h) (Or.inl ⟨by rfl, ?_⟩) (by assumption) ?_; rotate_left; focus ((intro w' hSw; (try dsimp only at hSw); go_simp) <;> with_reducible rfl)) | (refine wpAnyH_take (i := 40) (v := undef) (at_drop rfl) (by kernel_rfl) (by kernel_rfl) (by kernel_rfl) (fun _ _ _ h => h) (Or.inr ⟨by rfl, rfl⟩) (by assumption) ?_)
  try simp only [Act.put, List.setIfInBounds_toArray, List.set_cons_zero, List.set_cons_succ]
  refine wpAnyH_ready (rs := [41]) (by kernel_rfl) (by simp) ?_
  refine AllReadyH.cons (at_drop rfl) (fun K hK => ?_) AllReadyH.nil
  go_simp
  refine (H4.out _).mono ?_
  rintro e wn ⟨rfl, hB⟩
  (have HBn : Below w.heap.size w wn := below_lift (by (first | exact HB.out | exact HB.out.drew | exact HB.out.alloc HB.out.size _ | exact (HB.out.alloc HB.out.size _).drew | exact (HB.out.alloc HB.out.size _).alloc (Nat.le_trans HB.out.size (by simp)) _ | exact ((HB.out.alloc HB.out.size _).alloc (Nat.le_trans HB.out.size (by simp)) _).alloc (Nat.le_trans HB.out.size (by simp; omega)) _)) hB; obtain ⟨hc, hf⟩ := below_cell hB; have zz := hB.size; (try simp at zz); have HB := Lib.hid HBn; clear HBn hB)
  have p0 := (hc (w.heap.size) 0 (by first | omega | (simp; omega))).trans p0
  have p1 := (hc (w.heap.size) 1 (by first | omega | (simp; omega))).trans p1
  have p2 := (hc (w.heap.size) 2 (by first | omega | (simp; omega))).trans p2
  have p3 := (hc (w.heap.size + 1) 0 (by first | omega | (simp; omega))).trans p3
  have p4 := (hc (w.heap.size + 1) 1 (by first | omega | (simp; omega))).trans p4
  have p5 := (hc (w.heap.size + 1) 2 (by first | omega | (simp; omega))).trans p5
  have p6 := (hc (w.heap.size + 1 + 1) 0 (by first | omega | (simp; omega))).trans p6
  have p7 := (hc (w.heap.size + 1 + 1) 1 (by first | omega | (simp; omega))).trans p7
  have p8 := (hc (w.heap.size + 1 + 1) 2 (by first | omega | (simp; omega))).trans p8
  clear hc hf
  have z0 : w.heap.size < wn.heap.size := by omega
  have z1 : w.heap.size + 1 < wn.heap.size := by omega
  have z2 : w.heap.size + 1 + 1 < wn.heap.size := by omega
  refine hK.out _ _ (⟨p0, p1, p2, p3, p4, p5, p6, p7, p8⟩) (fun hHeld => ?_)
  clear hK K
  try simp only [Act.put, List.setIfInBounds_toArray, List.set_cons_zero, List.set_cons_succ]
  first | (refine wpAnyH_take (i := 42) (v := ?_) (at_drop rfl) (by kernel_rfl) (by kernel_rfl) (by kernel_rfl) (fun _ _ _ h => h) (Or.inl ⟨by rfl, ?_⟩) (by assumption) ?_; rotate_left; focus ((intro w' hSw; (try dsimp only at hSw); go_simp) <;> with_reducible rfl)) | (refine wpAnyH_take (i := 42) (v := undef) (at_drop rfl) (by kernel_rfl) (by kernel_rfl) (by kernel_rfl) (fun _ _ _ h => h) (Or.inr ⟨by rfl, rfl⟩) (by assumption) ?_)
  try simp only [Act.put, List.setIfInBounds_toArray, List.set_cons_zero, List.set_cons_succ]
  first | (refine wpAnyH_take (i := 43) (v := ?_) (at_drop rfl) (by kernel_rfl) (by kernel_rfl) (by kernel_rfl) (fun _ _ _ h => h) (Or.inl ⟨by rfl, ?_⟩) (by assumption) ?_; rotate_left; focus ((intro w' hSw; (try dsimp only at hSw); go_simp) <;> with_reducible rfl)) | (refine wpAnyH_take (i := 43) (v := undef) (at_drop rfl) (by kernel_rfl) (by kernel_rfl) (by kernel_rfl) (fun _ _ _ h => h) (Or.inr ⟨by rfl, rfl⟩) (by assumption) ?_)
  try simp only [Act.put, List.setIfInBounds_toArray, List.set_cons_zero, List.set_cons_succ]
  first | (refine wpAnyH_take (i := 45) (v := ?_) (at_drop rfl) (by kernel_rfl) (by kernel_rfl) (by kernel_rfl) (fun _ _ _ h => h) (Or.inl ⟨by rfl, ?_⟩) (by assumption) ?_; rotate_left; focus ((intro w' hSw; (try dsimp only at hSw); go_simp) <;> with_reducible rfl)) | (refine wpAnyH_take (i := 45) (v := undef) (at_drop rfl) (by kernel_rfl) (by kernel_rfl) (by kernel_rfl) (fun _ _ _ h => h) (Or.inr ⟨by rfl, rfl⟩) (by assumption) ?_)
  try simp only [Act.put, List.setIfInBounds_toArray, List.set_cons_zero, List.set_cons_succ]
  refine wpAnyH_ready (rs := [44]) (by kernel_rfl) (by simp) ?_
  refine AllReadyH.cons (at_drop rfl) (fun K hK => ?_) AllReadyH.nil
  go_simp
  refine (H5.out _).mono ?_
  rintro e wn ⟨rfl, hB⟩
  (have HBn : Below w.heap.size w wn := below_lift (by (first | exact HB.out | exact HB.out.drew | exact HB.out.alloc HB.out.size _ | exact (HB.out.alloc HB.out.size _).drew | exact (HB.out.alloc HB.out.size _).alloc (Nat.le_trans HB.out.size (by simp)) _ | exact ((HB.out.alloc HB.out.size _).alloc (Nat.le_trans HB.out.size (by simp)) _).alloc (Nat.le_trans HB.out.size (by simp; omega)) _)) hB; obtain ⟨hc, hf⟩ := below_cell hB; have zz := hB.size; (try simp at zz); have HB := Lib.hid HBn; clear HBn hB)
  have p0 := (hc (w.heap.size) 0 (by first | omega | (simp; omega))).trans p0
  have p1 := (hc (w.heap.size) 1 (by first | omega | (simp; omega))).trans p1
  have p2 := (hc (w.heap.size) 2 (by first | omega | (simp; omega))).trans p2
  have p3 := (hc (w.heap.size + 1) 0 (by first | omega | (simp; omega))).trans p3
  have p4 := (hc (w.heap.size + 1) 1 (by first | omega | (simp; omega))).trans p4
  have p5 := (hc (w.heap.size + 1) 2 (by first | omega | (simp; omega))).trans p5
  have p6 := (hc (w.heap.size + 1 + 1) 0 (by first | omega | (simp; omega))).trans p6
  have p7 := (hc (w.heap.size + 1 + 1) 1 (by first | omega | (simp; omega))).trans p7
  have p8 := (hc (w.heap.size + 1 + 1) 2 (by first | omega | (simp; omega))).trans p8
  clear hc hf
  have z0 : w.heap.size < wn.heap.size := by omega
  have z1 : w.heap.size + 1 < wn.heap.size := by omega
  have z2 : w.heap.size + 1 + 1 < wn.heap.size := by omega
  refine hK.out _ _ (⟨p0, p1, p2, p3, p4, p5, p6, p7, p8⟩) (fun hHeld => ?_)
  clear hK K
  try simp only [Act.put, List.setIfInBounds_toArray, List.set_cons_zero, List.set_cons_succ]
  refine wpAnyH_ready (rs := [46]) (by kernel_rfl) (by simp) ?_
  refine AllReadyH.cons (at_drop rfl) (fun K hK => ?_) AllReadyH.nil
  go_simp
  refine (H6.out _).mono ?_
  rintro e wn ⟨rfl, hB⟩
  (have HBn : Below w.heap.size w wn := below_lift (by (first | exact HB.out | exact HB.out.drew | exact HB.out.alloc HB.out.size _ | exact (HB.out.alloc HB.out.size _).drew | exact (HB.out.alloc HB.out.size _).alloc (Nat.le_trans HB.out.size (by simp)) _ | exact ((HB.out.alloc HB.out.size _).alloc (Nat.le_trans HB.out.size (by simp)) _).alloc (Nat.le_trans HB.out.size (by simp; omega)) _)) hB; obtain ⟨hc, hf⟩ := below_cell hB; have zz := hB.size; (try simp at zz); have HB := Lib.hid HBn; clear HBn hB)
  have p0 := (hc (w.heap.size) 0 (by first | omega | (simp; omega))).trans p0
  have p1 := (hc (w.heap.size) 1 (by first | omega | (simp; omega))).trans p1
  have p2 := (hc (w.heap.size) 2 (by first | omega | (simp; omega))).trans p2
  have p3 := (hc (w.heap.size + 1) 0 (by first | omega | (simp; omega))).trans p3
  have p4 := (hc (w.heap.size + 1) 1 (by first | omega | (simp; omega))).trans p4
  have p5 := (hc (w.heap.size + 1) 2 (by first | omega | (simp; omega))).trans p5
  have p6 := (hc (w.heap.size + 1 + 1) 0 (by first | omega | (simp; omega))).trans p6
  have p7 := (hc (w.heap.size + 1 + 1) 1 (by first | omega | (simp; omega))).trans p7
  have p8 := (hc (w.heap.size + 1 + 1) 2 (by first | omega | (simp; omega))).trans p8
  clear hc hf
  have z0 : w.heap.size < wn.heap.size := by omega
  have z1 : w.heap.size + 1 < wn.heap.size := by omega
  have z2 : w.heap.size + 1 + 1 < wn.heap.size := by omega
  refine hK.out _ _ (⟨p0, p1, p2, p3, p4, p5, p6, p7, p8⟩) (fun hHeld => ?_)
  clear hK K
  try simp only [Act.put, List.setIfInBounds_toArray, List.set_cons_zero, List.set_cons_succ]
  first | (refine wpAnyH_take (i := 47) (v := ?_) (at_drop rfl) (by kernel_rfl) (by kernel_rfl) (by kernel_rfl) (fun _ _ _ h => h) (Or.inl ⟨by rfl, ?_⟩) (by assumption) ?_; rotate_left; focus ((intro w' hSw; (try dsimp only at hSw); go_simp) <;> with_reducible rfl)) | (refine wpAnyH_take (i := 47) (v := undef) (at_drop rfl) (by kernel_rfl) (by kernel_rfl) (by kernel_rfl) (fun _ _ _ h => h) (Or.inr ⟨by rfl, rfl⟩) (by assumption) ?_)
  try simp only [Act.put, List.setIfInBounds_toArray, List.set_cons_zero, List.set_cons_succ]
  first | (refine wpAnyH_take (i := 48) (v := ?_) (at_drop rfl) (by kernel_rfl) (by kernel_rfl) (by kernel_rfl) (fun _ _ _ h => h) (Or.inl ⟨by rfl, ?_⟩) (by assumption) ?_; rotate_left; focus ((intro w' hSw; (try dsimp only at hSw); go_simp) <;> with_reducible rfl)) | (refine wpAnyH_take (i := 48) (v := undef) (at_drop rfl) (by kernel_rfl) (by kernel_rfl) (by kernel_rfl) (fun _ _ _ h => h) (Or.inr ⟨by rfl, rfl⟩) (by assumption) ?_)
  try simp only [Act.put, List.setIfInBounds_toArray, List.set_cons_zero, List.set_cons_succ]
  refine wpAnyH_ready (rs := [49]) (by kernel_rfl) (by simp) ?_
  refine AllReadyH.cons (at_drop rfl) (fun K hK => ?_) AllReadyH.nil
  go_simp
  refine (H7.out _).mono ?_
  rintro e wn ⟨rfl, hB⟩
  (have HBn : Below w.heap.size w wn := below_lift (by (first | exact HB.out | exact HB.out.drew | exact HB.out.alloc HB.out.size _ | exact (HB.out.alloc HB.out.size _).drew | exact (HB.out.alloc HB.out.size _).alloc (Nat.le_trans HB.out.size (by simp)) _ | exact ((HB.out.alloc HB.out.size _).alloc (Nat.le_trans HB.out.size (by simp)) _).alloc (Nat.le_trans HB.out.size (by simp; omega)) _)) hB; obtain ⟨hc, hf⟩ := below_cell hB; have zz := hB.size; (try simp at zz); have HB := Lib.hid HBn; clear HBn hB)
  have p0 := (hc (w.heap.size) 0 (by first | omega | (simp; omega))).trans p0
  have p1 := (hc (w.heap.size) 1 (by first | omega | (simp; omega))).trans p1
  have p2 := (hc (w.heap.size) 2 (by first | omega | (simp; omega))).trans p2
  have p3 := (hc (w.heap.size + 1) 0 (by first | omega | (simp; omega))).trans p3
  have p4 := (hc (w.heap.size + 1) 1 (by first | omega | (simp; omega))).trans p4
  have p5 := (hc (w.heap.size + 1) 2 (by first | omega | (simp; omega))).trans p5
  have p6 := (hc (w.heap.size + 1 + 1) 0 (by first | omega | (simp; omega))).trans p6
  have p7 := (hc (w.heap.size + 1 + 1) 1 (by first | omega | (simp; omega))).trans p7
  have p8 := (hc (w.heap.size + 1 + 1) 2 (by first | omega | (simp; omega))).trans p8
  clear hc hf
  have z0 : w.heap.size < wn.heap.size := by omega
  have z1 : w.heap.size + 1 < wn.heap.size := by omega
  have z2 : w.heap.size + 1 + 1 < wn.heap.size := by omega
  refine hK.out _ _ (⟨p0, p1, p2, p3, p4, p5, p6, p7, p8⟩) (fun hHeld => ?_)
  clear hK K
  try simp only [Act.put, List.setIfInBounds_toArray, List.set_cons_zero, List.set_cons_succ]
  refine wpAnyH_ready (rs := [50]) (by kernel_rfl) (by simp) ?_
  refine AllReadyH.cons (at_drop rfl) (fun K hK => ?_) AllReadyH.nil
  go_simp
  refine (H8.out _).mono ?_
  rintro e wn ⟨rfl, hB⟩
  (have HBn : Below w.heap.size w wn := below_lift (by (first | exact HB.out | exact HB.out.drew | exact HB.out.alloc HB.out.size _ | exact (HB.out.alloc HB.out.size _).drew | exact (HB.out.alloc HB.out.size _).alloc (Nat.le_trans HB.out.size (by simp)) _ | exact ((HB.out.alloc HB.out.size _).alloc (Nat.le_trans HB.out.size (by simp)) _).alloc (Nat.le_trans HB.out.size (by simp; omega)) _)) hB; obtain ⟨hc, hf⟩ := below_cell hB; have zz := hB.size; (try simp at zz); have HB := Lib.hid HBn; clear HBn hB)
  have p0 := (hc (w.heap.size) 0 (by first | omega | (simp; omega))).trans p0
  have p1 := (hc (w.heap.size) 1 (by first | omega | (simp; omega))).trans p1
  have p2 := (hc (w.heap.size) 2 (by first | omega | (simp; omega))).trans p2
  have p3 := (hc (w.heap.size + 1) 0 (by first | omega | (simp; omega))).trans p3
  have p4 := (hc (w.heap.size + 1) 1 (by first | omega | (simp; omega))).trans p4
  have p5 := (hc (w.heap.size + 1) 2 (by first | omega | (simp; omega))).trans p5
  have p6 := (hc (w.heap.size + 1 + 1) 0 (by first | omega | (simp; omega))).trans p6
  have p7 := (hc (w.heap.size + 1 + 1) 1 (by first | omega | (simp; omega))).trans p7
  have p8 := (hc (w.heap.size + 1 + 1) 2 (by first | omega | (simp; omega))).trans p8
  clear hc hf
  have z0 : w.heap.size < wn.heap.size := by omega
  have z1 : w.heap.size + 1 < wn.heap.size := by omega
  have z2 : w.heap.size + 1 + 1 < wn.heap.size := by omega
  refine hK.out _ _ (⟨p0, p1, p2, p3, p4, p5, p6, p7, p8⟩) (fun hHeld => ?_)
  clear hK K
  try simp only [Act.put, List.setIfInBounds_toArray, List.set_cons_zero, List.set_cons_succ]
  first | (refine wpAnyH_take (i := 51) (v := ?_) (at_drop rfl) (by kernel_rfl) (by kernel_rfl) (by kernel_rfl) (fun _ _ _ h => h) (Or.inl ⟨by rfl, ?_⟩) (by assumption) ?_; rotate_left; focus ((intro w' hSw; (try dsimp only at hSw); go_simp) <;> with_reducible rfl)) | (refine wpAnyH_take (i := 51) (v := undef) (at_drop rfl) (by kernel_rfl) (by kernel_rfl) (by kernel_rfl) (fun _ _ _ h => h) (Or.inr ⟨by rfl, rfl⟩) (by assumption) ?_)
  try simp only [Act.put, List.setIfInBounds_toArray, List.set_cons_zero, List.set_cons_succ]
  first | (refine wpAnyH_take (i := 52) (v := ?_) (at_drop rfl) (by kernel_rfl) (by kernel_rfl) (by kernel_rfl) (fun _ _ _ h => h) (Or.inl ⟨by rfl, ?_⟩) (by assumption) ?_; rotate_left; focus ((intro w' hSw; (try dsimp only at hSw); go_simp) <;> with_reducible rfl)) | (refine wpAnyH_take (i := 52) (v := undef) (at_drop rfl) (by kernel_rfl) (by kernel_rfl) (by kernel_rfl) (fun _ _ _ h => h) (Or.inr ⟨by rfl, rfl⟩) (by assumption) ?_)
  try simp only [Act.put, List.setIfInBounds_toArray, List.set_cons_zero, List.set_cons_succ]
  first | (refine wpAnyH_take (i := 53) (v := ?_) (at_drop rfl) (by kernel_rfl) (by kernel_rfl) (by kernel_rfl) (fun _ _ _ h => h) (Or.inl ⟨by rfl, ?_⟩) (by assumption) ?_; rotate_left; focus ((intro w' hSw; (try dsimp only at hSw); go_simp) <;> with_reducible rfl)) | (refine wpAnyH_take (i := 53) (v := undef) (at_drop rfl) (by kernel_rfl) (by kernel_rfl) (by kernel_rfl) (fun _ _ _ h => h) (Or.inr ⟨by rfl, rfl⟩) (by assumption) ?_)
  try simp only [Act.put, List.setIfInBounds_toArray, List.set_cons_zero, List.set_cons_succ]
  first | (refine wpAnyH_take (i := 54) (v := ?_) (at_drop rfl) (by kernel_rfl) (by kernel_rfl) (by kernel_rfl) (fun _ _ _ h => h) (Or.inl ⟨by rfl, ?_⟩) (by assumption) ?_; rotate_left; focus ((intro w' hSw; (try dsimp only at hSw); go_simp) <;> with_reducible rfl)) | (refine wpAnyH_take (i := 54) (v := undef) (at_drop rfl) (by kernel_rfl) (by kernel_rfl) (by kernel_rfl) (fun _ _ _ h => h) (Or.inr ⟨by rfl, rfl⟩) (by assumption) ?_)
  try simp only [Act.put, List.setIfInBounds_toArray, List.set_cons_zero, List.set_cons_succ]
  refine wpAnyH_done (by kernel_rfl) ?_ _
  go_wp2_with fail
  go_ret
  exact ⟨rfl, HB.out⟩

set_option maxRecDepth 100000 in
set_option maxHeartbeats 4000000 in
theorem orders_4 (a b c bo tp : Lab) (w : World) (hh : Handle w) (h0 : UnderIs a b true) (h1 : UnderIs a a true) (h2 : UnderIs b a false) (h3 : UnderIs b c true) (h4 : UnderIs a c true) (h5 : RightIs a true) (h6 : ∀ W, Calls Tryd.prog 16 #[] W fun e w' => e = .returned (.agg #[.int .i64 bo.lv, .int .u64 (u bo.c), .int .i64 bo.ig]) ∧ Below W.heap.size W w') (h7 : UnderIs bo a true) (h8 : ∀ W, Calls Tryd.prog 17 #[] W fun e w' => e = .returned (.agg #[.int .i64 tp.lv, .int .u64 (u tp.c), .int .i64 tp.ig]) ∧ Below W.heap.size W w') (h9 : UnderIs a tp true) :
    Calls Tryd.prog 7 #[.agg #[.int .i64 a.lv, .int .u64 (u a.c), .int .i64 a.ig], .agg #[.int .i64 b.lv, .int .u64 (u b.c), .int .i64 b.ig], .agg #[.int .i64 c.lv, .int .u64 (u c.c), .int .i64 c.ig]] w (Yes w) := by
  have H0 := Lib.hid h0
  clear h0
  have H1 := Lib.hid h1
  clear h1
  have H2 := Lib.hid h2
  clear h2
  have H3 := Lib.hid h3
  clear h3
  have H4 := Lib.hid h4
  clear h4
  have H5 := Lib.hid h5
  clear h5
  have H6 := Lib.hid h6
  clear h6
  have H7 := Lib.hid h7
  clear h7
  have H8 := Lib.hid h8
  clear h8
  have H9 := Lib.hid h9
  clear h9
  have HH := Lib.hid hh
  clear hh
  have HB := Lib.hid (Below.refl w.heap.size w)
  go_enter Tryd.func7, Tryd.ntmps7
  go_wp2_with fail
  refine (shown_any _ (HH.out.up (by (first | exact HB.out | exact HB.out.drew | exact HB.out.alloc HB.out.size _ | exact (HB.out.alloc HB.out.size _).drew | exact (HB.out.alloc HB.out.size _).alloc (Nat.le_trans HB.out.size (by simp)) _ | exact ((HB.out.alloc HB.out.size _).alloc (Nat.le_trans HB.out.size (by simp)) _).alloc (Nat.le_trans HB.out.size (by simp; omega)) _)))).mono ?_
  rintro e w1 ⟨rfl, hB⟩
  (have HBn : Below w.heap.size w w1 := below_lift (by (first | exact HB.out | exact HB.out.drew | exact HB.out.alloc HB.out.size _ | exact (HB.out.alloc HB.out.size _).drew | exact (HB.out.alloc HB.out.size _).alloc (Nat.le_trans HB.out.size (by simp)) _ | exact ((HB.out.alloc HB.out.size _).alloc (Nat.le_trans HB.out.size (by simp)) _).alloc (Nat.le_trans HB.out.size (by simp; omega)) _)) hB; obtain ⟨hc, hf⟩ := below_cell hB; have zz := hB.size; (try simp at zz); have HB := Lib.hid HBn; clear HBn hB)
  have k0 : w.heap.size < w1.heap.size := by omega
  have m0 : w.heap.size < w1.heap.size + 1 := by omega
  have k1 : w.heap.size + 1 < w1.heap.size := by omega
  have m1 : w.heap.size + 1 < w1.heap.size + 1 := by omega
  have k2 : w.heap.size + 1 + 1 < w1.heap.size := by omega
  have m2 : w.heap.size + 1 + 1 < w1.heap.size + 1 := by omega
  go_wp2_with fail
  refine (H0.out _).mono ?_
  rintro e w2 ⟨rfl, hB⟩
  have p0 : w2.cell? ⟨w.heap.size, 0, none⟩ = some (.int .i64 a.lv) := by rw [(below_cell hB).1 _ _ (by first | omega | (simp; omega))]; (try simp only [World.cell?_drew]); rw [hc _ _ (by simp <;> omega)]; go_simp
  have p1 : w2.cell? ⟨w.heap.size, 1, none⟩ = some (.int .u64 (u a.c)) := by rw [(below_cell hB).1 _ _ (by first | omega | (simp; omega))]; (try simp only [World.cell?_drew]); rw [hc _ _ (by simp <;> omega)]; go_simp
  have p2 : w2.cell? ⟨w.heap.size, 2, none⟩ = some (.int .i64 a.ig) := by rw [(below_cell hB).1 _ _ (by first | omega | (simp; omega))]; (try simp only [World.cell?_drew]); rw [hc _ _ (by simp <;> omega)]; go_simp
  have p3 : w2.cell? ⟨w.heap.size + 1, 0, none⟩ = some (.int .i64 b.lv) := by rw [(below_cell hB).1 _ _ (by first | omega | (simp; omega))]; (try simp only [World.cell?_drew]); rw [hc _ _ (by simp <;> omega)]; go_simp
  have p4 : w2.cell? ⟨w.heap.size + 1, 1, none⟩ = some (.int .u64 (u b.c)) := by rw [(below_cell hB).1 _ _ (by first | omega | (simp; omega))]; (try simp only [World.cell?_drew]); rw [hc _ _ (by simp <;> omega)]; go_simp
  have p5 : w2.cell? ⟨w.heap.size + 1, 2, none⟩ = some (.int .i64 b.ig) := by rw [(below_cell hB).1 _ _ (by first | omega | (simp; omega))]; (try simp only [World.cell?_drew]); rw [hc _ _ (by simp <;> omega)]; go_simp
  have p6 : w2.cell? ⟨w.heap.size + 1 + 1, 0, none⟩ = some (.int .i64 c.lv) := by rw [(below_cell hB).1 _ _ (by first | omega | (simp; omega))]; (try simp only [World.cell?_drew]); rw [hc _ _ (by simp <;> omega)]; go_simp
  have p7 : w2.cell? ⟨w.heap.size + 1 + 1, 1, none⟩ = some (.int .u64 (u c.c)) := by rw [(below_cell hB).1 _ _ (by first | omega | (simp; omega))]; (try simp only [World.cell?_drew]); rw [hc _ _ (by simp <;> omega)]; go_simp
  have p8 : w2.cell? ⟨w.heap.size + 1 + 1, 2, none⟩ = some (.int .i64 c.ig) := by rw [(below_cell hB).1 _ _ (by first | omega | (simp; omega))]; (try simp only [World.cell?_drew]); rw [hc _ _ (by simp <;> omega)]; go_simp
  have y := hB.size
  (try simp at y)
  have z0 : w.heap.size < w2.heap.size := by omega
  have z1 : w.heap.size + 1 < w2.heap.size := by omega
  have z2 : w.heap.size + 1 + 1 < w2.heap.size := by omega
  have HBn : Below w.heap.size w w2 := below_lift (by (first | exact HB.out | exact HB.out.drew | exact HB.out.alloc HB.out.size _ | exact (HB.out.alloc HB.out.size _).drew | exact (HB.out.alloc HB.out.size _).alloc (Nat.le_trans HB.out.size (by simp)) _ | exact ((HB.out.alloc HB.out.size _).alloc (Nat.le_trans HB.out.size (by simp)) _).alloc (Nat.le_trans HB.out.size (by simp; omega)) _)) hB
  have HB := Lib.hid HBn
  clear HBn hB hc hf zz y k0 k1 k2 m0 m1 m2
  go_wp2_with fail
  refine wp_region_held_drew (S := (fun w' => w'.cell? ⟨w.heap.size, 0, none⟩ = some (.int .i64 a.lv) ∧ w'.cell? ⟨w.heap.size, 1, none⟩ = some (.int .u64 (u a.c)) ∧ w'.cell? ⟨w.heap.size, 2, none⟩ = some (.int .i64 a.ig) ∧ w'.cell? ⟨w.heap.size + 1, 0, none⟩ = some (.int .i64 b.lv) ∧ w'.cell? ⟨w.heap.size + 1, 1, none⟩ = some (.int .u64 (u b.c)) ∧ w'.cell? ⟨w.heap.size + 1, 2, none⟩ = some (.int .i64 b.ig) ∧ w'.cell? ⟨w.heap.size + 1 + 1, 0, none⟩ = some (.int .i64 c.lv) ∧ w'.cell? ⟨w.heap.size + 1 + 1, 1, none⟩ = some (.int .u64 (u c.c)) ∧ w'.cell? ⟨w.heap.size + 1 + 1, 2, none⟩ = some (.int .i64 c.ig))) (by kernel_rfl) (⟨p0, p1, p2, p3, p4, p5, p6, p7, p8⟩) (fun hHeld => ?_)
  first | (refine wpAnyH_take (i := 0) (v := ?_) (at_drop rfl) (by kernel_rfl) (by kernel_rfl) (by kernel_rfl) (fun _ _ _ h => h) (Or.inl ⟨by rfl, ?_⟩) (by assumption) ?_; rotate_left; focus ((intro w' hSw; (try dsimp only at hSw); go_simp) <;> with_reducible rfl)) | (refine wpAnyH_take (i := 0) (v := undef) (at_drop rfl) (by kernel_rfl) (by kernel_rfl) (by kernel_rfl) (fun _ _ _ h => h) (Or.inr ⟨by rfl, rfl⟩) (by assumption) ?_)
  try simp only [Act.put, List.setIfInBounds_toArray, List.set_cons_zero, List.set_cons_succ]
  first | (refine wpAnyH_take (i := 1) (v := ?_) (at_drop rfl) (by kernel_rfl) (by kernel_rfl) (by kernel_rfl) (fun _ _ _ h => h) (Or.inl ⟨by rfl, ?_⟩) (by assumption) ?_; rotate_left; focus ((intro w' hSw; (try dsimp only at hSw); go_simp) <;> with_reducible rfl)) | (refine wpAnyH_take (i := 1) (v := undef) (at_drop rfl) (by kernel_rfl) (by kernel_rfl) (by kernel_rfl) (fun _ _ _ h => h) (Or.inr ⟨by rfl, rfl⟩) (by assumption) ?_)
  try simp only [Act.put, List.setIfInBounds_toArray, List.set_cons_zero, List.set_cons_succ]
  first | (refine wpAnyH_take (i := 2) (v := ?_) (at_drop rfl) (by kernel_rfl) (by kernel_rfl) (by kernel_rfl) (fun _ _ _ h => h) (Or.inl ⟨by rfl, ?_⟩) (by assumption) ?_; rotate_left; focus ((intro w' hSw; (try dsimp only at hSw); go_simp) <;> with_reducible rfl)) | (refine wpAnyH_take (i := 2) (v := undef) (at_drop rfl) (by kernel_rfl) (by kernel_rfl) (by kernel_rfl) (fun _ _ _ h => h) (Or.inr ⟨by rfl, rfl⟩) (by assumption) ?_)
  try simp only [Act.put, List.setIfInBounds_toArray, List.set_cons_zero, List.set_cons_succ]
  first | (refine wpAnyH_take (i := 3) (v := ?_) (at_drop rfl) (by kernel_rfl) (by kernel_rfl) (by kernel_rfl) (fun _ _ _ h => h) (Or.inl ⟨by rfl, ?_⟩) (by assumption) ?_; rotate_left; focus ((intro w' hSw; (try dsimp only at hSw); go_simp) <;> with_reducible rfl)) | (refine wpAnyH_take (i := 3) (v := undef) (at_drop rfl) (by kernel_rfl) (by kernel_rfl) (by kernel_rfl) (fun _ _ _ h => h) (Or.inr ⟨by rfl, rfl⟩) (by assumption) ?_)
  try simp only [Act.put, List.setIfInBounds_toArray, List.set_cons_zero, List.set_cons_succ]
  first | (refine wpAnyH_take (i := 5) (v := ?_) (at_drop rfl) (by kernel_rfl) (by kernel_rfl) (by kernel_rfl) (fun _ _ _ h => h) (Or.inl ⟨by rfl, ?_⟩) (by assumption) ?_; rotate_left; focus ((intro w' hSw; (try dsimp only at hSw); go_simp) <;> with_reducible rfl)) | (refine wpAnyH_take (i := 5) (v := undef) (at_drop rfl) (by kernel_rfl) (by kernel_rfl) (by kernel_rfl) (fun _ _ _ h => h) (Or.inr ⟨by rfl, rfl⟩) (by assumption) ?_)
  try simp only [Act.put, List.setIfInBounds_toArray, List.set_cons_zero, List.set_cons_succ]
  refine wpAnyH_ready (rs := [4]) (by kernel_rfl) (by simp) ?_
  refine AllReadyH.cons (at_drop rfl) (fun K hK => ?_) AllReadyH.nil
  go_simp
  refine (H1.out _).mono ?_
  rintro e wn ⟨rfl, hB⟩
  (have HBn : Below w.heap.size w wn := below_lift (by (first | exact HB.out | exact HB.out.drew | exact HB.out.alloc HB.out.size _ | exact (HB.out.alloc HB.out.size _).drew | exact (HB.out.alloc HB.out.size _).alloc (Nat.le_trans HB.out.size (by simp)) _ | exact ((HB.out.alloc HB.out.size _).alloc (Nat.le_trans HB.out.size (by simp)) _).alloc (Nat.le_trans HB.out.size (by simp; omega)) _)) hB; obtain ⟨hc, hf⟩ := below_cell hB; have zz := hB.size; (try simp at zz); have HB := Lib.hid HBn; clear HBn hB)
  have p0 := (hc (w.heap.size) 0 (by first | omega | (simp; omega))).trans p0
  have p1 := (hc (w.heap.size) 1 (by first | omega | (simp; omega))).trans p1
  have p2 := (hc (w.heap.size) 2 (by first | omega | (simp; omega))).trans p2
  have p3 := (hc (w.heap.size + 1) 0 (by first | omega | (simp; omega))).trans p3
  have p4 := (hc (w.heap.size + 1) 1 (by first | omega | (simp; omega))).trans p4
  have p5 := (hc (w.heap.size + 1) 2 (by first | omega | (simp; omega))).trans p5
  have p6 := (hc (w.heap.size + 1 + 1) 0 (by first | omega | (simp; omega))).trans p6
  have p7 := (hc (w.heap.size + 1 + 1) 1 (by first | omega | (simp; omega))).trans p7
  have p8 := (hc (w.heap.size + 1 + 1) 2 (by first | omega | (simp; omega))).trans p8
  clear hc hf
  have z0 : w.heap.size < wn.heap.size := by omega
  have z1 : w.heap.size + 1 < wn.heap.size := by omega
  have z2 : w.heap.size + 1 + 1 < wn.heap.size := by omega
  refine hK.out _ _ (⟨p0, p1, p2, p3, p4, p5, p6, p7, p8⟩) (fun hHeld => ?_)
  clear hK K
  try simp only [Act.put, List.setIfInBounds_toArray, List.set_cons_zero, List.set_cons_succ]
  refine wpAnyH_ready (rs := [6]) (by kernel_rfl) (by simp) ?_
  refine AllReadyH.cons (at_drop rfl) (fun K hK => ?_) AllReadyH.nil
  go_simp
  refine (H5.out _).mono ?_
  rintro e wn ⟨rfl, hB⟩
  (have HBn : Below w.heap.size w wn := below_lift (by (first | exact HB.out | exact HB.out.drew | exact HB.out.alloc HB.out.size _ | exact (HB.out.alloc HB.out.size _).drew | exact (HB.out.alloc HB.out.size _).alloc (Nat.le_trans HB.out.size (by simp)) _ | exact ((HB.out.alloc HB.out.size _).alloc (Nat.le_trans HB.out.size (by simp)) _).alloc (Nat.le_trans HB.out.size (by simp; omega)) _)) hB; obtain ⟨hc, hf⟩ := below_cell hB; have zz := hB.size; (try simp at zz); have HB := Lib.hid HBn; clear HBn hB)
  have p0 := (hc (w.heap.size) 0 (by first | omega | (simp; omega))).trans p0
  have p1 := (hc (w.heap.size) 1 (by first | omega | (simp; omega))).trans p1
  have p2 := (hc (w.heap.size) 2 (by first | omega | (simp; omega))).trans p2
  have p3 := (hc (w.heap.size + 1) 0 (by first | omega | (simp; omega))).trans p3
  have p4 := (hc (w.heap.size + 1) 1 (by first | omega | (simp; omega))).trans p4
  have p5 := (hc (w.heap.size + 1) 2 (by first | omega | (simp; omega))).trans p5
  have p6 := (hc (w.heap.size + 1 + 1) 0 (by first | omega | (simp; omega))).trans p6
  have p7 := (hc (w.heap.size + 1 + 1) 1 (by first | omega | (simp; omega))).trans p7
  have p8 := (hc (w.heap.size + 1 + 1) 2 (by first | omega | (simp; omega))).trans p8
  clear hc hf
  have z0 : w.heap.size < wn.heap.size := by omega
  have z1 : w.heap.size + 1 < wn.heap.size := by omega
  have z2 : w.heap.size + 1 + 1 < wn.heap.size := by omega
  refine hK.out _ _ (⟨p0, p1, p2, p3, p4, p5, p6, p7, p8⟩) (fun hHeld => ?_)
  clear hK K
  try simp only [Act.put, List.setIfInBounds_toArray, List.set_cons_zero, List.set_cons_succ]
  first | (refine wpAnyH_take (i := 7) (v := ?_) (at_drop rfl) (by kernel_rfl) (by kernel_rfl) (by kernel_rfl) (fun _ _ _ h => h) (Or.inl ⟨by rfl, ?_⟩) (by assumption) ?_; rotate_left; focus ((intro w' hSw; (try dsimp only at hSw); go_simp) <;> with_reducible rfl)) | (refine wpAnyH_take (i := 7) (v := undef) (at_drop rfl) (by kernel_rfl) (by kernel_rfl) (by kernel_rfl) (fun _ _ _ h => h) (Or.inr ⟨by rfl, rfl⟩) (by assumption) ?_)
  try simp only [Act.put, List.setIfInBounds_toArray, List.set_cons_zero, List.set_cons_succ]
  first | (refine wpAnyH_take (i := 8) (v := ?_) (at_drop rfl) (by kernel_rfl) (by kernel_rfl) (by kernel_rfl) (fun _ _ _ h => h) (Or.inl ⟨by rfl, ?_⟩) (by assumption) ?_; rotate_left; focus ((intro w' hSw; (try dsimp only at hSw); go_simp) <;> with_reducible rfl)) | (refine wpAnyH_take (i := 8) (v := undef) (at_drop rfl) (by kernel_rfl) (by kernel_rfl) (by kernel_rfl) (fun _ _ _ h => h) (Or.inr ⟨by rfl, rfl⟩) (by assumption) ?_)
  try simp only [Act.put, List.setIfInBounds_toArray, List.set_cons_zero, List.set_cons_succ]
  first | (refine wpAnyH_take (i := 9) (v := ?_) (at_drop rfl) (by kernel_rfl) (by kernel_rfl) (by kernel_rfl) (fun _ _ _ h => h) (Or.inl ⟨by rfl, ?_⟩) (by assumption) ?_; rotate_left; focus ((intro w' hSw; (try dsimp only at hSw); go_simp) <;> with_reducible rfl)) | (refine wpAnyH_take (i := 9) (v := undef) (at_drop rfl) (by kernel_rfl) (by kernel_rfl) (by kernel_rfl) (fun _ _ _ h => h) (Or.inr ⟨by rfl, rfl⟩) (by assumption) ?_)
  try simp only [Act.put, List.setIfInBounds_toArray, List.set_cons_zero, List.set_cons_succ]
  first | (refine wpAnyH_take (i := 10) (v := ?_) (at_drop rfl) (by kernel_rfl) (by kernel_rfl) (by kernel_rfl) (fun _ _ _ h => h) (Or.inl ⟨by rfl, ?_⟩) (by assumption) ?_; rotate_left; focus ((intro w' hSw; (try dsimp only at hSw); go_simp) <;> with_reducible rfl)) | (refine wpAnyH_take (i := 10) (v := undef) (at_drop rfl) (by kernel_rfl) (by kernel_rfl) (by kernel_rfl) (fun _ _ _ h => h) (Or.inr ⟨by rfl, rfl⟩) (by assumption) ?_)
  try simp only [Act.put, List.setIfInBounds_toArray, List.set_cons_zero, List.set_cons_succ]
  first | (refine wpAnyH_take (i := 11) (v := ?_) (at_drop rfl) (by kernel_rfl) (by kernel_rfl) (by kernel_rfl) (fun _ _ _ h => h) (Or.inl ⟨by rfl, ?_⟩) (by assumption) ?_; rotate_left; focus ((intro w' hSw; (try dsimp only at hSw); go_simp) <;> with_reducible rfl)) | (refine wpAnyH_take (i := 11) (v := undef) (at_drop rfl) (by kernel_rfl) (by kernel_rfl) (by kernel_rfl) (fun _ _ _ h => h) (Or.inr ⟨by rfl, rfl⟩) (by assumption) ?_)
  try simp only [Act.put, List.setIfInBounds_toArray, List.set_cons_zero, List.set_cons_succ]
  first | (refine wpAnyH_take (i := 12) (v := ?_) (at_drop rfl) (by kernel_rfl) (by kernel_rfl) (by kernel_rfl) (fun _ _ _ h => h) (Or.inl ⟨by rfl, ?_⟩) (by assumption) ?_; rotate_left; focus ((intro w' hSw; (try dsimp only at hSw); go_simp) <;> with_reducible rfl)) | (refine wpAnyH_take (i := 12) (v := undef) (at_drop rfl) (by kernel_rfl) (by kernel_rfl) (by kernel_rfl) (fun _ _ _ h => h) (Or.inr ⟨by rfl, rfl⟩) (by assumption) ?_)
  try simp only [Act.put, List.setIfInBounds_toArray, List.set_cons_zero, List.set_cons_succ]
  first | (refine wpAnyH_take (i := 13) (v := ?_) (at_drop rfl) (by kernel_rfl) (by kernel_rfl) (by kernel_rfl) (fun _ _ _ h => h) (Or.inl ⟨by rfl, ?_⟩) (by assumption) ?_; rotate_left; focus ((intro w' hSw; (try dsimp only at hSw); go_simp) <;> with_reducible rfl)) | (refine wpAnyH_take (i := 13) (v := undef) (at_drop rfl) (by kernel_rfl) (by kernel_rfl) (by kernel_rfl) (fun _ _ _ h => h) (Or.inr ⟨by rfl, rfl⟩) (by assumption) ?_)
  try simp only [Act.put, List.setIfInBounds_toArray, List.set_cons_zero, List.set_cons_succ]
  first | (refine wpAnyH_take (i := 14) (v := ?_) (at_drop rfl) (by kernel_rfl) (by kernel_rfl) (by kernel_rfl) (fun _ _ _ h => h) (Or.inl ⟨by rfl, ?_⟩) (by assumption) ?_; rotate_left; focus ((intro w' hSw; (try dsimp only at hSw); go_simp) <;> with_reducible rfl)) | (refine wpAnyH_take (i := 14) (v := undef) (at_drop rfl) (by kernel_rfl) (by kernel_rfl) (by kernel_rfl) (fun _ _ _ h => h) (Or.inr ⟨by rfl, rfl⟩) (by assumption) ?_)
  try simp only [Act.put, List.setIfInBounds_toArray, List.set_cons_zero, List.set_cons_succ]
  refine wpAnyH_ready (rs := [15]) (by kernel_rfl) (by simp) ?_
  refine AllReadyH.cons (at_drop rfl) (fun K hK => ?_) AllReadyH.nil
  go_simp
  refine (H2.out _).mono ?_
  rintro e wn ⟨rfl, hB⟩
  (have HBn : Below w.heap.size w wn := below_lift (by (first | exact HB.out | exact HB.out.drew | exact HB.out.alloc HB.out.size _ | exact (HB.out.alloc HB.out.size _).drew | exact (HB.out.alloc HB.out.size _).alloc (Nat.le_trans HB.out.size (by simp)) _ | exact ((HB.out.alloc HB.out.size _).alloc (Nat.le_trans HB.out.size (by simp)) _).alloc (Nat.le_trans HB.out.size (by simp; omega)) _)) hB; obtain ⟨hc, hf⟩ := below_cell hB; have zz := hB.size; (try simp at zz); have HB := Lib.hid HBn; clear HBn hB)
  have p0 := (hc (w.heap.size) 0 (by first | omega | (simp; omega))).trans p0
  have p1 := (hc (w.heap.size) 1 (by first | omega | (simp; omega))).trans p1
  have p2 := (hc (w.heap.size) 2 (by first | omega | (simp; omega))).trans p2
  have p3 := (hc (w.heap.size + 1) 0 (by first | omega | (simp; omega))).trans p3
  have p4 := (hc (w.heap.size + 1) 1 (by first | omega | (simp; omega))).trans p4
  have p5 := (hc (w.heap.size + 1) 2 (by first | omega | (simp; omega))).trans p5
  have p6 := (hc (w.heap.size + 1 + 1) 0 (by first | omega | (simp; omega))).trans p6
  have p7 := (hc (w.heap.size + 1 + 1) 1 (by first | omega | (simp; omega))).trans p7
  have p8 := (hc (w.heap.size + 1 + 1) 2 (by first | omega | (simp; omega))).trans p8
  clear hc hf
  have z0 : w.heap.size < wn.heap.size := by omega
  have z1 : w.heap.size + 1 < wn.heap.size := by omega
  have z2 : w.heap.size + 1 + 1 < wn.heap.size := by omega
  refine hK.out _ _ (⟨p0, p1, p2, p3, p4, p5, p6, p7, p8⟩) (fun hHeld => ?_)
  clear hK K
  try simp only [Act.put, List.setIfInBounds_toArray, List.set_cons_zero, List.set_cons_succ]
  first | (refine wpAnyH_take (i := 16) (v := ?_) (at_drop rfl) (by kernel_rfl) (by kernel_rfl) (by kernel_rfl) (fun _ _ _ h => h) (Or.inl ⟨by rfl, ?_⟩) (by assumption) ?_; rotate_left; focus ((intro w' hSw; (try dsimp only at hSw); go_simp) <;> with_reducible rfl)) | (refine wpAnyH_take (i := 16) (v := undef) (at_drop rfl) (by kernel_rfl) (by kernel_rfl) (by kernel_rfl) (fun _ _ _ h => h) (Or.inr ⟨by rfl, rfl⟩) (by assumption) ?_)
  try simp only [Act.put, List.setIfInBounds_toArray, List.set_cons_zero, List.set_cons_succ]
  first | (refine wpAnyH_take (i := 17) (v := ?_) (at_drop rfl) (by kernel_rfl) (by kernel_rfl) (by kernel_rfl) (fun _ _ _ h => h) (Or.inl ⟨by rfl, ?_⟩) (by assumption) ?_; rotate_left; focus ((intro w' hSw; (try dsimp only at hSw); go_simp) <;> with_reducible rfl)) | (refine wpAnyH_take (i := 17) (v := undef) (at_drop rfl) (by kernel_rfl) (by kernel_rfl) (by kernel_rfl) (fun _ _ _ h => h) (Or.inr ⟨by rfl, rfl⟩) (by assumption) ?_)
  try simp only [Act.put, List.setIfInBounds_toArray, List.set_cons_zero, List.set_cons_succ]
  first | (refine wpAnyH_take (i := 18) (v := ?_) (at_drop rfl) (by kernel_rfl) (by kernel_rfl) (by kernel_rfl) (fun _ _ _ h => h) (Or.inl ⟨by rfl, ?_⟩) (by assumption) ?_; rotate_left; focus ((intro w' hSw; (try dsimp only at hSw); go_simp) <;> with_reducible rfl)) | (refine wpAnyH_take (i := 18) (v := undef) (at_drop rfl) (by kernel_rfl) (by kernel_rfl) (by kernel_rfl) (fun _ _ _ h => h) (Or.inr ⟨by rfl, rfl⟩) (by assumption) ?_)
  try simp only [Act.put, List.setIfInBounds_toArray, List.set_cons_zero, List.set_cons_succ]
  first | (refine wpAnyH_take (i := 19) (v := ?_) (at_drop rfl) (by kernel_rfl) (by kernel_rfl) (by kernel_rfl) (fun _ _ _ h => h) (Or.inl ⟨by rfl, ?_⟩) (by assumption) ?_; rotate_left; focus ((intro w' hSw; (try dsimp only at hSw); go_simp) <;> with_reducible rfl)) | (refine wpAnyH_take (i := 19) (v := undef) (at_drop rfl) (by kernel_rfl) (by kernel_rfl) (by kernel_rfl) (fun _ _ _ h => h) (Or.inr ⟨by rfl, rfl⟩) (by assumption) ?_)
  try simp only [Act.put, List.setIfInBounds_toArray, List.set_cons_zero, List.set_cons_succ]
  first | (refine wpAnyH_take (i := 20) (v := ?_) (at_drop rfl) (by kernel_rfl) (by kernel_rfl) (by kernel_rfl) (fun _ _ _ h => h) (Or.inl ⟨by rfl, ?_⟩) (by assumption) ?_; rotate_left; focus ((intro w' hSw; (try dsimp only at hSw); go_simp) <;> with_reducible rfl)) | (refine wpAnyH_take (i := 20) (v := undef) (at_drop rfl) (by kernel_rfl) (by kernel_rfl) (by kernel_rfl) (fun _ _ _ h => h) (Or.inr ⟨by rfl, rfl⟩) (by assumption) ?_)
  try simp only [Act.put, List.setIfInBounds_toArray, List.set_cons_zero, List.set_cons_succ]
  first | (refine wpAnyH_take (i := 21) (v := ?_) (at_drop rfl) (by kernel_rfl) (by kernel_rfl) (by kernel_rfl) (fun _ _ _ h => h) (Or.inl ⟨by rfl, ?_⟩) (by assumption) ?_; rotate_left; focus ((intro w' hSw; (try dsimp only at hSw); go_simp) <;> with_reducible rfl)) | (refine wpAnyH_take (i := 21) (v := undef) (at_drop rfl) (by kernel_rfl) (by kernel_rfl) (by kernel_rfl) (fun _ _ _ h => h) (Or.inr ⟨by rfl, rfl⟩) (by assumption) ?_)
  try simp only [Act.put, List.setIfInBounds_toArray, List.set_cons_zero, List.set_cons_succ]
  first | (refine wpAnyH_take (i := 22) (v := ?_) (at_drop rfl) (by kernel_rfl) (by kernel_rfl) (by kernel_rfl) (fun _ _ _ h => h) (Or.inl ⟨by rfl, ?_⟩) (by assumption) ?_; rotate_left; focus ((intro w' hSw; (try dsimp only at hSw); go_simp) <;> with_reducible rfl)) | (refine wpAnyH_take (i := 22) (v := undef) (at_drop rfl) (by kernel_rfl) (by kernel_rfl) (by kernel_rfl) (fun _ _ _ h => h) (Or.inr ⟨by rfl, rfl⟩) (by assumption) ?_)
  try simp only [Act.put, List.setIfInBounds_toArray, List.set_cons_zero, List.set_cons_succ]
  first | (refine wpAnyH_take (i := 23) (v := ?_) (at_drop rfl) (by kernel_rfl) (by kernel_rfl) (by kernel_rfl) (fun _ _ _ h => h) (Or.inl ⟨by rfl, ?_⟩) (by assumption) ?_; rotate_left; focus ((intro w' hSw; (try dsimp only at hSw); go_simp) <;> with_reducible rfl)) | (refine wpAnyH_take (i := 23) (v := undef) (at_drop rfl) (by kernel_rfl) (by kernel_rfl) (by kernel_rfl) (fun _ _ _ h => h) (Or.inr ⟨by rfl, rfl⟩) (by assumption) ?_)
  try simp only [Act.put, List.setIfInBounds_toArray, List.set_cons_zero, List.set_cons_succ]
  first | (refine wpAnyH_take (i := 24) (v := ?_) (at_drop rfl) (by kernel_rfl) (by kernel_rfl) (by kernel_rfl) (fun _ _ _ h => h) (Or.inl ⟨by rfl, ?_⟩) (by assumption) ?_; rotate_left; focus ((intro w' hSw; (try dsimp only at hSw); go_simp) <;> with_reducible rfl)) | (refine wpAnyH_take (i := 24) (v := undef) (at_drop rfl) (by kernel_rfl) (by kernel_rfl) (by kernel_rfl) (fun _ _ _ h => h) (Or.inr ⟨by rfl, rfl⟩) (by assumption) ?_)
  try simp only [Act.put, List.setIfInBounds_toArray, List.set_cons_zero, List.set_cons_succ]
  first | (refine wpAnyH_take (i := 25) (v := ?_) (at_drop rfl) (by kernel_rfl) (by kernel_rfl) (by kernel_rfl) (fun _ _ _ h => h) (Or.inl ⟨by rfl, ?_⟩) (by assumption) ?_; rotate_left; focus ((intro w' hSw; (try dsimp only at hSw); go_simp) <;> with_reducible rfl)) | (refine wpAnyH_take (i := 25) (v := undef) (at_drop rfl) (by kernel_rfl) (by kernel_rfl) (by kernel_rfl) (fun _ _ _ h => h) (Or.inr ⟨by rfl, rfl⟩) (by assumption) ?_)
  try simp only [Act.put, List.setIfInBounds_toArray, List.set_cons_zero, List.set_cons_succ]
  first | (refine wpAnyH_take (i := 26) (v := ?_) (at_drop rfl) (by kernel_rfl) (by kernel_rfl) (by kernel_rfl) (fun _ _ _ h => h) (Or.inl ⟨by rfl, ?_⟩) (by assumption) ?_; rotate_left; focus ((intro w' hSw; (try dsimp only at hSw); go_simp) <;> with_reducible rfl)) | (refine wpAnyH_take (i := 26) (v := undef) (at_drop rfl) (by kernel_rfl) (by kernel_rfl) (by kernel_rfl) (fun _ _ _ h => h) (Or.inr ⟨by rfl, rfl⟩) (by assumption) ?_)
  try simp only [Act.put, List.setIfInBounds_toArray, List.set_cons_zero, List.set_cons_succ]
  first | (refine wpAnyH_take (i := 27) (v := ?_) (at_drop rfl) (by kernel_rfl) (by kernel_rfl) (by kernel_rfl) (fun _ _ _ h => h) (Or.inl ⟨by rfl, ?_⟩) (by assumption) ?_; rotate_left; focus ((intro w' hSw; (try dsimp only at hSw); go_simp) <;> with_reducible rfl)) | (refine wpAnyH_take (i := 27) (v := undef) (at_drop rfl) (by kernel_rfl) (by kernel_rfl) (by kernel_rfl) (fun _ _ _ h => h) (Or.inr ⟨by rfl, rfl⟩) (by assumption) ?_)
  try simp only [Act.put, List.setIfInBounds_toArray, List.set_cons_zero, List.set_cons_succ]
  first | (refine wpAnyH_take (i := 28) (v := ?_) (at_drop rfl) (by kernel_rfl) (by kernel_rfl) (by kernel_rfl) (fun _ _ _ h => h) (Or.inl ⟨by rfl, ?_⟩) (by assumption) ?_; rotate_left; focus ((intro w' hSw; (try dsimp only at hSw); go_simp) <;> with_reducible rfl)) | (refine wpAnyH_take (i := 28) (v := undef) (at_drop rfl) (by kernel_rfl) (by kernel_rfl) (by kernel_rfl) (fun _ _ _ h => h) (Or.inr ⟨by rfl, rfl⟩) (by assumption) ?_)
  try simp only [Act.put, List.setIfInBounds_toArray, List.set_cons_zero, List.set_cons_succ]
  first | (refine wpAnyH_take (i := 29) (v := ?_) (at_drop rfl) (by kernel_rfl) (by kernel_rfl) (by kernel_rfl) (fun _ _ _ h => h) (Or.inl ⟨by rfl, ?_⟩) (by assumption) ?_; rotate_left; focus ((intro w' hSw; (try dsimp only at hSw); go_simp) <;> with_reducible rfl)) | (refine wpAnyH_take (i := 29) (v := undef) (at_drop rfl) (by kernel_rfl) (by kernel_rfl) (by kernel_rfl) (fun _ _ _ h => h) (Or.inr ⟨by rfl, rfl⟩) (by assumption) ?_)
  try simp only [Act.put, List.setIfInBounds_toArray, List.set_cons_zero, List.set_cons_succ]
  refine wpAnyH_ready (rs := [30]) (by kernel_rfl) (by simp) ?_
  refine AllReadyH.cons (at_drop rfl) (fun K hK => ?_) AllReadyH.nil
  go_simp
  refine (H3.out _).mono ?_
  rintro e wn ⟨rfl, hB⟩
  (have HBn : Below w.heap.size w wn := below_lift (by (first | exact HB.out | exact HB.out.drew | exact HB.out.alloc HB.out.size _ | exact (HB.out.alloc HB.out.size _).drew | exact (HB.out.alloc HB.out.size _).alloc (Nat.le_trans HB.out.size (by simp)) _ | exact ((HB.out.alloc HB.out.size _).alloc (Nat.le_trans HB.out.size (by simp)) _).alloc (Nat.le_trans HB.out.size (by simp; omega)) _)) hB; obtain ⟨hc, hf⟩ := below_cell hB; have zz := hB.size; (try simp at zz); have HB := Lib.hid HBn; clear HBn hB)
  have p0 := (hc (w.heap.size) 0 (by first | omega | (simp; omega))).trans p0
  have p1 := (hc (w.heap.size) 1 (by first | omega | (simp; omega))).trans p1
  have p2 := (hc (w.heap.size) 2 (by first | omega | (simp; omega))).trans p2
  have p3 := (hc (w.heap.size + 1) 0 (by first | omega | (simp; omega))).trans p3
  have p4 := (hc (w.heap.size + 1) 1 (by first | omega | (simp; omega))).trans p4
  have p5 := (hc (w.heap.size + 1) 2 (by first | omega | (simp; omega))).trans p5
  have p6 := (hc (w.heap.size + 1 + 1) 0 (by first | omega | (simp; omega))).trans p6
  have p7 := (hc (w.heap.size + 1 + 1) 1 (by first | omega | (simp; omega))).trans p7
  have p8 := (hc (w.heap.size + 1 + 1) 2 (by first | omega | (simp; omega))).trans p8
  clear hc hf
  have z0 : w.heap.size < wn.heap.size := by omega
  have z1 : w.heap.size + 1 < wn.heap.size := by omega
  have z2 : w.heap.size + 1 + 1 < wn.heap.size := by omega
  refine hK.out _ _ (⟨p0, p1, p2, p3, p4, p5, p6, p7, p8⟩) (fun hHeld => ?_)
  clear hK K
  try simp only [Act.put, List.setIfInBounds_toArray, List.set_cons_zero, List.set_cons_succ]
  first | (refine wpAnyH_take (i := 31) (v := ?_) (at_drop rfl) (by kernel_rfl) (by kernel_rfl) (by kernel_rfl) (fun _ _ _ h => h) (Or.inl ⟨by rfl, ?_⟩) (by assumption) ?_; rotate_left; focus ((intro w' hSw; (try dsimp only at hSw); go_simp) <;> with_reducible rfl)) | (refine wpAnyH_take (i := 31) (v := undef) (at_drop rfl) (by kernel_rfl) (by kernel_rfl) (by kernel_rfl) (fun _ _ _ h => h) (Or.inr ⟨by rfl, rfl⟩) (by assumption) ?_)
  try simp only [Act.put, List.setIfInBounds_toArray, List.set_cons_zero, List.set_cons_succ]
  first | (refine wpAnyH_take (i := 32) (v := ?_) (at_drop rfl) (by kernel_rfl) (by kernel_rfl) (by kernel_rfl) (fun _ _ _ h => h) (Or.inl ⟨by rfl, ?_⟩) (by assumption) ?_; rotate_left; focus ((intro w' hSw; (try dsimp only at hSw); go_simp) <;> with_reducible rfl)) | (refine wpAnyH_take (i := 32) (v := undef) (at_drop rfl) (by kernel_rfl) (by kernel_rfl) (by kernel_rfl) (fun _ _ _ h => h) (Or.inr ⟨by rfl, rfl⟩) (by assumption) ?_)
  try simp only [Act.put, List.setIfInBounds_toArray, List.set_cons_zero, List.set_cons_succ]
  first | (refine wpAnyH_take (i := 33) (v := ?_) (at_drop rfl) (by kernel_rfl) (by kernel_rfl) (by kernel_rfl) (fun _ _ _ h => h) (Or.inl ⟨by rfl, ?_⟩) (by assumption) ?_; rotate_left; focus ((intro w' hSw; (try dsimp only at hSw); go_simp) <;> with_reducible rfl)) | (refine wpAnyH_take (i := 33) (v := undef) (at_drop rfl) (by kernel_rfl) (by kernel_rfl) (by kernel_rfl) (fun _ _ _ h => h) (Or.inr ⟨by rfl, rfl⟩) (by assumption) ?_)
  try simp only [Act.put, List.setIfInBounds_toArray, List.set_cons_zero, List.set_cons_succ]
  first | (refine wpAnyH_take (i := 34) (v := ?_) (at_drop rfl) (by kernel_rfl) (by kernel_rfl) (by kernel_rfl) (fun _ _ _ h => h) (Or.inl ⟨by rfl, ?_⟩) (by assumption) ?_; rotate_left; focus ((intro w' hSw; (try dsimp only at hSw); go_simp) <;> with_reducible rfl)) | (refine wpAnyH_take (i := 34) (v := undef) (at_drop rfl) (by kernel_rfl) (by kernel_rfl) (by kernel_rfl) (fun _ _ _ h => h) (Or.inr ⟨by rfl, rfl⟩) (by assumption) ?_)
  try simp only [Act.put, List.setIfInBounds_toArray, List.set_cons_zero, List.set_cons_succ]
  first | (refine wpAnyH_take (i := 35) (v := ?_) (at_drop rfl) (by kernel_rfl) (by kernel_rfl) (by kernel_rfl) (fun _ _ _ h => h) (Or.inl ⟨by rfl, ?_⟩) (by assumption) ?_; rotate_left; focus ((intro w' hSw; (try dsimp only at hSw); go_simp) <;> with_reducible rfl)) | (refine wpAnyH_take (i := 35) (v := undef) (at_drop rfl) (by kernel_rfl) (by kernel_rfl) (by kernel_rfl) (fun _ _ _ h => h) (Or.inr ⟨by rfl, rfl⟩) (by assumption) ?_)
  try simp only [Act.put, List.setIfInBounds_toArray, List.set_cons_zero, List.set_cons_succ]
  refine wpAnyH_ready (rs := [36]) (by kernel_rfl) (by simp) ?_
  refine AllReadyH.cons (at_drop rfl) (fun K hK => ?_) AllReadyH.nil
  go_simp
  refine (H4.out _).mono ?_
  rintro e wn ⟨rfl, hB⟩
  (have HBn : Below w.heap.size w wn := below_lift (by (first | exact HB.out | exact HB.out.drew | exact HB.out.alloc HB.out.size _ | exact (HB.out.alloc HB.out.size _).drew | exact (HB.out.alloc HB.out.size _).alloc (Nat.le_trans HB.out.size (by simp)) _ | exact ((HB.out.alloc HB.out.size _).alloc (Nat.le_trans HB.out.size (by simp)) _).alloc (Nat.le_trans HB.out.size (by simp; omega)) _)) hB; obtain ⟨hc, hf⟩ := below_cell hB; have zz := hB.size; (try simp at zz); have HB := Lib.hid HBn; clear HBn hB)
  have p0 := (hc (w.heap.size) 0 (by first | omega | (simp; omega))).trans p0
  have p1 := (hc (w.heap.size) 1 (by first | omega | (simp; omega))).trans p1
  have p2 := (hc (w.heap.size) 2 (by first | omega | (simp; omega))).trans p2
  have p3 := (hc (w.heap.size + 1) 0 (by first | omega | (simp; omega))).trans p3
  have p4 := (hc (w.heap.size + 1) 1 (by first | omega | (simp; omega))).trans p4
  have p5 := (hc (w.heap.size + 1) 2 (by first | omega | (simp; omega))).trans p5
  have p6 := (hc (w.heap.size + 1 + 1) 0 (by first | omega | (simp; omega))).trans p6
  have p7 := (hc (w.heap.size + 1 + 1) 1 (by first | omega | (simp; omega))).trans p7
  have p8 := (hc (w.heap.size + 1 + 1) 2 (by first | omega | (simp; omega))).trans p8
  clear hc hf
  have z0 : w.heap.size < wn.heap.size := by omega
  have z1 : w.heap.size + 1 < wn.heap.size := by omega
  have z2 : w.heap.size + 1 + 1 < wn.heap.size := by omega
  refine hK.out _ _ (⟨p0, p1, p2, p3, p4, p5, p6, p7, p8⟩) (fun hHeld => ?_)
  clear hK K
  try simp only [Act.put, List.setIfInBounds_toArray, List.set_cons_zero, List.set_cons_succ]
  first | (refine wpAnyH_take (i := 37) (v := ?_) (at_drop rfl) (by kernel_rfl) (by kernel_rfl) (by kernel_rfl) (fun _ _ _ h => h) (Or.inl ⟨by rfl, ?_⟩) (by assumption) ?_; rotate_left; focus ((intro w' hSw; (try dsimp only at hSw); go_simp) <;> with_reducible rfl)) | (refine wpAnyH_take (i := 37) (v := undef) (at_drop rfl) (by kernel_rfl) (by kernel_rfl) (by kernel_rfl) (fun _ _ _ h => h) (Or.inr ⟨by rfl, rfl⟩) (by assumption) ?_)
  try simp only [Act.put, List.setIfInBounds_toArray, List.set_cons_zero, List.set_cons_succ]
  first | (refine wpAnyH_take (i := 38) (v := ?_) (at_drop rfl) (by kernel_rfl) (by kernel_rfl) (by kernel_rfl) (fun _ _ _ h => h) (Or.inl ⟨by rfl, ?_⟩) (by assumption) ?_; rotate_left; focus ((intro w' hSw; (try dsimp only at hSw); go_simp) <;> with_reducible rfl)) | (refine wpAnyH_take (i := 38) (v := undef) (at_drop rfl) (by kernel_rfl) (by kernel_rfl) (by kernel_rfl) (fun _ _ _ h => h) (Or.inr ⟨by rfl, rfl⟩) (by assumption) ?_)
  try simp only [Act.put, List.setIfInBounds_toArray, List.set_cons_zero, List.set_cons_succ]
  first | (refine wpAnyH_take (i := 39) (v := ?_) (at_drop rfl) (by kernel_rfl) (by kernel_rfl) (by kernel_rfl) (fun _ _ _ h => h) (Or.inl ⟨by rfl, ?_⟩) (by assumption) ?_; rotate_left; focus ((intro w' hSw; (try dsimp only at hSw); go_simp) <;> with_reducible rfl)) | (refine wpAnyH_take (i := 39) (v := undef) (at_drop rfl) (by kernel_rfl) (by kernel_rfl) (by kernel_rfl) (fun _ _ _ h => h) (Or.inr ⟨by rfl, rfl⟩) (by assumption) ?_)
  try simp only [Act.put, List.setIfInBounds_toArray, List.set_cons_zero, List.set_cons_succ]
  first | (refine wpAnyH_take (i := 40) (v := ?_) (at_drop rfl) (by kernel_rfl) (by kernel_rfl) (by kernel_rfl) (fun _ _ _ h => h) (Or.inl ⟨by rfl, ?_⟩) (by assumption) ?_; rotate_left; focus ((intro w' hSw; (try dsimp only at hSw); go_simp) <;> with_reducible rfl)) | (refine wpAnyH_take (i := 40) (v := undef) (at_drop rfl) (by kernel_rfl) (by kernel_rfl) (by kernel_rfl) (fun _ _ _ h => h) (Or.inr ⟨by rfl, rfl⟩) (by assumption) ?_)
  try simp only [Act.put, List.setIfInBounds_toArray, List.set_cons_zero, List.set_cons_succ]
  refine wpAnyH_ready (rs := [41]) (by kernel_rfl) (by simp) ?_
  refine AllReadyH.cons (at_drop rfl) (fun K hK => ?_) AllReadyH.nil
  go_simp
  refine (H5.out _).mono ?_
  rintro e wn ⟨rfl, hB⟩
  (have HBn : Below w.heap.size w wn := below_lift (by (first | exact HB.out | exact HB.out.drew | exact HB.out.alloc HB.out.size _ | exact (HB.out.alloc HB.out.size _).drew | exact (HB.out.alloc HB.out.size _).alloc (Nat.le_trans HB.out.size (by simp)) _ | exact ((HB.out.alloc HB.out.size _).alloc (Nat.le_trans HB.out.size (by simp)) _).alloc (Nat.le_trans HB.out.size (by simp; omega)) _)) hB; obtain ⟨hc, hf⟩ := below_cell hB; have zz := hB.size; (try simp at zz); have HB := Lib.hid HBn; clear HBn hB)
  have p0 := (hc (w.heap.size) 0 (by first | omega | (simp; omega))).trans p0
  have p1 := (hc (w.heap.size) 1 (by first | omega | (simp; omega))).trans p1
  have p2 := (hc (w.heap.size) 2 (by first | omega | (simp; omega))).trans p2
  have p3 := (hc (w.heap.size + 1) 0 (by first | omega | (simp; omega))).trans p3
  have p4 := (hc (w.heap.size + 1) 1 (by first | omega | (simp; omega))).trans p4
  have p5 := (hc (w.heap.size + 1) 2 (by first | omega | (simp; omega))).trans p5
  have p6 := (hc (w.heap.size + 1 + 1) 0 (by first | omega | (simp; omega))).trans p6
  have p7 := (hc (w.heap.size + 1 + 1) 1 (by first | omega | (simp; omega))).trans p7
  have p8 := (hc (w.heap.size + 1 + 1) 2 (by first | omega | (simp; omega))).trans p8
  clear hc hf
  have z0 : w.heap.size < wn.heap.size := by omega
  have z1 : w.heap.size + 1 < wn.heap.size := by omega
  have z2 : w.heap.size + 1 + 1 < wn.heap.size := by omega
  refine hK.out _ _ (⟨p0, p1, p2, p3, p4, p5, p6, p7, p8⟩) (fun hHeld => ?_)
  clear hK K
  try simp only [Act.put, List.setIfInBounds_toArray, List.set_cons_zero, List.set_cons_succ]
  first | (refine wpAnyH_take (i := 42) (v := ?_) (at_drop rfl) (by kernel_rfl) (by kernel_rfl) (by kernel_rfl) (fun _ _ _ h => h) (Or.inl ⟨by rfl, ?_⟩) (by assumption) ?_; rotate_left; focus ((intro w' hSw; (try dsimp only at hSw); go_simp) <;> with_reducible rfl)) | (refine wpAnyH_take (i := 42) (v := undef) (at_drop rfl) (by kernel_rfl) (by kernel_rfl) (by kernel_rfl) (fun _ _ _ h => h) (Or.inr ⟨by rfl, rfl⟩) (by assumption) ?_)
  try simp only [Act.put, List.setIfInBounds_toArray, List.set_cons_zero, List.set_cons_succ]
  first | (refine wpAnyH_take (i := 43) (v := ?_) (at_drop rfl) (by kernel_rfl) (by kernel_rfl) (by kernel_rfl) (fun _ _ _ h => h) (Or.inl ⟨by rfl, ?_⟩) (by assumption) ?_; rotate_left; focus ((intro w' hSw; (try dsimp only at hSw); go_simp) <;> with_reducible rfl)) | (refine wpAnyH_take (i := 43) (v := undef) (at_drop rfl) (by kernel_rfl) (by kernel_rfl) (by kernel_rfl) (fun _ _ _ h => h) (Or.inr ⟨by rfl, rfl⟩) (by assumption) ?_)
  try simp only [Act.put, List.setIfInBounds_toArray, List.set_cons_zero, List.set_cons_succ]
  first | (refine wpAnyH_take (i := 45) (v := ?_) (at_drop rfl) (by kernel_rfl) (by kernel_rfl) (by kernel_rfl) (fun _ _ _ h => h) (Or.inl ⟨by rfl, ?_⟩) (by assumption) ?_; rotate_left; focus ((intro w' hSw; (try dsimp only at hSw); go_simp) <;> with_reducible rfl)) | (refine wpAnyH_take (i := 45) (v := undef) (at_drop rfl) (by kernel_rfl) (by kernel_rfl) (by kernel_rfl) (fun _ _ _ h => h) (Or.inr ⟨by rfl, rfl⟩) (by assumption) ?_)
  try simp only [Act.put, List.setIfInBounds_toArray, List.set_cons_zero, List.set_cons_succ]
  refine wpAnyH_ready (rs := [44]) (by kernel_rfl) (by simp) ?_
  refine AllReadyH.cons (at_drop rfl) (fun K hK => ?_) AllReadyH.nil
  go_simp
  refine (H6.out _).mono ?_
  rintro e wn ⟨rfl, hB⟩
  (have HBn : Below w.heap.size w wn := below_lift (by (first | exact HB.out | exact HB.out.drew | exact HB.out.alloc HB.out.size _ | exact (HB.out.alloc HB.out.size _).drew | exact (HB.out.alloc HB.out.size _).alloc (Nat.le_trans HB.out.size (by simp)) _ | exact ((HB.out.alloc HB.out.size _).alloc (Nat.le_trans HB.out.size (by simp)) _).alloc (Nat.le_trans HB.out.size (by simp; omega)) _)) hB; obtain ⟨hc, hf⟩ := below_cell hB; have zz := hB.size; (try simp at zz); have HB := Lib.hid HBn; clear HBn hB)
  have p0 := (hc (w.heap.size) 0 (by first | omega | (simp; omega))).trans p0
  have p1 := (hc (w.heap.size) 1 (by first | omega | (simp; omega))).trans p1
  have p2 := (hc (w.heap.size) 2 (by first | omega | (simp; omega))).trans p2
  have p3 := (hc (w.heap.size + 1) 0 (by first | omega | (simp; omega))).trans p3
  have p4 := (hc (w.heap.size + 1) 1 (by first | omega | (simp; omega))).trans p4
  have p5 := (hc (w.heap.size + 1) 2 (by first | omega | (simp; omega))).trans p5
  have p6 := (hc (w.heap.size + 1 + 1) 0 (by first | omega | (simp; omega))).trans p6
  have p7 := (hc (w.heap.size + 1 + 1) 1 (by first | omega | (simp; omega))).trans p7
  have p8 := (hc (w.heap.size + 1 + 1) 2 (by first | omega | (simp; omega))).trans p8
  clear hc hf
  have z0 : w.heap.size < wn.heap.size := by omega
  have z1 : w.heap.size + 1 < wn.heap.size := by omega
  have z2 : w.heap.size + 1 + 1 < wn.heap.size := by omega
  refine hK.out _ _ (⟨p0, p1, p2, p3, p4, p5, p6, p7, p8⟩) (fun hHeld => ?_)
  clear hK K
  try simp only [Act.put, List.setIfInBounds_toArray, List.set_cons_zero, List.set_cons_succ]
  refine wpAnyH_ready (rs := [46]) (by kernel_rfl) (by simp) ?_
  refine AllReadyH.cons (at_drop rfl) (fun K hK => ?_) AllReadyH.nil
  go_simp
  refine (H7.out _).mono ?_
  rintro e wn ⟨rfl, hB⟩
  (have HBn : Below w.heap.size w wn := below_lift (by (first | exact HB.out | exact HB.out.drew | exact HB.out.alloc HB.out.size _ | exact (HB.out.alloc HB.out.size _).drew | exact (HB.out.alloc HB.out.size _).alloc (Nat.le_trans HB.out.size (by simp)) _ | exact ((HB.out.alloc HB.out.size _).alloc (Nat.le_trans HB.out.size (by simp)) _).alloc (Nat.le_trans HB.out.size (by simp; omega)) _)) hB; obtain ⟨hc, hf⟩ := below_cell hB; have zz := hB.size; (try simp at zz); have HB := Lib.hid HBn; clear HBn hB)
  have p0 := (hc (w.heap.size) 0 (by first | omega | (simp; omega))).trans p0
  have p1 := (hc (w.heap.size) 1 (by first | omega | (simp; omega))).trans p1
  have p2 := (hc (w.heap.size) 2 (by first | omega | (simp; omega))).trans p2
  have p3 := (hc (w.heap.size + 1) 0 (by first | omega | (simp; omega))).trans p3
  have p4 := (hc (w.heap.size + 1) 1 (by first | omega | (simp; omega))).trans p4
  have p5 := (hc (w.heap.size + 1) 2 (by first | omega | (simp; omega))).trans p5
  have p6 := (hc (w.heap.size + 1 + 1) 0 (by first | omega | (simp; omega))).trans p6
  have p7 := (hc (w.heap.size + 1 + 1) 1 (by first | omega | (simp; omega))).trans p7
  have p8 := (hc (w.heap.size + 1 + 1) 2 (by first | omega | (simp; omega))).trans p8
  clear hc hf
  have z0 : w.heap.size < wn.heap.size := by omega
  have z1 : w.heap.size + 1 < wn.heap.size := by omega
  have z2 : w.heap.size + 1 + 1 < wn.heap.size := by omega
  refine hK.out _ _ (⟨p0, p1, p2, p3, p4, p5, p6, p7, p8⟩) (fun hHeld => ?_)
  clear hK K
  try simp only [Act.put, List.setIfInBounds_toArray, List.set_cons_zero, List.set_cons_succ]
  first | (refine wpAnyH_take (i := 47) (v := ?_) (at_drop rfl) (by kernel_rfl) (by kernel_rfl) (by kernel_rfl) (fun _ _ _ h => h) (Or.inl ⟨by rfl, ?_⟩) (by assumption) ?_; rotate_left; focus ((intro w' hSw; (try dsimp only at hSw); go_simp) <;> with_reducible rfl)) | (refine wpAnyH_take (i := 47) (v := undef) (at_drop rfl) (by kernel_rfl) (by kernel_rfl) (by kernel_rfl) (fun _ _ _ h => h) (Or.inr ⟨by rfl, rfl⟩) (by assumption) ?_)
  try simp only [Act.put, List.setIfInBounds_toArray, List.set_cons_zero, List.set_cons_succ]
  first | (refine wpAnyH_take (i := 48) (v := ?_) (at_drop rfl) (by kernel_rfl) (by kernel_rfl) (by kernel_rfl) (fun _ _ _ h => h) (Or.inl ⟨by rfl, ?_⟩) (by assumption) ?_; rotate_left; focus ((intro w' hSw; (try dsimp only at hSw); go_simp) <;> with_reducible rfl)) | (refine wpAnyH_take (i := 48) (v := undef) (at_drop rfl) (by kernel_rfl) (by kernel_rfl) (by kernel_rfl) (fun _ _ _ h => h) (Or.inr ⟨by rfl, rfl⟩) (by assumption) ?_)
  try simp only [Act.put, List.setIfInBounds_toArray, List.set_cons_zero, List.set_cons_succ]
  refine wpAnyH_ready (rs := [49]) (by kernel_rfl) (by simp) ?_
  refine AllReadyH.cons (at_drop rfl) (fun K hK => ?_) AllReadyH.nil
  go_simp
  refine (H8.out _).mono ?_
  rintro e wn ⟨rfl, hB⟩
  (have HBn : Below w.heap.size w wn := below_lift (by (first | exact HB.out | exact HB.out.drew | exact HB.out.alloc HB.out.size _ | exact (HB.out.alloc HB.out.size _).drew | exact (HB.out.alloc HB.out.size _).alloc (Nat.le_trans HB.out.size (by simp)) _ | exact ((HB.out.alloc HB.out.size _).alloc (Nat.le_trans HB.out.size (by simp)) _).alloc (Nat.le_trans HB.out.size (by simp; omega)) _)) hB; obtain ⟨hc, hf⟩ := below_cell hB; have zz := hB.size; (try simp at zz); have HB := Lib.hid HBn; clear HBn hB)
  have p0 := (hc (w.heap.size) 0 (by first | omega | (simp; omega))).trans p0
  have p1 := (hc (w.heap.size) 1 (by first | omega | (simp; omega))).trans p1
  have p2 := (hc (w.heap.size) 2 (by first | omega | (simp; omega))).trans p2
  have p3 := (hc (w.heap.size + 1) 0 (by first | omega | (simp; omega))).trans p3
  have p4 := (hc (w.heap.size + 1) 1 (by first | omega | (simp; omega))).trans p4
  have p5 := (hc (w.heap.size + 1) 2 (by first | omega | (simp; omega))).trans p5
  have p6 := (hc (w.heap.size + 1 + 1) 0 (by first | omega | (simp; omega))).trans p6
  have p7 := (hc (w.heap.size + 1 + 1) 1 (by first | omega | (simp; omega))).trans p7
  have p8 := (hc (w.heap.size + 1 + 1) 2 (by first | omega | (simp; omega))).trans p8
  clear hc hf
  have z0 : w.heap.size < wn.heap.size := by omega
  have z1 : w.heap.size + 1 < wn.heap.size := by omega
  have z2 : w.heap.size + 1 + 1 < wn.heap.size := by omega
  refine hK.out _ _ (⟨p0, p1, p2, p3, p4, p5, p6, p7, p8⟩) (fun hHeld => ?_)
  clear hK K
  try simp only [Act.put, List.setIfInBounds_toArray, List.set_cons_zero, List.set_cons_succ]
  refine wpAnyH_ready (rs := [50]) (by kernel_rfl) (by simp) ?_
  refine AllReadyH.cons (at_drop rfl) (fun K hK => ?_) AllReadyH.nil
  go_simp
  refine (H9.out _).mono ?_
  rintro e wn ⟨rfl, hB⟩
  (have HBn : Below w.heap.size w wn := below_lift (by (first | exact HB.out | exact HB.out.drew | exact HB.out.alloc HB.out.size _ | exact (HB.out.alloc HB.out.size _).drew | exact (HB.out.alloc HB.out.size _).alloc (Nat.le_trans HB.out.size (by simp)) _ | exact ((HB.out.alloc HB.out.size _).alloc (Nat.le_trans HB.out.size (by simp)) _).alloc (Nat.le_trans HB.out.size (by simp; omega)) _)) hB; obtain ⟨hc, hf⟩ := below_cell hB; have zz := hB.size; (try simp at zz); have HB := Lib.hid HBn; clear HBn hB)
  have p0 := (hc (w.heap.size) 0 (by first | omega | (simp; omega))).trans p0
  have p1 := (hc (w.heap.size) 1 (by first | omega | (simp; omega))).trans p1
  have p2 := (hc (w.heap.size) 2 (by first | omega | (simp; omega))).trans p2
  have p3 := (hc (w.heap.size + 1) 0 (by first | omega | (simp; omega))).trans p3
  have p4 := (hc (w.heap.size + 1) 1 (by first | omega | (simp; omega))).trans p4
  have p5 := (hc (w.heap.size + 1) 2 (by first | omega | (simp; omega))).trans p5
  have p6 := (hc (w.heap.size + 1 + 1) 0 (by first | omega | (simp; omega))).trans p6
  have p7 := (hc (w.heap.size + 1 + 1) 1 (by first | omega | (simp; omega))).trans p7
  have p8 := (hc (w.heap.size + 1 + 1) 2 (by first | omega | (simp; omega))).trans p8
  clear hc hf
  have z0 : w.heap.size < wn.heap.size := by omega
  have z1 : w.heap.size + 1 < wn.heap.size := by omega
  have z2 : w.heap.size + 1 + 1 < wn.heap.size := by omega
  refine hK.out _ _ (⟨p0, p1, p2, p3, p4, p5, p6, p7, p8⟩) (fun hHeld => ?_)
  clear hK K
  try simp only [Act.put, List.setIfInBounds_toArray, List.set_cons_zero, List.set_cons_succ]
  first | (refine wpAnyH_take (i := 51) (v := ?_) (at_drop rfl) (by kernel_rfl) (by kernel_rfl) (by kernel_rfl) (fun _ _ _ h => h) (Or.inl ⟨by rfl, ?_⟩) (by assumption) ?_; rotate_left; focus ((intro w' hSw; (try dsimp only at hSw); go_simp) <;> with_reducible rfl)) | (refine wpAnyH_take (i := 51) (v := undef) (at_drop rfl) (by kernel_rfl) (by kernel_rfl) (by kernel_rfl) (fun _ _ _ h => h) (Or.inr ⟨by rfl, rfl⟩) (by assumption) ?_)
  try simp only [Act.put, List.setIfInBounds_toArray, List.set_cons_zero, List.set_cons_succ]
  first | (refine wpAnyH_take (i := 52) (v := ?_) (at_drop rfl) (by kernel_rfl) (by kernel_rfl) (by kernel_rfl) (fun _ _ _ h => h) (Or.inl ⟨by rfl, ?_⟩) (by assumption) ?_; rotate_left; focus ((intro w' hSw; (try dsimp only at hSw); go_simp) <;> with_reducible rfl)) | (refine wpAnyH_take (i := 52) (v := undef) (at_drop rfl) (by kernel_rfl) (by kernel_rfl) (by kernel_rfl) (fun _ _ _ h => h) (Or.inr ⟨by rfl, rfl⟩) (by assumption) ?_)
  try simp only [Act.put, List.setIfInBounds_toArray, List.set_cons_zero, List.set_cons_succ]
  first | (refine wpAnyH_take (i := 53) (v := ?_) (at_drop rfl) (by kernel_rfl) (by kernel_rfl) (by kernel_rfl) (fun _ _ _ h => h) (Or.inl ⟨by rfl, ?_⟩) (by assumption) ?_; rotate_left; focus ((intro w' hSw; (try dsimp only at hSw); go_simp) <;> with_reducible rfl)) | (refine wpAnyH_take (i := 53) (v := undef) (at_drop rfl) (by kernel_rfl) (by kernel_rfl) (by kernel_rfl) (fun _ _ _ h => h) (Or.inr ⟨by rfl, rfl⟩) (by assumption) ?_)
  try simp only [Act.put, List.setIfInBounds_toArray, List.set_cons_zero, List.set_cons_succ]
  first | (refine wpAnyH_take (i := 54) (v := ?_) (at_drop rfl) (by kernel_rfl) (by kernel_rfl) (by kernel_rfl) (fun _ _ _ h => h) (Or.inl ⟨by rfl, ?_⟩) (by assumption) ?_; rotate_left; focus ((intro w' hSw; (try dsimp only at hSw); go_simp) <;> with_reducible rfl)) | (refine wpAnyH_take (i := 54) (v := undef) (at_drop rfl) (by kernel_rfl) (by kernel_rfl) (by kernel_rfl) (fun _ _ _ h => h) (Or.inr ⟨by rfl, rfl⟩) (by assumption) ?_)
  try simp only [Act.put, List.setIfInBounds_toArray, List.set_cons_zero, List.set_cons_succ]
  refine wpAnyH_done (by kernel_rfl) ?_ _
  go_wp2_with fail
  go_ret
  exact ⟨rfl, HB.out⟩

end Go.Proofs.YtapgeagmdiphgaaDoor
