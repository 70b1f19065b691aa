/-
  THE WALKS OF PACKAGE label, part four: Meet (printed from Join's walk).
-/
import Derived.Test.YtapgeagmdiphgaaDoorLabC
namespace Go.Proofs.YtapgeagmdiphgaaDoor
open Go.RowKit

attribute [local go_sem] u_and u_or u_andNot u_add u_sub u_bit u_eq_zero u_beq

theorem meets_any (w : World) :
    Calls Tryd.prog 33 #[] w fun e w' => e = .returned (.agg #[.func (.func 42) #[] #[], .func (.func 41) #[] #[], .func (.func 46) #[] #[]]) ∧ Below w.heap.size w w' := by
  go_enter Tryd.func33, Tryd.ntmps33
  go_wp2
  go_returns
  exact ⟨rfl, (Below.refl _ _).alloc (Nat.le_refl _) _⟩

set_option maxRecDepth 100000 in
set_option maxHeartbeats 4000000 in
theorem Meet_ok (a b : Lab) (w : World) (ha : okL a = true) (hb : okL b = true) :
    Calls Tryd.prog 15 #[.agg #[.int .i64 a.lv, .int .u64 (u a.c), .int .i64 a.ig], .agg #[.int .i64 b.lv, .int .u64 (u b.c), .int .i64 b.ig]] w
      fun e w' => e = .returned (.tuple #[.agg #[.int .i64 (min a.lv b.lv), .int .u64 (u (a.c &&& b.c)), .int .i64 (max a.ig b.ig)], .int .i64 0]) ∧ Below w.heap.size w w' := by
  have hbx := boxes_new w a b
  go_enter Tryd.func15, Tryd.ntmps15
  go_upto_region 1 with fail
  generalize (((w.alloc (.cells #[.int .i64 a.lv, .int .u64 (u a.c), .int .i64 a.ig] 24)).alloc (.cells #[.int .i64 b.lv, .int .u64 (u b.c), .int .i64 b.ig] 24)).alloc (.cells #[.int .i64 0, .int .u64 0, .int .i64 0] 24)) = W0 at *
  obtain ⟨a0, a1, a2, b0, b1, b2, hP, hsz⟩ := hbx
  have HP := Lib.hid hP
  clear hP
  go_cut [6, 7] (fun s6 s7 wx => ∃ g : Nat, s6 = .pointer (some ⟨g, 0, none⟩) ∧ s7 = .nilIface ∧ Joined w wx g (min a.lv b.lv) (u (a.c &&& b.c)) (max a.ig b.ig))
  case first =>
    have HSZ := Lib.hid hsz
    have s0 : w.heap.size < W0.heap.size := by omega
    have s1 : w.heap.size + 1 < W0.heap.size := by omega
    have s2 : w.heap.size + 1 + 1 < W0.heap.size := by omega
    clear hsz
    go_region_held3 (fun w' => w'.cell? ⟨w.heap.size, 0, none⟩ = some (.int .i64 a.lv) ∧ w'.cell? ⟨w.heap.size, 1, none⟩ = some (.int .u64 (u a.c)) ∧ w'.cell? ⟨w.heap.size, 2, none⟩ = some (.int .i64 a.ig) ∧
        w'.cell? ⟨w.heap.size + 1, 0, none⟩ = some (.int .i64 b.lv) ∧ w'.cell? ⟨w.heap.size + 1, 1, none⟩ = some (.int .u64 (u b.c)) ∧ w'.cell? ⟨w.heap.size + 1, 2, none⟩ = some (.int .i64 b.ig))
      ((try dsimp only) <;> (repeat' apply And.intro) <;> (repeat (first | rw [World.cell?_drew] | rw [World.cell?_setCell_far _ _ _ _ (by dsimp only; omega)] | rw [World.cell?_alloc_lt _ _ _ (by dsimp only; omega)] | rw [hc2 _ _ (by first | omega | (simp; omega))] | rw [hc1 _ _ (by first | omega | (simp; omega))])) <;> assumption)
      (first
      | (go_at_call 33; refine (meets_any _).mono ?_; rintro e w1 ⟨rfl, hB1⟩; obtain ⟨hc1, hf1⟩ := below_cell hB1; have HB1 := Lib.hid hB1; clear hB1; have z := HB1.out.size; (try simp at z); have z0 : w.heap.size < w1.heap.size := (by omega); have z1 : w.heap.size + 1 < w1.heap.size := (by omega); have z2 : w.heap.size + 1 + 1 < w1.heap.size := (by omega); try (have z3 : W0.heap.size < w1.heap.size := (by omega)))
      | (go_at_call 29; refine (of_meets a b _ ha hb).mono ?_; rintro e w2 ⟨rfl, hB2⟩; obtain ⟨hc2, hf2⟩ := below_cell hB2; have HB2 := Lib.hid hB2; clear hB2; have y := HB2.out.size; (try simp at y); have y0 : w.heap.size < w2.heap.size := (by omega); have y1 : w.heap.size + 1 < w2.heap.size := (by omega); have y2 : w.heap.size + 1 + 1 < w2.heap.size := (by omega)))
    all_goals (go_wp2_with fail; go_meet; refine ⟨_, rfl, rfl, ?_⟩)
    all_goals (first
      | exact join_last HP.out HB1.out HB2.out _ _ _ _
      | exact join_mid HP.out HB1.out _ HB2.out _ _ _
      | exact join_first HP.out _ HB1.out HB2.out _ _ _)
  case rest =>
    obtain ⟨g, rfl, rfl, c0, c1, c2, ⟨r0, r1, r2, f0, f1, f2, hB, hgt⟩, hne, hlt⟩ := hcut
    have HB := Lib.hid hB
    clear hB HP hsz
    have hr : w.heap.size < w.heap.size + 1 + 1 := by omega
    generalize w.heap.size + 1 + 1 = rb at *
    go_wp2_with fail
    go_region_held3 (fun w' => w'.cell? ⟨g, 0, none⟩ = some (.int .i64 (min a.lv b.lv)) ∧ w'.cell? ⟨g, 1, none⟩ = some (.int .u64 (u (a.c &&& b.c))) ∧ w'.cell? ⟨g, 2, none⟩ = some (.int .i64 (max a.ig b.ig)))
      ((try dsimp only) <;> (repeat' apply And.intro) <;> (repeat (first | rw [World.cell?_drew] | rw [World.cell?_setCell_far _ _ _ _ (by dsimp only; omega)] | rw [World.cell?_alloc_lt _ _ _ (by dsimp only; omega)] | rw [hc2 _ _ (by first | omega | (simp; omega))] | rw [hc1 _ _ (by first | omega | (simp; omega))])) <;> assumption)
      (first
      | (go_at_call 30; refine (told_nil _).mono ?_; rintro e w2 ⟨rfl, hB2⟩; obtain ⟨hc2, hf2⟩ := below_cell hB2; have HB2 := Lib.hid hB2; clear hB2; have y := HB2.out.size; (try simp at y); have y0 : g < w2.heap.size := (by omega); have y1 : rb < w2.heap.size := (by omega);
          have q0 := (hc2 rb 0 (by simpa using hgt)).trans r0; have q1 := (hc2 rb 1 (by simpa using hgt)).trans r1; have q2 := (hc2 rb 2 (by simpa using hgt)).trans r2; have p0 := (hf2 rb 0 (by simpa using hgt)).trans f0; have p1 := (hf2 rb 1 (by simpa using hgt)).trans f1; have p2 := (hf2 rb 2 (by simpa using hgt)).trans f2))
    all_goals (go_wp2_with fail)
    obtain ⟨k0, k1, k2⟩ := set3_cells q0 q1 q2 (.int .i64 (min a.lv b.lv)) (.int .u64 (u (a.c &&& b.c))) (.int .i64 (max a.ig b.ig))
    have hB2 := set3_below HB.out HB2.out hr (.int .i64 (min a.lv b.lv)) (.int .u64 (u (a.c &&& b.c))) (.int .i64 (max a.ig b.ig))
    refine bodyPost_ret (v := .tuple #[.agg #[.int .i64 (min a.lv b.lv), .int .u64 (u (a.c &&& b.c)), .int .i64 (max a.ig b.ig)], .int .i64 0]) (by simp [results, Tryd.results15, go_sem, k0, k1, k2]) rfl ⟨rfl, hB2⟩
set_option maxRecDepth 100000 in
set_option maxHeartbeats 4000000 in
theorem Meet_bad (a b : Lab) (w : World) (hh : ∀ w', Below w.heap.size w w' → Handle w') (h : ¬ (okL a = true ∧ okL b = true)) :
    Calls Tryd.prog 15 #[.agg #[.int .i64 a.lv, .int .u64 (u a.c), .int .i64 a.ig], .agg #[.int .i64 b.lv, .int .u64 (u b.c), .int .i64 b.ig]] w
      fun e w' => e = .returned (.tuple #[.agg #[.int .i64 0, .int .u64 0, .int .i64 0], .int .i64 20]) ∧ Below w.heap.size w w' := by
  have hbx := boxes_new w a b
  go_enter Tryd.func15, Tryd.ntmps15
  go_upto_region 1 with fail
  generalize (((w.alloc (.cells #[.int .i64 a.lv, .int .u64 (u a.c), .int .i64 a.ig] 24)).alloc (.cells #[.int .i64 b.lv, .int .u64 (u b.c), .int .i64 b.ig] 24)).alloc (.cells #[.int .i64 0, .int .u64 0, .int .i64 0] 24)) = W0 at *
  obtain ⟨a0, a1, a2, b0, b1, b2, hP, hsz⟩ := hbx
  have HP := Lib.hid hP
  clear hP
  go_cut [6, 7] (fun s6 s7 wx => ∃ g : Nat, s6 = .pointer (some ⟨g, 0, none⟩) ∧ (∃ x : Lab, s7 = .iface 57 (.agg #[.int .i64 x.lv, .int .u64 (u x.c), .int .i64 x.ig])) ∧ Joined w wx g 0 0 0)
  case first =>
    have HSZ := Lib.hid hsz
    have s0 : w.heap.size < W0.heap.size := by omega
    have s1 : w.heap.size + 1 < W0.heap.size := by omega
    have s2 : w.heap.size + 1 + 1 < W0.heap.size := by omega
    clear hsz
    go_region_held3 (fun w' => w'.cell? ⟨w.heap.size, 0, none⟩ = some (.int .i64 a.lv) ∧ w'.cell? ⟨w.heap.size, 1, none⟩ = some (.int .u64 (u a.c)) ∧ w'.cell? ⟨w.heap.size, 2, none⟩ = some (.int .i64 a.ig) ∧
        w'.cell? ⟨w.heap.size + 1, 0, none⟩ = some (.int .i64 b.lv) ∧ w'.cell? ⟨w.heap.size + 1, 1, none⟩ = some (.int .u64 (u b.c)) ∧ w'.cell? ⟨w.heap.size + 1, 2, none⟩ = some (.int .i64 b.ig))
      ((try dsimp only) <;> (repeat' apply And.intro) <;> (repeat (first | rw [World.cell?_drew] | rw [World.cell?_setCell_far _ _ _ _ (by dsimp only; omega)] | rw [World.cell?_alloc_lt _ _ _ (by dsimp only; omega)] | rw [hc2 _ _ (by first | omega | (simp; omega))] | rw [hc1 _ _ (by first | omega | (simp; omega))])) <;> assumption)
      (first
      | (go_at_call 33; refine (meets_any _).mono ?_; rintro e w1 ⟨rfl, hB1⟩; obtain ⟨hc1, hf1⟩ := below_cell hB1; have HB1 := Lib.hid hB1; clear hB1; have z := HB1.out.size; (try simp at z); have z0 : w.heap.size < w1.heap.size := (by omega); have z1 : w.heap.size + 1 < w1.heap.size := (by omega); have z2 : w.heap.size + 1 + 1 < w1.heap.size := (by omega); try (have z3 : W0.heap.size < w1.heap.size := (by omega)))
      | (go_at_call 29; refine (of_bad _ _ _ a b _ h).mono ?_; rintro e w2 ⟨x, rfl, hB2⟩; obtain ⟨hc2, hf2⟩ := below_cell hB2; have HB2 := Lib.hid hB2; clear hB2; have y := HB2.out.size; (try simp at y); have y0 : w.heap.size < w2.heap.size := (by omega); have y1 : w.heap.size + 1 < w2.heap.size := (by omega); have y2 : w.heap.size + 1 + 1 < w2.heap.size := (by omega)))
    all_goals (go_wp2_with fail; go_meet; refine ⟨_, rfl, ⟨_, rfl⟩, ?_⟩)
    all_goals (first
      | exact join_last HP.out HB1.out HB2.out _ _ _ _
      | exact join_mid HP.out HB1.out _ HB2.out _ _ _
      | exact join_first HP.out _ HB1.out HB2.out _ _ _)
  case rest =>
    obtain ⟨g, rfl, ⟨x, rfl⟩, c0, c1, c2, ⟨r0, r1, r2, f0, f1, f2, hB, hgt⟩, hne, hlt⟩ := hcut
    have HH := Lib.hid (hh _ (hB.drew))
    have HB := Lib.hid hB
    clear hB HP hsz hh
    have hr : w.heap.size < w.heap.size + 1 + 1 := by omega
    generalize w.heap.size + 1 + 1 = rb at *
    go_wp2_with fail
    go_region_held3 (fun w' => w'.cell? ⟨g, 0, none⟩ = some (.int .i64 0) ∧ w'.cell? ⟨g, 1, none⟩ = some (.int .u64 0) ∧ w'.cell? ⟨g, 2, none⟩ = some (.int .i64 0))
      ((try dsimp only) <;> (repeat' apply And.intro) <;> (repeat (first | rw [World.cell?_drew] | rw [World.cell?_setCell_far _ _ _ _ (by dsimp only; omega)] | rw [World.cell?_alloc_lt _ _ _ (by dsimp only; omega)] | rw [hc2 _ _ (by first | omega | (simp; omega))] | rw [hc1 _ _ (by first | omega | (simp; omega))])) <;> assumption)
      (first
      | (go_at_call 30; refine (told_wrong x _ HH.out).mono ?_; rintro e w2 ⟨rfl, hB2⟩; obtain ⟨hc2, hf2⟩ := below_cell hB2; have HB2 := Lib.hid hB2; clear hB2; have y := HB2.out.size; (try simp at y); have y0 : g < w2.heap.size := (by omega); have y1 : rb < w2.heap.size := (by omega);
          have q0 := (hc2 rb 0 (by simpa using hgt)).trans r0; have q1 := (hc2 rb 1 (by simpa using hgt)).trans r1; have q2 := (hc2 rb 2 (by simpa using hgt)).trans r2; have p0 := (hf2 rb 0 (by simpa using hgt)).trans f0; have p1 := (hf2 rb 1 (by simpa using hgt)).trans f1; have p2 := (hf2 rb 2 (by simpa using hgt)).trans f2))
    all_goals (go_wp2_with fail)
    obtain ⟨k0, k1, k2⟩ := set3_cells q0 q1 q2 (.int .i64 0) (.int .u64 0) (.int .i64 0)
    have hB2 := set3_below HB.out HB2.out hr (.int .i64 0) (.int .u64 0) (.int .i64 0)
    refine bodyPost_ret (v := .tuple #[.agg #[.int .i64 0, .int .u64 0, .int .i64 0], .int .i64 20]) (by simp [results, Tryd.results15, go_sem, k0, k1, k2]) rfl ⟨rfl, hB2⟩
end Go.Proofs.YtapgeagmdiphgaaDoor
