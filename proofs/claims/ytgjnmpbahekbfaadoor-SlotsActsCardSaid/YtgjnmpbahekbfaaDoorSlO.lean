/-
  PACKAGE slots: give of a live handle (printed by wip/gensl4.py).
-/
import Derived.Test.YtgjnmpbahekbfaaDoorSlN
namespace Go.Proofs.YtgjnmpbahekbfaaDoor
open Go.RowKit

theorem mem_live {gen : List Int} {tk : List Bool} {i : Nat} {g : Int} (ht : tk[i]? = some true) (hg : gen[i]? = some g) : (⟨i, g⟩ : Hd) ∈ liveTo gen tk gen.length := by
  unfold liveTo
  rw [List.mem_filterMap]
  exact ⟨i, List.mem_range.2 (List.getElem?_eq_some_iff.1 hg).1, by simp [liveAt, ht, hg]⟩
set_option maxRecDepth 100000 in
set_option maxHeartbeats 8000000 in
theorem give_worn (base sb gb tb hb i : Nat) (v : Value) (gen : List Int) (tk : List Bool) (h : List Int) (un g : Int) (w : World) (H : SlotsAt base w sb gb tb v gen tk h un) (hle : gen.length ≤ 900) (hx : Blk w hb 28 #[.int .i64 i, .int .i64 g])
    (hti : tk[i]? = some true) (hgi : gen[i]? = some g) (hun : 0 < un ∧ un < 1000) (hg : 1000 ≤ g) :
    Calls Tryd.prog 25 #[.pointer (some ⟨sb, 0, none⟩), .slice (some ⟨hb, 0, none⟩) 1 1] w fun e w' => e = .returned .nilIface ∧ SlotsAt base w' sb gb tb v gen (tk.set i false) h (un - 1) ∧ Turns (OwnS sb gb tb v w.heap.size) w w' := by
  have hgd : decide (g < 1000) = false := decide_eq_false (by omega)
  have hgn : ¬ g < 1000 := by omega
  obtain ⟨l0, l1, l2, l3⟩ := H.lts
  have n1 : sb ≠ gb := blk_apart H.s H.g (by decide)
  have n2 : sb ≠ tb := blk_apart H.s H.t (by decide)
  have n3 : tb ≠ gb := blk_apart H.t H.g (by decide)
  have hil : i < gen.length := (List.getElem?_eq_some_iff.1 hgi).1
  have e2 : (0 : Int) ≤ (i : Int) := by omega
  have e3 : (i : Int) < (gen.length : Int) := by omega
  have e4 : wrap64 (un + -1) = un - 1 := by unfold wrap64; omega
  have HH := Lib.hid H
  have HX := Lib.hid hx
  have HLE := Lib.hid hle
  have HTI := Lib.hid hti
  have HGI := Lib.hid hgi
  have HM := Lib.hid (decide_eq_true (mem_live hti hgi))
  have hxl := hx.lt
  clear H hx hle hti hgi
  go_enter Tryd.func25, Tryd.ntmps25
  go_wp2_with fail
  refine (isLive_any sb gb tb hb v gen tk un ⟨i, g⟩ _ HH.out.s HH.out.g HH.out.t HH.out.tl HLE.out HX.out).mono ?_
  rintro e w1 ⟨rfl, hB⟩
  rw [HM.out]
  have hz1 := hB.size
  have H1 := Lib.hid (HH.out.keepT (T := fun _ => False) (Turns.of_below hB) id id id (fun _ _ => id))
  have x0 := (HX.out.after hB).at_ (i := 0) (v := .int .i64 i) rfl
  have x1 := (HX.out.after hB).at_ (i := 1) (v := .int .i64 g) rfl
  have HB := Lib.hid hB
  clear hB
  go_wp2_with fail
  refine wp_loop_rounds 2 ?_
  rw [rounds_succ]
  go_wp2_with fail
  refine wp_region_gen2 (S := fun W' => Blk W' w1.heap.size 28 #[.int .i64 i, .int .i64 g] ∧ Blk W' sb 57 (slotsC v (.slice (some ⟨gb, 0, none⟩) gen.length gen.length) (.slice (some ⟨tb, 0, none⟩) gen.length gen.length) un) ∧ Turns (· = tb) (w1.alloc (.cells #[.int .i64 i, .int .i64 g] 28)) W') (N := fun W' => Blk W' tb 4 ⟨tk.map vB⟩) (by kernel_rfl) ⟨Blk.drew (Blk.new' rfl), Blk.drew (H1.out.s.alloc _), Turns.drew (Turns.refl _ _)⟩ (Blk.drew (H1.out.t.alloc _)) (fun w2 hS hN => ?_)
  have N0 := Lib.hid hN
  clear hN x0 x1
  refine wpAnyH_take (i := 0) (v := ?_) (op_at rfl) (by kernel_rfl) (by kernel_rfl) (by kernel_rfl) (fun _ _ _ h => h) (Or.inl ⟨by rfl, ?_⟩) hS ?_; rotate_left; focus ((intro w' hSw; clear hSw; go_simp) <;> with_reducible rfl)
  try simp only [Act.put, List.setIfInBounds_toArray, List.set_cons_zero, List.set_cons_succ]
  refine wpAnyH_take (i := 1) (v := ?_) (op_at rfl) (by kernel_rfl) (by kernel_rfl) (by kernel_rfl) (fun _ _ _ h => h) (Or.inl ⟨by rfl, ?_⟩) hS ?_; rotate_left; focus ((intro w' hSw; clear hSw; go_simp) <;> with_reducible rfl)
  try simp only [Act.put, List.setIfInBounds_toArray, List.set_cons_zero, List.set_cons_succ]
  refine wpAnyH_take (i := 2) (v := ?_) (op_at rfl) (by kernel_rfl) (by kernel_rfl) (by kernel_rfl) (fun _ _ _ h => h) (Or.inl ⟨by rfl, ?_⟩) hS ?_; rotate_left; focus ((intro w' hSw; clear hSw; go_simp) <;> with_reducible rfl)
  try simp only [Act.put, List.setIfInBounds_toArray, List.set_cons_zero, List.set_cons_succ]
  refine wpAnyH_take (i := 3) (v := ?_) (op_at rfl) (by kernel_rfl) (by kernel_rfl) (by kernel_rfl) (fun _ _ _ h => h) (Or.inl ⟨by rfl, ?_⟩) hS ?_; rotate_left; focus ((intro w' hSw; obtain ⟨q, r, -⟩ := hSw; have c2 := r.at_ (i := 2) (v := .slice (some ⟨tb, 0, none⟩) gen.length gen.length) rfl; clear q r; go_simp) <;> with_reducible rfl)
  try simp only [Act.put, List.setIfInBounds_toArray, List.set_cons_zero, List.set_cons_succ]
  refine wpAnyH_take (i := 4) (v := ?_) (op_at rfl) (by kernel_rfl) (by kernel_rfl) (by kernel_rfl) (fun _ _ _ h => h) (Or.inl ⟨by rfl, ?_⟩) hS ?_; rotate_left; focus ((intro w' hSw; clear hSw; go_simp) <;> with_reducible rfl)
  try simp only [Act.put, List.setIfInBounds_toArray, List.set_cons_zero, List.set_cons_succ]
  refine wpAnyH_take (i := 5) (v := ?_) (op_at rfl) (by kernel_rfl) (by kernel_rfl) (by kernel_rfl) (fun _ _ _ h => h) (Or.inl ⟨by rfl, ?_⟩) hS ?_; rotate_left; focus ((intro w' hSw; obtain ⟨q, r, -⟩ := hSw; have c0 := q.at_ (i := 0) (v := .int .i64 i) rfl; clear q r; go_simp) <;> with_reducible rfl)
  try simp only [Act.put, List.setIfInBounds_toArray, List.set_cons_zero, List.set_cons_succ]
  refine wpAnyH_take (i := 6) (v := ?_) (op_at rfl) (by kernel_rfl) (by kernel_rfl) (by kernel_rfl) (fun _ _ _ h => h) (Or.inl ⟨by rfl, ?_⟩) hS ?_; rotate_left; focus ((intro w' hSw; clear hSw; go_simp) <;> with_reducible rfl)
  try simp only [Act.put, List.setIfInBounds_toArray, List.set_cons_zero, List.set_cons_succ]
  refine wpAnyH_ready (rs := [7]) (by kernel_rfl) (by simp) ?_
  refine (AllReadyH.cons (op_at rfl) (fun K hK => ?_) AllReadyH.nil)
  have p_0 : w2.cell? ⟨tb, i, none⟩ = some (.bool true) := N0.out.at_ (map_get HTI.out)
  have f_0 := N0.out.frozen i
  go_simp
  clear p_0 f_0
  obtain ⟨b0, b1, hT⟩ := hS
  refine hK.out _ _ ⟨b0.far (by omega) _, b1.far n2 _, hT.setCell (p := ⟨tb, i, none⟩) rfl _⟩ (fun hS => ?_)
  have hN3 := N0.out.set' (set_map vB tk i false)
  clear hK K b0 b1 hT N0
  try simp only [Act.put, List.setIfInBounds_toArray, List.set_cons_zero, List.set_cons_succ]
  refine wpAnyH_done (by kernel_rfl) ?_ _
  obtain ⟨hd3, hs3, hT3⟩ := hS
  generalize w2.setCell ⟨tb, i, none⟩ (.bool false) = w3 at hd3 hs3 hT3 hN3 ⊢
  have ha1 := H1.out.alloc (.cells #[.int .i64 i, .int .i64 g] 28)
  have S3 : Hid (SlotsAt base w3 sb gb tb v gen (tk.set i false) h un) := Lib.hid ⟨hs3, ha1.h.keepT hT3 (fun g' hg' e => ha1.h.own_ne ha1.t (by decide) hg' e), ha1.g.keepT hT3 (Ne.symm n3), hN3, ha1.gl, by rw [List.length_set]; exact ha1.tl, Nat.le_trans ha1.bl hT3.size⟩
  have D3 := Lib.hid hd3
  have hz3 : w1.heap.size < w3.heap.size := by have := hT3.size; have := hd3.lt; omega
  have T3 : Hid (Turns (OwnS sb gb tb v w.heap.size) w w3) := Lib.hid (((Turns.of_below HB.out).alloc _).trans (hT3.mono (fun k hk => .inr (.inr (.inl hk)))))
  clear ha1 hd3 hs3 hT3 hN3
  go_wp2_with fail
  refine (Add_any sb 3 un (-1) w3 (S3.out.s.at_ rfl) (S3.out.s.frozen 3)).mono ?_
  rintro e w4 ⟨rfl, hw4⟩
  rw [e4] at hw4 ⊢
  have hT4 : Turns (· = sb) w3 w4 := by rw [hw4]; exact (Turns.refl (· = sb) w3).setCell (p := ⟨sb, 3, none⟩) rfl _
  have hs4 : Blk w4 sb 57 (slotsC v (.slice (some ⟨gb, 0, none⟩) gen.length gen.length) (.slice (some ⟨tb, 0, none⟩) gen.length gen.length) (un - 1)) := by rw [hw4]; exact S3.out.s.set' rfl
  have S4 : Hid (SlotsAt base w4 sb gb tb v gen (tk.set i false) h (un - 1)) := Lib.hid ⟨hs4, S3.out.h.keepT hT4 (fun g' hg' e => S3.out.h.own_ne S3.out.s (by decide) hg' e), S3.out.g.keepT hT4 (Ne.symm n1), S3.out.t.keepT hT4 (Ne.symm n2), S3.out.gl, S3.out.tl, Nat.le_trans S3.out.bl hT4.size⟩
  have D4 := Lib.hid (D3.out.keepT hT4 (by omega))
  have hz4 : w1.heap.size < w4.heap.size := Nat.lt_of_lt_of_le hz3 hT4.size
  have T4 := Lib.hid (T3.out.trans (hT4.mono (fun k hk => .inl hk)))
  clear hw4 hT4 hs4
  have y1 := D4.out.at_ (i := 1) (v := .int .i64 g) rfl
  go_wp2_with fail
  rw [rounds_succ]
  go_wp2_with fail
  go_ret
  exact ⟨rfl, S4.out, T4.out⟩
set_option maxRecDepth 100000 in
set_option maxHeartbeats 8000000 in
theorem give_push (base sb gb tb hb i : Nat) (v : Value) (gen : List Int) (tk : List Bool) (h : List Int) (un g : Int) (w : World) (H : SlotsAt base w sb gb tb v gen tk h un) (hle : gen.length ≤ 900) (hx : Blk w hb 28 #[.int .i64 i, .int .i64 g])
    (hti : tk[i]? = some true) (hgi : gen[i]? = some g) (hun : 0 < un ∧ un < 1000) (hg : g < 1000) (hhl : h.length ≤ 900) :
    Calls Tryd.prog 25 #[.pointer (some ⟨sb, 0, none⟩), .slice (some ⟨hb, 0, none⟩) 1 1] w fun e w' => e = .returned .nilIface ∧ ∃ v', SlotsAt base w' sb gb tb v' gen (tk.set i false) (upL (h ++ [(i : Int)]) h.length) (un - 1) ∧ (∃ g', v'.ownBlock = some g' ∧ (v.ownBlock = some g' ∨ w.heap.size ≤ g')) ∧ Turns (OwnS sb gb tb v w.heap.size) w w' := by
  have hgd : decide (g < 1000) = true := decide_eq_true hg
  obtain ⟨l0, l1, l2, l3⟩ := H.lts
  have n1 : sb ≠ gb := blk_apart H.s H.g (by decide)
  have n2 : sb ≠ tb := blk_apart H.s H.t (by decide)
  have n3 : tb ≠ gb := blk_apart H.t H.g (by decide)
  have hil : i < gen.length := (List.getElem?_eq_some_iff.1 hgi).1
  have e2 : (0 : Int) ≤ (i : Int) := by omega
  have e3 : (i : Int) < (gen.length : Int) := by omega
  have e4 : wrap64 (un + -1) = un - 1 := by unfold wrap64; omega
  have HH := Lib.hid H
  have HX := Lib.hid hx
  have HLE := Lib.hid hle
  have HTI := Lib.hid hti
  have HGI := Lib.hid hgi
  have HM := Lib.hid (decide_eq_true (mem_live hti hgi))
  have hxl := hx.lt
  clear H hx hle hti hgi
  go_enter Tryd.func25, Tryd.ntmps25
  go_wp2_with fail
  refine (isLive_any sb gb tb hb v gen tk un ⟨i, g⟩ _ HH.out.s HH.out.g HH.out.t HH.out.tl HLE.out HX.out).mono ?_
  rintro e w1 ⟨rfl, hB⟩
  rw [HM.out]
  have hz1 := hB.size
  have H1 := Lib.hid (HH.out.keepT (T := fun _ => False) (Turns.of_below hB) id id id (fun _ _ => id))
  have x0 := (HX.out.after hB).at_ (i := 0) (v := .int .i64 i) rfl
  have x1 := (HX.out.after hB).at_ (i := 1) (v := .int .i64 g) rfl
  have HB := Lib.hid hB
  clear hB
  go_wp2_with fail
  refine wp_loop_rounds 2 ?_
  rw [rounds_succ]
  go_wp2_with fail
  refine wp_region_gen2 (S := fun W' => Blk W' w1.heap.size 28 #[.int .i64 i, .int .i64 g] ∧ Blk W' sb 57 (slotsC v (.slice (some ⟨gb, 0, none⟩) gen.length gen.length) (.slice (some ⟨tb, 0, none⟩) gen.length gen.length) un) ∧ Turns (· = tb) (w1.alloc (.cells #[.int .i64 i, .int .i64 g] 28)) W') (N := fun W' => Blk W' tb 4 ⟨tk.map vB⟩) (by kernel_rfl) ⟨Blk.drew (Blk.new' rfl), Blk.drew (H1.out.s.alloc _), Turns.drew (Turns.refl _ _)⟩ (Blk.drew (H1.out.t.alloc _)) (fun w2 hS hN => ?_)
  have N0 := Lib.hid hN
  clear hN x0 x1
  refine wpAnyH_take (i := 0) (v := ?_) (op_at rfl) (by kernel_rfl) (by kernel_rfl) (by kernel_rfl) (fun _ _ _ h => h) (Or.inl ⟨by rfl, ?_⟩) hS ?_; rotate_left; focus ((intro w' hSw; clear hSw; go_simp) <;> with_reducible rfl)
  try simp only [Act.put, List.setIfInBounds_toArray, List.set_cons_zero, List.set_cons_succ]
  refine wpAnyH_take (i := 1) (v := ?_) (op_at rfl) (by kernel_rfl) (by kernel_rfl) (by kernel_rfl) (fun _ _ _ h => h) (Or.inl ⟨by rfl, ?_⟩) hS ?_; rotate_left; focus ((intro w' hSw; clear hSw; go_simp) <;> with_reducible rfl)
  try simp only [Act.put, List.setIfInBounds_toArray, List.set_cons_zero, List.set_cons_succ]
  refine wpAnyH_take (i := 2) (v := ?_) (op_at rfl) (by kernel_rfl) (by kernel_rfl) (by kernel_rfl) (fun _ _ _ h => h) (Or.inl ⟨by rfl, ?_⟩) hS ?_; rotate_left; focus ((intro w' hSw; clear hSw; go_simp) <;> with_reducible rfl)
  try simp only [Act.put, List.setIfInBounds_toArray, List.set_cons_zero, List.set_cons_succ]
  refine wpAnyH_take (i := 3) (v := ?_) (op_at rfl) (by kernel_rfl) (by kernel_rfl) (by kernel_rfl) (fun _ _ _ h => h) (Or.inl ⟨by rfl, ?_⟩) hS ?_; rotate_left; focus ((intro w' hSw; obtain ⟨q, r, -⟩ := hSw; have c2 := r.at_ (i := 2) (v := .slice (some ⟨tb, 0, none⟩) gen.length gen.length) rfl; clear q r; go_simp) <;> with_reducible rfl)
  try simp only [Act.put, List.setIfInBounds_toArray, List.set_cons_zero, List.set_cons_succ]
  refine wpAnyH_take (i := 4) (v := ?_) (op_at rfl) (by kernel_rfl) (by kernel_rfl) (by kernel_rfl) (fun _ _ _ h => h) (Or.inl ⟨by rfl, ?_⟩) hS ?_; rotate_left; focus ((intro w' hSw; clear hSw; go_simp) <;> with_reducible rfl)
  try simp only [Act.put, List.setIfInBounds_toArray, List.set_cons_zero, List.set_cons_succ]
  refine wpAnyH_take (i := 5) (v := ?_) (op_at rfl) (by kernel_rfl) (by kernel_rfl) (by kernel_rfl) (fun _ _ _ h => h) (Or.inl ⟨by rfl, ?_⟩) hS ?_; rotate_left; focus ((intro w' hSw; obtain ⟨q, r, -⟩ := hSw; have c0 := q.at_ (i := 0) (v := .int .i64 i) rfl; clear q r; go_simp) <;> with_reducible rfl)
  try simp only [Act.put, List.setIfInBounds_toArray, List.set_cons_zero, List.set_cons_succ]
  refine wpAnyH_take (i := 6) (v := ?_) (op_at rfl) (by kernel_rfl) (by kernel_rfl) (by kernel_rfl) (fun _ _ _ h => h) (Or.inl ⟨by rfl, ?_⟩) hS ?_; rotate_left; focus ((intro w' hSw; clear hSw; go_simp) <;> with_reducible rfl)
  try simp only [Act.put, List.setIfInBounds_toArray, List.set_cons_zero, List.set_cons_succ]
  refine wpAnyH_ready (rs := [7]) (by kernel_rfl) (by simp) ?_
  refine (AllReadyH.cons (op_at rfl) (fun K hK => ?_) AllReadyH.nil)
  have p_0 : w2.cell? ⟨tb, i, none⟩ = some (.bool true) := N0.out.at_ (map_get HTI.out)
  have f_0 := N0.out.frozen i
  go_simp
  clear p_0 f_0
  obtain ⟨b0, b1, hT⟩ := hS
  refine hK.out _ _ ⟨b0.far (by omega) _, b1.far n2 _, hT.setCell (p := ⟨tb, i, none⟩) rfl _⟩ (fun hS => ?_)
  have hN3 := N0.out.set' (set_map vB tk i false)
  clear hK K b0 b1 hT N0
  try simp only [Act.put, List.setIfInBounds_toArray, List.set_cons_zero, List.set_cons_succ]
  refine wpAnyH_done (by kernel_rfl) ?_ _
  obtain ⟨hd3, hs3, hT3⟩ := hS
  generalize w2.setCell ⟨tb, i, none⟩ (.bool false) = w3 at hd3 hs3 hT3 hN3 ⊢
  have ha1 := H1.out.alloc (.cells #[.int .i64 i, .int .i64 g] 28)
  have S3 : Hid (SlotsAt base w3 sb gb tb v gen (tk.set i false) h un) := Lib.hid ⟨hs3, ha1.h.keepT hT3 (fun g' hg' e => ha1.h.own_ne ha1.t (by decide) hg' e), ha1.g.keepT hT3 (Ne.symm n3), hN3, ha1.gl, by rw [List.length_set]; exact ha1.tl, Nat.le_trans ha1.bl hT3.size⟩
  have D3 := Lib.hid hd3
  have hz3 : w1.heap.size < w3.heap.size := by have := hT3.size; have := hd3.lt; omega
  have T3 : Hid (Turns (OwnS sb gb tb v w.heap.size) w w3) := Lib.hid (((Turns.of_below HB.out).alloc _).trans (hT3.mono (fun k hk => .inr (.inr (.inl hk)))))
  clear ha1 hd3 hs3 hT3 hN3
  go_wp2_with fail
  refine (Add_any sb 3 un (-1) w3 (S3.out.s.at_ rfl) (S3.out.s.frozen 3)).mono ?_
  rintro e w4 ⟨rfl, hw4⟩
  rw [e4] at hw4 ⊢
  have hT4 : Turns (· = sb) w3 w4 := by rw [hw4]; exact (Turns.refl (· = sb) w3).setCell (p := ⟨sb, 3, none⟩) rfl _
  have hs4 : Blk w4 sb 57 (slotsC v (.slice (some ⟨gb, 0, none⟩) gen.length gen.length) (.slice (some ⟨tb, 0, none⟩) gen.length gen.length) (un - 1)) := by rw [hw4]; exact S3.out.s.set' rfl
  have S4 : Hid (SlotsAt base w4 sb gb tb v gen (tk.set i false) h (un - 1)) := Lib.hid ⟨hs4, S3.out.h.keepT hT4 (fun g' hg' e => S3.out.h.own_ne S3.out.s (by decide) hg' e), S3.out.g.keepT hT4 (Ne.symm n1), S3.out.t.keepT hT4 (Ne.symm n2), S3.out.gl, S3.out.tl, Nat.le_trans S3.out.bl hT4.size⟩
  have D4 := Lib.hid (D3.out.keepT hT4 (by omega))
  have hz4 : w1.heap.size < w4.heap.size := Nat.lt_of_lt_of_le hz3 hT4.size
  have T4 := Lib.hid (T3.out.trans (hT4.mono (fun k hk => .inl hk)))
  clear hw4 hT4 hs4
  have y1 := D4.out.at_ (i := 1) (v := .int .i64 g) rfl
  go_wp2_with fail
  refine wp_region_gen2 (S := fun W' => Blk W' w1.heap.size 28 #[.int .i64 i, .int .i64 g] ∧ True ∧ Turns (OwnS sb gb tb v w4.heap.size) w4 W') (N := fun W' => SlotsAt base W' sb gb tb v gen (tk.set i false) h (un - 1) ∧ W'.heap.size = w4.heap.size) (by kernel_rfl) ⟨Blk.drew D4.out, trivial, Turns.drew (Turns.refl _ _)⟩ ⟨S4.out.keepT (T := fun _ => False) (Turns.drew (Turns.refl _ _)) id id id (fun _ _ => id), rfl⟩ (fun w5 hS hN => ?_)
  have N0 := Lib.hid hN
  clear hN y1
  refine wpAnyH_take (i := 0) (v := ?_) (op_at rfl) (by kernel_rfl) (by kernel_rfl) (by kernel_rfl) (fun _ _ _ h => h) (Or.inl ⟨by rfl, ?_⟩) hS ?_; rotate_left; focus ((intro w' hSw; clear hSw; go_simp) <;> with_reducible rfl)
  try simp only [Act.put, List.setIfInBounds_toArray, List.set_cons_zero, List.set_cons_succ]
  refine wpAnyH_take (i := 1) (v := ?_) (op_at rfl) (by kernel_rfl) (by kernel_rfl) (by kernel_rfl) (fun _ _ _ h => h) (Or.inl ⟨by rfl, ?_⟩) hS ?_; rotate_left; focus ((intro w' hSw; clear hSw; go_simp) <;> with_reducible rfl)
  try simp only [Act.put, List.setIfInBounds_toArray, List.set_cons_zero, List.set_cons_succ]
  refine wpAnyH_take (i := 2) (v := ?_) (op_at rfl) (by kernel_rfl) (by kernel_rfl) (by kernel_rfl) (fun _ _ _ h => h) (Or.inl ⟨by rfl, ?_⟩) hS ?_; rotate_left; focus ((intro w' hSw; clear hSw; go_simp) <;> with_reducible rfl)
  try simp only [Act.put, List.setIfInBounds_toArray, List.set_cons_zero, List.set_cons_succ]
  refine wpAnyH_take (i := 3) (v := ?_) (op_at rfl) (by kernel_rfl) (by kernel_rfl) (by kernel_rfl) (fun _ _ _ h => h) (Or.inl ⟨by rfl, ?_⟩) hS ?_; rotate_left; focus ((intro w' hSw; clear hSw; go_simp) <;> with_reducible rfl)
  try simp only [Act.put, List.setIfInBounds_toArray, List.set_cons_zero, List.set_cons_succ]
  refine wpAnyH_take (i := 4) (v := ?_) (op_at rfl) (by kernel_rfl) (by kernel_rfl) (by kernel_rfl) (fun _ _ _ h => h) (Or.inl ⟨by rfl, ?_⟩) hS ?_; rotate_left; focus ((intro w' hSw; clear hSw; go_simp) <;> with_reducible rfl)
  try simp only [Act.put, List.setIfInBounds_toArray, List.set_cons_zero, List.set_cons_succ]
  refine wpAnyH_take (i := 5) (v := ?_) (op_at rfl) (by kernel_rfl) (by kernel_rfl) (by kernel_rfl) (fun _ _ _ h => h) (Or.inl ⟨by rfl, ?_⟩) hS ?_; rotate_left; focus ((intro w' hSw; obtain ⟨q, r, -⟩ := hSw; have c0 := q.at_ (i := 0) (v := .int .i64 i) rfl; clear q r; go_simp) <;> with_reducible rfl)
  try simp only [Act.put, List.setIfInBounds_toArray, List.set_cons_zero, List.set_cons_succ]
  refine wpAnyH_take (i := 6) (v := ?_) (op_at rfl) (by kernel_rfl) (by kernel_rfl) (by kernel_rfl) (fun _ _ _ h => h) (Or.inl ⟨by rfl, ?_⟩) hS ?_; rotate_left; focus ((intro w' hSw; clear hSw; go_simp) <;> with_reducible rfl)
  try simp only [Act.put, List.setIfInBounds_toArray, List.set_cons_zero, List.set_cons_succ]
  refine wpAnyH_ready (rs := [7]) (by kernel_rfl) (by simp) ?_
  refine (AllReadyH.cons (op_at rfl) (fun K hK => ?_) AllReadyH.nil)
  go_simp
  obtain ⟨b0, -, hT⟩ := hS
  refine (HPush_any base sb v _ _ _ i h w5 N0.out.1.s N0.out.1.h N0.out.1.bl hhl).mono ?_
  rintro e w6 ⟨rfl, g6, n6, c6, hs6, hh6, hown, hT6⟩
  have l4 := T4.out.size
  have hz5 := N0.out.2
  rw [hz5] at hT6 hown
  have m1 : ¬ Own sb v w4.heap.size w1.heap.size := by
    rintro (e | e | e)
    · omega
    · have := l3 _ e; omega
    · omega
  have m2 : ¬ Own sb v w4.heap.size gb := by
    rintro (e | e | e)
    · omega
    · have := (HH.out.h.own_lt e).1; have := HH.out.gl; omega
    · omega
  have m3 : ¬ Own sb v w4.heap.size tb := by
    rintro (e | e | e)
    · omega
    · exact HH.out.h.own_ne HH.out.t (by decide) e rfl
    · omega
  have S6 : Hid (SlotsAt base w6 sb gb tb (.slice (some ⟨g6, 0, none⟩) n6 c6) gen (tk.set i false) (upL (h ++ [(i : Int)]) h.length) (un - 1)) := Lib.hid ⟨hs6, hh6, N0.out.1.g.keepT hT6 m2, N0.out.1.t.keepT hT6 m3, N0.out.1.gl, N0.out.1.tl, Nat.le_trans N0.out.1.bl hT6.size⟩
  have HOW := Lib.hid hown
  refine hK.out _ _ ⟨b0.keepT hT6 m1, trivial, hT.trans (hT6.mono (fun k hk => ?_))⟩ (fun hS => ?_)
  · rcases hk with e | e | e
    · exact .inl e
    · exact .inr (.inr (.inr (.inl e)))
    · exact .inr (.inr (.inr (.inr e)))
  clear hK K b0 hT hs6 hh6 hown hT6 N0
  try simp only [Act.put, List.setIfInBounds_toArray, List.set_cons_zero, List.set_cons_succ]
  refine wpAnyH_done (by kernel_rfl) ?_ _
  obtain ⟨-, -, hT5⟩ := hS
  have T6 := Lib.hid hT5
  clear hT5
  go_wp2_with fail
  rw [rounds_succ]
  go_wp2_with fail
  go_ret
  refine ⟨rfl, _, S6.out, ⟨g6, rfl, ?_⟩, T4.out.trans (T6.out.mono (fun k hk => ?_))⟩
  · rcases HOW.out with e | e
    · exact .inl e
    · exact .inr (by omega)
  · rcases hk with e | e | e | e | e
    · exact .inl e
    · exact .inr (.inl e)
    · exact .inr (.inr (.inl e))
    · exact .inr (.inr (.inr (.inl e)))
    · exact .inr (.inr (.inr (.inr (by omega))))
end Go.Proofs.YtgjnmpbahekbfaaDoor
