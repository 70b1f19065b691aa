/-
  THE WALKS OF PACKAGE subject, part four: Right; plimsollref16.Right (printed by wip/gensub2.py).
  PACKAGE subject, part five: has, Alive; plimsollref16.Alive; slices.Clone.
  errors.As BY ITS CONTRACT at package subject's error: a struct around a struct (printed by wip/genasby.py); told.
  THE WALKS OF PACKAGE subject, part six: must (printed by wip/gensub3.py).
  PACKAGE subject, part seven: slices.Clone of subjects; open.
  THE WALKS OF PACKAGE subject, part eight: edit (printed by wip/gensub4.py).
  THE WALKS OF PACKAGE subject, part nine: Exit's closure (printed by wip/gensub5.py).
  PACKAGE subject, part ten: a table with one subject changed; Exit.
  PACKAGE plimsollref16: checked.
  PACKAGE plimsollref16: set (printed by wip/gensub6.py).
  PACKAGE plimsollref16: Exit.
  PACKAGE plimsollref16: Float (printed by wip/gensub7.py).
  PACKAGE plimsollref16: Float as a whole; Few.
  TWO SUBJECTS COMPARED (printed by wip/gensub8.py).
  PACKAGE plimsollref16: Same; subject.Same (printed by wip/gensub9.py).
  THE WALKS OF PACKAGE subject: the closures of Float, Start (printed by wip/gensub10.py).
-/
import Derived.Test.YteepgbkblgcegaaDoorM2
import Derived.Deep.DeepCutAuto
import Derived.LoopN
import Derived.WalkMore
import Derived.Lib.BufferMore
namespace Go.Proofs.YteepgbkblgcegaaDoor

section
open Go.RowKit

attribute [local go_sem] u_and u_or u_andNot u_add u_sub u_bit u_eq_zero u_beq

theorem nextIs {l : List Sub} {x : Sub} {r : Bool} (h : nextB l x = r) {v : Value} {W : World} (hl : SubsAt W.heap.size W v l) : Calls Tryd.prog 44 #[v, .agg #[.int .i64 x.par, .int .i64 x.st, .int .i64 x.cur.lv, .int .u64 (u x.cur.c), .int .i64 x.cur.ig, .int .i64 x.high.lv, .int .u64 (u x.high.c), .int .i64 x.high.ig]] W fun e w' => e = .returned (.bool r) ∧ Below W.heap.size W w' := by
  subst h; exact isNext_any l x v W hl
theorem rIs {l : List Sub} {x : Sub} {r : Bool} (h : nextB l x = r) {v : Value} {W : World} (hl : SubsAt W.heap.size W v l) : Calls Tryd.prog 48 #[v, .agg #[.int .i64 x.par, .int .i64 x.st, .int .i64 x.cur.lv, .int .u64 (u x.cur.c), .int .i64 x.cur.ig, .int .i64 x.high.lv, .int .u64 (u x.high.c), .int .i64 x.high.ig]] W fun e w' => e = .returned (.bool r) ∧ Below W.heap.size W w' := by
  subst h; exact rIs_any l x v W hl
theorem right_all {l : List Sub} (h : ∀ j x, j < l.length → l[j]? = some x → nextB (l.take j) x = true) : rightT l = decide (l.length ≤ 8) := by
  unfold rightT
  rw [allNext_iff.2 (fun i x hx => h i x (List.getElem?_eq_some_iff.1 hx).1 hx), Bool.true_and]
theorem right_no {l : List Sub} {i : Nat} {x : Sub} (hx : l[i]? = some x) (h : nextB (l.take i) x = false) : rightT l = false := by
  unfold rightT; rw [allNext_no hx h, Bool.false_and]
set_option maxRecDepth 100000 in
set_option maxHeartbeats 4000000 in
theorem rightS_any (l : List Sub) (v : Value) (w0 : World) (hl : SubsAt w0.heap.size w0 v l) :
    Calls Tryd.prog 19 #[v] w0 fun e w' => e = .returned (.bool (rightT l)) ∧ Below w0.heap.size w0 w' := by
  obtain ⟨sA, sc, rfl, hcap, hsc, _⟩ := hl.slice
  have HL := Lib.hid hl
  clear hl
  go_enter Tryd.func19, Tryd.ntmps19
  go_wp2_with fail
  go_loopw [7] (fun i wr => ∃ k : Nat, i = .int .i64 k ∧ k ≤ l.length ∧ (∀ j x, j < k → l[j]? = some x → nextB (l.take j) x = true) ∧ Below w0.heap.size w0 wr) (fun i _ => l.length - (intOf i).toNat)
  case atStart => exact ⟨0, rfl, Nat.zero_le _, fun j x hj => by omega, Below.refl _ _⟩
  case round =>
    obtain ⟨k, rfl, hk, hall, hB⟩ := hrel
    have HB := Lib.hid hB
    have HA := Lib.hid hall
    clear hB hall
    by_cases hkl : k < l.length
    · obtain ⟨x, hx⟩ : ∃ x, l[k]? = some x := ⟨_, List.getElem?_eq_getElem hkl⟩
      obtain ⟨b, off, hA, hlt, he⟩ := (HL.out.later HB.out HB.out.size).el hx (Nat.le_refl _)
      subst hA
      have B0 := Lib.hid (show Els wr b (off + k * 8) #[.int .i64 x.par, .int .i64 x.st, .int .i64 x.cur.lv, .int .u64 (u x.cur.c), .int .i64 x.cur.ig, .int .i64 x.high.lv, .int .u64 (u x.high.c), .int .i64 x.high.ig] from he)
      have HMK := Lib.hid (show (l.take k).length = k by rw [List.length_take]; omega)
      have HX := Lib.hid hx
      have hkz : (0 : Int) ≤ (k : Int) := by omega
      have hkz2 : (k : Int) < (l.length : Int) := by omega
      have hkz3 : (k : Int) ≤ (sc : Int) := by omega
      clear he hx
      cases hr : nextB (l.take k) x
      · have HR := Lib.hid hr
        clear hr
        have p0_0 : wr.cell? ⟨b, off + k * 8, none⟩ = some (.int .i64 x.par) := B0.out.at_ (i := 0) (v := .int .i64 x.par) rfl
        have p0_1 : wr.cell? ⟨b, off + k * 8 + 1, none⟩ = some (.int .i64 x.st) := B0.out.at_ (i := 1) (v := .int .i64 x.st) rfl
        have p0_2 : wr.cell? ⟨b, off + k * 8 + 2, none⟩ = some (.int .i64 x.cur.lv) := B0.out.at_ (i := 2) (v := .int .i64 x.cur.lv) rfl
        have p0_3 : wr.cell? ⟨b, off + k * 8 + 3, none⟩ = some (.int .u64 (u x.cur.c)) := B0.out.at_ (i := 3) (v := .int .u64 (u x.cur.c)) rfl
        have p0_4 : wr.cell? ⟨b, off + k * 8 + 4, none⟩ = some (.int .i64 x.cur.ig) := B0.out.at_ (i := 4) (v := .int .i64 x.cur.ig) rfl
        have p0_5 : wr.cell? ⟨b, off + k * 8 + 5, none⟩ = some (.int .i64 x.high.lv) := B0.out.at_ (i := 5) (v := .int .i64 x.high.lv) rfl
        have p0_6 : wr.cell? ⟨b, off + k * 8 + 6, none⟩ = some (.int .u64 (u x.high.c)) := B0.out.at_ (i := 6) (v := .int .u64 (u x.high.c)) rfl
        have p0_7 : wr.cell? ⟨b, off + k * 8 + 7, none⟩ = some (.int .i64 x.high.ig) := B0.out.at_ (i := 7) (v := .int .i64 x.high.ig) rfl
        have k0_0 : b < wr.heap.size := by have := B0.out.lt; omega
        have k0_1 : b < wr.heap.size + 1 := by have := B0.out.lt; omega
        go_wp2_with fail
        refine wp_region_gen (S := (fun W' => Els W' (b) (off + k * 8) #[.int .i64 x.par, .int .i64 x.st, .int .i64 x.cur.lv, .int .u64 (u x.cur.c), .int .i64 x.cur.ig, .int .i64 x.high.lv, .int .u64 (u x.high.c), .int .i64 x.high.ig] ∧ Blk W' (wr.heap.size) 41 #[.int .i64 x.par, .int .i64 x.st, .int .i64 x.cur.lv, .int .u64 (u x.cur.c), .int .i64 x.cur.ig, .int .i64 x.high.lv, .int .u64 (u x.high.c), .int .i64 x.high.ig] ∧ Below w0.heap.size w0 W')) (by kernel_rfl) ⟨(by repeat (first | exact B0.out | refine Els.drew ?_ | refine Els.alloc ?_ _)), (by repeat (first | exact Blk.new' (by simp; done) | exact Blk.new' rfl | refine Blk.drew ?_ | refine Blk.alloc ?_ _)), (by repeat (first | exact HB.out | refine below_alloc ?_ _ | refine Below.drew ?_ | refine below_set ?_ (by omega) _))⟩ (fun w1 hS => ?_)
        clear p0_0 p0_1 p0_2 p0_3 p0_4 p0_5 p0_6 p0_7 k0_0 k0_1
        refine wpAnyH_take (i := 0) (v := ?_) (op_at rfl) (by kernel_rfl) (by kernel_rfl) (by kernel_rfl) (fun _ _ _ h => h) (Or.inl ⟨by rfl, ?_⟩) hS ?_; rotate_left; focus ((intro w' hSw; clear hSw; go_simp) <;> with_reducible rfl)
        try simp only [Act.put, List.setIfInBounds_toArray, List.set_cons_zero, List.set_cons_succ]
        refine wpAnyH_take (i := 1) (v := ?_) (op_at rfl) (by kernel_rfl) (by kernel_rfl) (by kernel_rfl) (fun _ _ _ h => h) (Or.inl ⟨by rfl, ?_⟩) hS ?_; rotate_left; focus ((intro w' hSw; clear hSw; go_simp) <;> with_reducible rfl)
        try simp only [Act.put, List.setIfInBounds_toArray, List.set_cons_zero, List.set_cons_succ]
        refine wpAnyH_take (i := 2) (v := ?_) (op_at rfl) (by kernel_rfl) (by kernel_rfl) (by kernel_rfl) (fun _ _ _ h => h) (Or.inl ⟨by rfl, ?_⟩) hS ?_; rotate_left; focus ((intro w' hSw; clear hSw; go_simp) <;> with_reducible rfl)
        try simp only [Act.put, List.setIfInBounds_toArray, List.set_cons_zero, List.set_cons_succ]
        refine wpAnyH_take (i := 3) (v := ?_) (op_at rfl) (by kernel_rfl) (by kernel_rfl) (by kernel_rfl) (fun _ _ _ h => h) (Or.inl ⟨by rfl, ?_⟩) hS ?_; rotate_left; focus ((intro w' hSw; clear hSw; go_simp) <;> with_reducible rfl)
        try simp only [Act.put, List.setIfInBounds_toArray, List.set_cons_zero, List.set_cons_succ]
        refine wpAnyH_take (i := 4) (v := ?_) (op_at rfl) (by kernel_rfl) (by kernel_rfl) (by kernel_rfl) (fun _ _ _ h => h) (Or.inl ⟨by rfl, ?_⟩) hS ?_; rotate_left; focus ((intro w' hSw; obtain ⟨-, q, -⟩ := hSw; have c0 := q.at_ (i := 0) (v := .int .i64 x.par) rfl; have c1 := q.at_ (i := 1) (v := .int .i64 x.st) rfl; have c2 := q.at_ (i := 2) (v := .int .i64 x.cur.lv) rfl; have c3 := q.at_ (i := 3) (v := .int .u64 (u x.cur.c)) rfl; have c4 := q.at_ (i := 4) (v := .int .i64 x.cur.ig) rfl; have c5 := q.at_ (i := 5) (v := .int .i64 x.high.lv) rfl; have c6 := q.at_ (i := 6) (v := .int .u64 (u x.high.c)) rfl; have c7 := q.at_ (i := 7) (v := .int .i64 x.high.ig) rfl; clear q; go_simp) <;> with_reducible rfl)
        try simp only [Act.put, List.setIfInBounds_toArray, List.set_cons_zero, List.set_cons_succ]
        refine wpAnyH_ready (rs := [5]) (by kernel_rfl) (by simp) ?_
        refine (AllReadyH.cons (op_at rfl) (fun K hK => ?_) AllReadyH.nil)
        go_simp
        obtain ⟨b0, b1, hb⟩ := hS
        refine (nextIs HR.out ((HL.out.later hb hb.size).take k HMK.out (by omega) (Nat.le_refl _))).mono ?_
        rintro e w2 ⟨rfl, hB⟩
        refine hK.out _ _ ⟨b0.after hB, b1.after hB, below_call hb hB⟩ (fun hS => ?_)
        clear hK K hB b0 b1 hb
        try simp only [Act.put, List.setIfInBounds_toArray, List.set_cons_zero, List.set_cons_succ]
        refine wpAnyH_take (i := 6) (v := ?_) (op_at rfl) (by kernel_rfl) (by kernel_rfl) (by kernel_rfl) (fun _ _ _ h => h) (Or.inl ⟨by rfl, ?_⟩) hS ?_; rotate_left; focus ((intro w' hSw; clear hSw; go_simp) <;> with_reducible rfl)
        try simp only [Act.put, List.setIfInBounds_toArray, List.set_cons_zero, List.set_cons_succ]
        refine wpAnyH_done (by kernel_rfl) ?_ _
        obtain ⟨b0, b1, hb⟩ := hS
        replace B0 := Lib.hid b0
        clear b0
        replace B1 := Lib.hid b1
        clear b1
        replace HB := Lib.hid hb
        clear hb
        go_wp2_with fail
        go_ret
        exact ⟨by rw [right_no HX.out HR.out]; rfl, HB.out⟩
      · have HR := Lib.hid hr
        clear hr
        have p0_0 : wr.cell? ⟨b, off + k * 8, none⟩ = some (.int .i64 x.par) := B0.out.at_ (i := 0) (v := .int .i64 x.par) rfl
        have p0_1 : wr.cell? ⟨b, off + k * 8 + 1, none⟩ = some (.int .i64 x.st) := B0.out.at_ (i := 1) (v := .int .i64 x.st) rfl
        have p0_2 : wr.cell? ⟨b, off + k * 8 + 2, none⟩ = some (.int .i64 x.cur.lv) := B0.out.at_ (i := 2) (v := .int .i64 x.cur.lv) rfl
        have p0_3 : wr.cell? ⟨b, off + k * 8 + 3, none⟩ = some (.int .u64 (u x.cur.c)) := B0.out.at_ (i := 3) (v := .int .u64 (u x.cur.c)) rfl
        have p0_4 : wr.cell? ⟨b, off + k * 8 + 4, none⟩ = some (.int .i64 x.cur.ig) := B0.out.at_ (i := 4) (v := .int .i64 x.cur.ig) rfl
        have p0_5 : wr.cell? ⟨b, off + k * 8 + 5, none⟩ = some (.int .i64 x.high.lv) := B0.out.at_ (i := 5) (v := .int .i64 x.high.lv) rfl
        have p0_6 : wr.cell? ⟨b, off + k * 8 + 6, none⟩ = some (.int .u64 (u x.high.c)) := B0.out.at_ (i := 6) (v := .int .u64 (u x.high.c)) rfl
        have p0_7 : wr.cell? ⟨b, off + k * 8 + 7, none⟩ = some (.int .i64 x.high.ig) := B0.out.at_ (i := 7) (v := .int .i64 x.high.ig) rfl
        have k0_0 : b < wr.heap.size := by have := B0.out.lt; omega
        have k0_1 : b < wr.heap.size + 1 := by have := B0.out.lt; omega
        go_wp2_with fail
        refine wp_region_gen (S := (fun W' => Els W' (b) (off + k * 8) #[.int .i64 x.par, .int .i64 x.st, .int .i64 x.cur.lv, .int .u64 (u x.cur.c), .int .i64 x.cur.ig, .int .i64 x.high.lv, .int .u64 (u x.high.c), .int .i64 x.high.ig] ∧ Blk W' (wr.heap.size) 41 #[.int .i64 x.par, .int .i64 x.st, .int .i64 x.cur.lv, .int .u64 (u x.cur.c), .int .i64 x.cur.ig, .int .i64 x.high.lv, .int .u64 (u x.high.c), .int .i64 x.high.ig] ∧ Below w0.heap.size w0 W')) (by kernel_rfl) ⟨(by repeat (first | exact B0.out | refine Els.drew ?_ | refine Els.alloc ?_ _)), (by repeat (first | exact Blk.new' (by simp; done) | exact Blk.new' rfl | refine Blk.drew ?_ | refine Blk.alloc ?_ _)), (by repeat (first | exact HB.out | refine below_alloc ?_ _ | refine Below.drew ?_ | refine below_set ?_ (by omega) _))⟩ (fun w1 hS => ?_)
        clear p0_0 p0_1 p0_2 p0_3 p0_4 p0_5 p0_6 p0_7 k0_0 k0_1
        refine wpAnyH_take (i := 0) (v := ?_) (op_at rfl) (by kernel_rfl) (by kernel_rfl) (by kernel_rfl) (fun _ _ _ h => h) (Or.inl ⟨by rfl, ?_⟩) hS ?_; rotate_left; focus ((intro w' hSw; clear hSw; go_simp) <;> with_reducible rfl)
        try simp only [Act.put, List.setIfInBounds_toArray, List.set_cons_zero, List.set_cons_succ]
        refine wpAnyH_take (i := 1) (v := ?_) (op_at rfl) (by kernel_rfl) (by kernel_rfl) (by kernel_rfl) (fun _ _ _ h => h) (Or.inl ⟨by rfl, ?_⟩) hS ?_; rotate_left; focus ((intro w' hSw; clear hSw; go_simp) <;> with_reducible rfl)
        try simp only [Act.put, List.setIfInBounds_toArray, List.set_cons_zero, List.set_cons_succ]
        refine wpAnyH_take (i := 2) (v := ?_) (op_at rfl) (by kernel_rfl) (by kernel_rfl) (by kernel_rfl) (fun _ _ _ h => h) (Or.inl ⟨by rfl, ?_⟩) hS ?_; rotate_left; focus ((intro w' hSw; clear hSw; go_simp) <;> with_reducible rfl)
        try simp only [Act.put, List.setIfInBounds_toArray, List.set_cons_zero, List.set_cons_succ]
        refine wpAnyH_take (i := 3) (v := ?_) (op_at rfl) (by kernel_rfl) (by kernel_rfl) (by kernel_rfl) (fun _ _ _ h => h) (Or.inl ⟨by rfl, ?_⟩) hS ?_; rotate_left; focus ((intro w' hSw; clear hSw; go_simp) <;> with_reducible rfl)
        try simp only [Act.put, List.setIfInBounds_toArray, List.set_cons_zero, List.set_cons_succ]
        refine wpAnyH_take (i := 4) (v := ?_) (op_at rfl) (by kernel_rfl) (by kernel_rfl) (by kernel_rfl) (fun _ _ _ h => h) (Or.inl ⟨by rfl, ?_⟩) hS ?_; rotate_left; focus ((intro w' hSw; obtain ⟨-, q, -⟩ := hSw; have c0 := q.at_ (i := 0) (v := .int .i64 x.par) rfl; have c1 := q.at_ (i := 1) (v := .int .i64 x.st) rfl; have c2 := q.at_ (i := 2) (v := .int .i64 x.cur.lv) rfl; have c3 := q.at_ (i := 3) (v := .int .u64 (u x.cur.c)) rfl; have c4 := q.at_ (i := 4) (v := .int .i64 x.cur.ig) rfl; have c5 := q.at_ (i := 5) (v := .int .i64 x.high.lv) rfl; have c6 := q.at_ (i := 6) (v := .int .u64 (u x.high.c)) rfl; have c7 := q.at_ (i := 7) (v := .int .i64 x.high.ig) rfl; clear q; go_simp) <;> with_reducible rfl)
        try simp only [Act.put, List.setIfInBounds_toArray, List.set_cons_zero, List.set_cons_succ]
        refine wpAnyH_ready (rs := [5]) (by kernel_rfl) (by simp) ?_
        refine (AllReadyH.cons (op_at rfl) (fun K hK => ?_) AllReadyH.nil)
        go_simp
        obtain ⟨b0, b1, hb⟩ := hS
        refine (nextIs HR.out ((HL.out.later hb hb.size).take k HMK.out (by omega) (Nat.le_refl _))).mono ?_
        rintro e w2 ⟨rfl, hB⟩
        refine hK.out _ _ ⟨b0.after hB, b1.after hB, below_call hb hB⟩ (fun hS => ?_)
        clear hK K hB b0 b1 hb
        try simp only [Act.put, List.setIfInBounds_toArray, List.set_cons_zero, List.set_cons_succ]
        refine wpAnyH_take (i := 6) (v := ?_) (op_at rfl) (by kernel_rfl) (by kernel_rfl) (by kernel_rfl) (fun _ _ _ h => h) (Or.inl ⟨by rfl, ?_⟩) hS ?_; rotate_left; focus ((intro w' hSw; clear hSw; go_simp) <;> with_reducible rfl)
        try simp only [Act.put, List.setIfInBounds_toArray, List.set_cons_zero, List.set_cons_succ]
        refine wpAnyH_done (by kernel_rfl) ?_ _
        obtain ⟨b0, b1, hb⟩ := hS
        replace B0 := Lib.hid b0
        clear b0
        replace B1 := Lib.hid b1
        clear b1
        replace HB := Lib.hid hb
        clear hb
        go_wp2_with fail
        go_roundw
        case rel => exact ⟨k + 1, by go_num, by omega, fun j y hj hy => by
          by_cases e : j = k
          · subst e; rw [HX.out] at hy; cases hy; exact HR.out
          · exact HA.out j y (by omega) hy, HB.out⟩
        case measure => simp [intOf]; omega
    · have hke : k = l.length := by omega
      subst hke
      have hr := right_all HA.out
      have HR := Lib.hid hr
      clear hr
      by_cases h8 : l.length ≤ 8
      · have hz8 : (l.length : Int) ≤ 8 := by omega
        go_wp2_with fail
        go_ret
        exact ⟨by rw [HR.out]; simp [h8], HB.out⟩
      · have hz8 : ¬ (l.length : Int) ≤ 8 := by omega
        go_wp2_with fail
        go_ret
        exact ⟨by rw [HR.out]; simp [h8], HB.out⟩
set_option maxRecDepth 100000 in
set_option maxHeartbeats 4000000 in
theorem rRightS_any (l : List Sub) (v : Value) (w0 : World) (hl : SubsAt w0.heap.size w0 v l) :
    Calls Tryd.prog 24 #[v] w0 fun e w' => e = .returned (.bool (rightT l)) ∧ Below w0.heap.size w0 w' := by
  obtain ⟨sA, sc, rfl, hcap, hsc, _⟩ := hl.slice
  have HL := Lib.hid hl
  clear hl
  go_enter Tryd.func24, Tryd.ntmps24
  go_wp2_with fail
  go_loopw [3] (fun i wr => ∃ k : Nat, i = .int .i64 k ∧ k ≤ l.length ∧ (∀ j x, j < k → l[j]? = some x → nextB (l.take j) x = true) ∧ Below w0.heap.size w0 wr) (fun i _ => l.length - (intOf i).toNat)
  case atStart => exact ⟨0, rfl, Nat.zero_le _, fun j x hj => by omega, Below.refl _ _⟩
  case round =>
    obtain ⟨k, rfl, hk, hall, hB⟩ := hrel
    have HB := Lib.hid hB
    have HA := Lib.hid hall
    clear hB hall
    by_cases hkl : k < l.length
    · obtain ⟨x, hx⟩ : ∃ x, l[k]? = some x := ⟨_, List.getElem?_eq_getElem hkl⟩
      obtain ⟨b, off, hA, hlt, he⟩ := (HL.out.later HB.out HB.out.size).el hx (Nat.le_refl _)
      subst hA
      have B0 := Lib.hid (show Els wr b (off + k * 8) #[.int .i64 x.par, .int .i64 x.st, .int .i64 x.cur.lv, .int .u64 (u x.cur.c), .int .i64 x.cur.ig, .int .i64 x.high.lv, .int .u64 (u x.high.c), .int .i64 x.high.ig] from he)
      have HMK := Lib.hid (show (l.take k).length = k by rw [List.length_take]; omega)
      have HX := Lib.hid hx
      have hkz : (0 : Int) ≤ (k : Int) := by omega
      have hkz2 : (k : Int) < (l.length : Int) := by omega
      have hkz3 : (k : Int) ≤ (sc : Int) := by omega
      clear he hx
      cases hr : nextB (l.take k) x
      · have HR := Lib.hid hr
        clear hr
        go_wp2_with fail
        refine wp_region_gen (S := (fun W' => Els W' (b) (off + k * 8) #[.int .i64 x.par, .int .i64 x.st, .int .i64 x.cur.lv, .int .u64 (u x.cur.c), .int .i64 x.cur.ig, .int .i64 x.high.lv, .int .u64 (u x.high.c), .int .i64 x.high.ig] ∧ Below w0.heap.size w0 W')) (by kernel_rfl) ⟨(by repeat (first | exact B0.out | refine Els.drew ?_ | refine Els.alloc ?_ _)), (by repeat (first | exact HB.out | refine below_alloc ?_ _ | refine Below.drew ?_ | refine below_set ?_ (by omega) _))⟩ (fun w1 hS => ?_)
        refine wpAnyH_take (i := 0) (v := ?_) (op_at rfl) (by kernel_rfl) (by kernel_rfl) (by kernel_rfl) (fun _ _ _ h => h) (Or.inl ⟨by rfl, ?_⟩) hS ?_; rotate_left; focus ((intro w' hSw; clear hSw; go_simp) <;> with_reducible rfl)
        try simp only [Act.put, List.setIfInBounds_toArray, List.set_cons_zero, List.set_cons_succ]
        refine wpAnyH_take (i := 1) (v := ?_) (op_at rfl) (by kernel_rfl) (by kernel_rfl) (by kernel_rfl) (fun _ _ _ h => h) (Or.inl ⟨by rfl, ?_⟩) hS ?_; rotate_left; focus ((intro w' hSw; clear hSw; go_simp) <;> with_reducible rfl)
        try simp only [Act.put, List.setIfInBounds_toArray, List.set_cons_zero, List.set_cons_succ]
        refine wpAnyH_take (i := 2) (v := ?_) (op_at rfl) (by kernel_rfl) (by kernel_rfl) (by kernel_rfl) (fun _ _ _ h => h) (Or.inl ⟨by rfl, ?_⟩) hS ?_; rotate_left; focus ((intro w' hSw; clear hSw; go_simp) <;> with_reducible rfl)
        try simp only [Act.put, List.setIfInBounds_toArray, List.set_cons_zero, List.set_cons_succ]
        refine wpAnyH_take (i := 3) (v := ?_) (op_at rfl) (by kernel_rfl) (by kernel_rfl) (by kernel_rfl) (fun _ _ _ h => h) (Or.inl ⟨by rfl, ?_⟩) hS ?_; rotate_left; focus ((intro w' hSw; clear hSw; go_simp) <;> with_reducible rfl)
        try simp only [Act.put, List.setIfInBounds_toArray, List.set_cons_zero, List.set_cons_succ]
        refine wpAnyH_take (i := 4) (v := ?_) (op_at rfl) (by kernel_rfl) (by kernel_rfl) (by kernel_rfl) (fun _ _ _ h => h) (Or.inl ⟨by rfl, ?_⟩) hS ?_; rotate_left; focus ((intro w' hSw; clear hSw; go_simp) <;> with_reducible rfl)
        try simp only [Act.put, List.setIfInBounds_toArray, List.set_cons_zero, List.set_cons_succ]
        refine wpAnyH_take (i := 5) (v := ?_) (op_at rfl) (by kernel_rfl) (by kernel_rfl) (by kernel_rfl) (fun _ _ _ h => h) (Or.inl ⟨by rfl, ?_⟩) hS ?_; rotate_left; focus ((intro w' hSw; clear hSw; go_simp) <;> with_reducible rfl)
        try simp only [Act.put, List.setIfInBounds_toArray, List.set_cons_zero, List.set_cons_succ]
        refine wpAnyH_take (i := 6) (v := ?_) (op_at rfl) (by kernel_rfl) (by kernel_rfl) (by kernel_rfl) (fun _ _ _ h => h) (Or.inl ⟨by rfl, ?_⟩) hS ?_; rotate_left; focus ((intro w' hSw; obtain ⟨q, -⟩ := hSw; have c0 : w'.cell? ⟨b, off + k * 8, none⟩ = some (.int .i64 x.par) := q.at_ (i := 0) (v := .int .i64 x.par) rfl; have c1 : w'.cell? ⟨b, off + k * 8 + 1, none⟩ = some (.int .i64 x.st) := q.at_ (i := 1) (v := .int .i64 x.st) rfl; have c2 : w'.cell? ⟨b, off + k * 8 + 2, none⟩ = some (.int .i64 x.cur.lv) := q.at_ (i := 2) (v := .int .i64 x.cur.lv) rfl; have c3 : w'.cell? ⟨b, off + k * 8 + 3, none⟩ = some (.int .u64 (u x.cur.c)) := q.at_ (i := 3) (v := .int .u64 (u x.cur.c)) rfl; have c4 : w'.cell? ⟨b, off + k * 8 + 4, none⟩ = some (.int .i64 x.cur.ig) := q.at_ (i := 4) (v := .int .i64 x.cur.ig) rfl; have c5 : w'.cell? ⟨b, off + k * 8 + 5, none⟩ = some (.int .i64 x.high.lv) := q.at_ (i := 5) (v := .int .i64 x.high.lv) rfl; have c6 : w'.cell? ⟨b, off + k * 8 + 6, none⟩ = some (.int .u64 (u x.high.c)) := q.at_ (i := 6) (v := .int .u64 (u x.high.c)) rfl; have c7 : w'.cell? ⟨b, off + k * 8 + 7, none⟩ = some (.int .i64 x.high.ig) := q.at_ (i := 7) (v := .int .i64 x.high.ig) rfl; clear q; go_simp) <;> with_reducible rfl)
        try simp only [Act.put, List.setIfInBounds_toArray, List.set_cons_zero, List.set_cons_succ]
        refine wpAnyH_ready (rs := [7]) (by kernel_rfl) (by simp) ?_
        refine (AllReadyH.cons (op_at rfl) (fun K hK => ?_) AllReadyH.nil)
        go_simp
        obtain ⟨b0, hb⟩ := hS
        refine (rIs HR.out ((HL.out.later hb hb.size).take k HMK.out (by omega) (by omega))).mono ?_
        rintro e w2 ⟨rfl, hB⟩
        refine hK.out _ _ ⟨b0.after hB, below_call hb hB⟩ (fun hS => ?_)
        clear hK K hB b0 hb
        try simp only [Act.put, List.setIfInBounds_toArray, List.set_cons_zero, List.set_cons_succ]
        refine wpAnyH_take (i := 8) (v := ?_) (op_at rfl) (by kernel_rfl) (by kernel_rfl) (by kernel_rfl) (fun _ _ _ h => h) (Or.inl ⟨by rfl, ?_⟩) hS ?_; rotate_left; focus ((intro w' hSw; clear hSw; go_simp) <;> with_reducible rfl)
        try simp only [Act.put, List.setIfInBounds_toArray, List.set_cons_zero, List.set_cons_succ]
        refine wpAnyH_done (by kernel_rfl) ?_ _
        obtain ⟨b0, hb⟩ := hS
        replace B0 := Lib.hid b0
        clear b0
        replace HB := Lib.hid hb
        clear hb
        go_wp2_with fail
        go_ret
        exact ⟨by rw [right_no HX.out HR.out]; rfl, HB.out⟩
      · have HR := Lib.hid hr
        clear hr
        go_wp2_with fail
        refine wp_region_gen (S := (fun W' => Els W' (b) (off + k * 8) #[.int .i64 x.par, .int .i64 x.st, .int .i64 x.cur.lv, .int .u64 (u x.cur.c), .int .i64 x.cur.ig, .int .i64 x.high.lv, .int .u64 (u x.high.c), .int .i64 x.high.ig] ∧ Below w0.heap.size w0 W')) (by kernel_rfl) ⟨(by repeat (first | exact B0.out | refine Els.drew ?_ | refine Els.alloc ?_ _)), (by repeat (first | exact HB.out | refine below_alloc ?_ _ | refine Below.drew ?_ | refine below_set ?_ (by omega) _))⟩ (fun w1 hS => ?_)
        refine wpAnyH_take (i := 0) (v := ?_) (op_at rfl) (by kernel_rfl) (by kernel_rfl) (by kernel_rfl) (fun _ _ _ h => h) (Or.inl ⟨by rfl, ?_⟩) hS ?_; rotate_left; focus ((intro w' hSw; clear hSw; go_simp) <;> with_reducible rfl)
        try simp only [Act.put, List.setIfInBounds_toArray, List.set_cons_zero, List.set_cons_succ]
        refine wpAnyH_take (i := 1) (v := ?_) (op_at rfl) (by kernel_rfl) (by kernel_rfl) (by kernel_rfl) (fun _ _ _ h => h) (Or.inl ⟨by rfl, ?_⟩) hS ?_; rotate_left; focus ((intro w' hSw; clear hSw; go_simp) <;> with_reducible rfl)
        try simp only [Act.put, List.setIfInBounds_toArray, List.set_cons_zero, List.set_cons_succ]
        refine wpAnyH_take (i := 2) (v := ?_) (op_at rfl) (by kernel_rfl) (by kernel_rfl) (by kernel_rfl) (fun _ _ _ h => h) (Or.inl ⟨by rfl, ?_⟩) hS ?_; rotate_left; focus ((intro w' hSw; clear hSw; go_simp) <;> with_reducible rfl)
        try simp only [Act.put, List.setIfInBounds_toArray, List.set_cons_zero, List.set_cons_succ]
        refine wpAnyH_take (i := 3) (v := ?_) (op_at rfl) (by kernel_rfl) (by kernel_rfl) (by kernel_rfl) (fun _ _ _ h => h) (Or.inl ⟨by rfl, ?_⟩) hS ?_; rotate_left; focus ((intro w' hSw; clear hSw; go_simp) <;> with_reducible rfl)
        try simp only [Act.put, List.setIfInBounds_toArray, List.set_cons_zero, List.set_cons_succ]
        refine wpAnyH_take (i := 4) (v := ?_) (op_at rfl) (by kernel_rfl) (by kernel_rfl) (by kernel_rfl) (fun _ _ _ h => h) (Or.inl ⟨by rfl, ?_⟩) hS ?_; rotate_left; focus ((intro w' hSw; clear hSw; go_simp) <;> with_reducible rfl)
        try simp only [Act.put, List.setIfInBounds_toArray, List.set_cons_zero, List.set_cons_succ]
        refine wpAnyH_take (i := 5) (v := ?_) (op_at rfl) (by kernel_rfl) (by kernel_rfl) (by kernel_rfl) (fun _ _ _ h => h) (Or.inl ⟨by rfl, ?_⟩) hS ?_; rotate_left; focus ((intro w' hSw; clear hSw; go_simp) <;> with_reducible rfl)
        try simp only [Act.put, List.setIfInBounds_toArray, List.set_cons_zero, List.set_cons_succ]
        refine wpAnyH_take (i := 6) (v := ?_) (op_at rfl) (by kernel_rfl) (by kernel_rfl) (by kernel_rfl) (fun _ _ _ h => h) (Or.inl ⟨by rfl, ?_⟩) hS ?_; rotate_left; focus ((intro w' hSw; obtain ⟨q, -⟩ := hSw; have c0 : w'.cell? ⟨b, off + k * 8, none⟩ = some (.int .i64 x.par) := q.at_ (i := 0) (v := .int .i64 x.par) rfl; have c1 : w'.cell? ⟨b, off + k * 8 + 1, none⟩ = some (.int .i64 x.st) := q.at_ (i := 1) (v := .int .i64 x.st) rfl; have c2 : w'.cell? ⟨b, off + k * 8 + 2, none⟩ = some (.int .i64 x.cur.lv) := q.at_ (i := 2) (v := .int .i64 x.cur.lv) rfl; have c3 : w'.cell? ⟨b, off + k * 8 + 3, none⟩ = some (.int .u64 (u x.cur.c)) := q.at_ (i := 3) (v := .int .u64 (u x.cur.c)) rfl; have c4 : w'.cell? ⟨b, off + k * 8 + 4, none⟩ = some (.int .i64 x.cur.ig) := q.at_ (i := 4) (v := .int .i64 x.cur.ig) rfl; have c5 : w'.cell? ⟨b, off + k * 8 + 5, none⟩ = some (.int .i64 x.high.lv) := q.at_ (i := 5) (v := .int .i64 x.high.lv) rfl; have c6 : w'.cell? ⟨b, off + k * 8 + 6, none⟩ = some (.int .u64 (u x.high.c)) := q.at_ (i := 6) (v := .int .u64 (u x.high.c)) rfl; have c7 : w'.cell? ⟨b, off + k * 8 + 7, none⟩ = some (.int .i64 x.high.ig) := q.at_ (i := 7) (v := .int .i64 x.high.ig) rfl; clear q; go_simp) <;> with_reducible rfl)
        try simp only [Act.put, List.setIfInBounds_toArray, List.set_cons_zero, List.set_cons_succ]
        refine wpAnyH_ready (rs := [7]) (by kernel_rfl) (by simp) ?_
        refine (AllReadyH.cons (op_at rfl) (fun K hK => ?_) AllReadyH.nil)
        go_simp
        obtain ⟨b0, hb⟩ := hS
        refine (rIs HR.out ((HL.out.later hb hb.size).take k HMK.out (by omega) (by omega))).mono ?_
        rintro e w2 ⟨rfl, hB⟩
        refine hK.out _ _ ⟨b0.after hB, below_call hb hB⟩ (fun hS => ?_)
        clear hK K hB b0 hb
        try simp only [Act.put, List.setIfInBounds_toArray, List.set_cons_zero, List.set_cons_succ]
        refine wpAnyH_take (i := 8) (v := ?_) (op_at rfl) (by kernel_rfl) (by kernel_rfl) (by kernel_rfl) (fun _ _ _ h => h) (Or.inl ⟨by rfl, ?_⟩) hS ?_; rotate_left; focus ((intro w' hSw; clear hSw; go_simp) <;> with_reducible rfl)
        try simp only [Act.put, List.setIfInBounds_toArray, List.set_cons_zero, List.set_cons_succ]
        refine wpAnyH_done (by kernel_rfl) ?_ _
        obtain ⟨b0, hb⟩ := hS
        replace B0 := Lib.hid b0
        clear b0
        replace HB := Lib.hid hb
        clear hb
        go_wp2_with fail
        go_roundw
        case rel => exact ⟨k + 1, by go_num, by omega, fun j y hj hy => by
          by_cases e : j = k
          · subst e; rw [HX.out] at hy; cases hy; exact HR.out
          · exact HA.out j y (by omega) hy, HB.out⟩
        case measure => simp [intOf]; omega
    · have hke : k = l.length := by omega
      subst hke
      have hr := right_all HA.out
      have HR := Lib.hid hr
      clear hr
      by_cases h8 : l.length ≤ 8
      · have hz8 : (l.length : Int) ≤ 8 := by omega
        go_wp2_with fail
        go_ret
        exact ⟨by rw [HR.out]; simp [h8], HB.out⟩
      · have hz8 : ¬ (l.length : Int) ≤ 8 := by omega
        go_wp2_with fail
        go_ret
        exact ⟨by rw [HR.out]; simp [h8], HB.out⟩
end

section
open Go.RowKit

theorem has_any (A : Option Addr) (m c tb : Nat) (who : Int) (w : World) (ht : w.cell? ⟨tb, 0, none⟩ = some (.slice A m c)) :
    Calls Tryd.prog 33 #[.pointer (some ⟨tb, 0, none⟩), .int .i64 who] w fun e w' => e = .returned (.bool (decide (0 ≤ who) && decide (who < (m : Int)))) ∧ w = w' := by
  by_cases h0 : 0 ≤ who
  · by_cases h1 : who < (m : Int)
    · go_enter Tryd.func33, Tryd.ntmps33
      go_wp2
      go_ret
      exact ⟨by simp [h0, h1], rfl⟩
    · go_enter Tryd.func33, Tryd.ntmps33
      go_wp2
      go_ret
      exact ⟨by simp [h1], rfl⟩
  · go_enter Tryd.func33, Tryd.ntmps33
    go_wp2
    go_ret
    exact ⟨by simp; omega, rfl⟩
theorem hasIs {A : Option Addr} {m c tb : Nat} {who : Int} {r : Bool} (h : (decide (0 ≤ who) && decide (who < (m : Int))) = r) {w : World} (ht : w.cell? ⟨tb, 0, none⟩ = some (.slice A m c)) :
    Calls Tryd.prog 33 #[.pointer (some ⟨tb, 0, none⟩), .int .i64 who] w fun e w' => e = .returned (.bool r) ∧ w = w' := by
  subst h; exact has_any A m c tb who w ht
theorem rightSIs {l : List Sub} {r : Bool} (h : rightT l = r) {v : Value} {W : World} (hl : SubsAt W.heap.size W v l) : Calls Tryd.prog 19 #[v] W fun e w' => e = .returned (.bool r) ∧ Below W.heap.size W w' := by
  subst h; exact rightS_any l v W hl
theorem rRightSIs {l : List Sub} {r : Bool} (h : rightT l = r) {v : Value} {W : World} (hl : SubsAt W.heap.size W v l) : Calls Tryd.prog 24 #[v] W fun e w' => e = .returned (.bool r) ∧ Below W.heap.size W w' := by
  subst h; exact rRightS_any l v W hl
theorem alive_no {l : List Sub} {who : Int} (h : rightT l = false) : aliveT l who = false := by unfold aliveT; rw [h]; rfl
theorem alive_out {l : List Sub} {who : Int} (h : ¬ (0 ≤ who ∧ who < (l.length : Int))) : aliveT l who = false := by
  unfold aliveT
  by_cases h0 : 0 ≤ who
  · rw [List.getElem?_eq_none (by omega)]; simp
  · simp [h0]
theorem alive_in {l : List Sub} {k : Nat} {x : Sub} (h : rightT l = true) (hx : l[k]? = some x) : aliveT l (k : Int) = (x.st == 1) := by
  unfold aliveT
  rw [h, Int.toNat_natCast, hx]; simp
set_option maxRecDepth 100000 in
set_option maxHeartbeats 4000000 in
theorem alive_any (l : List Sub) (v : Value) (who : Int) (w : World) (hl : SubsAt w.heap.size w v l) :
    Calls Tryd.prog 22 #[v, .int .i64 who] w fun e w' => e = .returned (.bool (aliveT l who)) ∧ Below w.heap.size w w' := by
  obtain ⟨sA, sc, rfl, hcap, hsc, _⟩ := hl.slice
  have HL := Lib.hid hl
  clear hl
  cases hr : rightT l
  · rw [alive_no hr]
    have HR := Lib.hid hr
    clear hr
    go_enter Tryd.func22, Tryd.ntmps22
    go_wp2_with fail
    refine (rightSIs HR.out HL.out).mono ?_
    rintro e w1 ⟨rfl, hB⟩
    have HB := Lib.hid hB
    clear hB
    go_wp2_with fail
    go_ret
    exact ⟨rfl, HB.out⟩
  · by_cases hi : 0 ≤ who ∧ who < (l.length : Int)
    · obtain ⟨k, rfl⟩ := Int.eq_ofNat_of_zero_le hi.1
      have hkl : k < l.length := by omega
      obtain ⟨x, hx⟩ : ∃ x, l[k]? = some x := ⟨_, List.getElem?_eq_getElem hkl⟩
      rw [alive_in hr hx]
      have HR := Lib.hid hr
      have HX := Lib.hid hx
      have hh : (decide ((0 : Int) ≤ (k : Int)) && decide ((k : Int) < (l.length : Int))) = true := by simp [hi.1, hi.2]
      have HH := Lib.hid hh
      have hz1 := hi.1
      have hz2 := hi.2
      clear hr hx hi hh
      cases hs : (x.st == 1)
      all_goals
        go_enter Tryd.func22, Tryd.ntmps22
        go_wp2_with fail
        refine (rightSIs HR.out HL.out).mono ?_
        rintro e w1 ⟨rfl, hB⟩
        have HB := Lib.hid hB
        obtain ⟨b, off, hA, hlt, he⟩ := (HL.out.later HB.out HB.out.size).el HX.out (Nat.le_refl _)
        subst hA
        have p1 : w1.cell? ⟨b, off + k * 8 + 1, none⟩ = some (.int .i64 x.st) := he.at_ (i := 1) rfl
        have pl : b < w1.heap.size := he.lt
        clear hB he
        go_wp2_with fail
        refine (hasIs HH.out (World.cell?_alloc_at _ _ _ _ rfl)).mono ?_
        rintro e w2 ⟨rfl, rfl⟩
        go_wp2_with fail
        go_ret
        exact ⟨rfl, below_alloc HB.out _⟩
    · rw [alive_out hi]
      have HR := Lib.hid hr
      have hh : (decide ((0 : Int) ≤ who) && decide (who < (l.length : Int))) = false := by
        cases hb : (decide ((0 : Int) ≤ who) && decide (who < (l.length : Int)))
        · rfl
        · simp at hb; exact absurd hb hi
      have HH := Lib.hid hh
      clear hr hh hi
      go_enter Tryd.func22, Tryd.ntmps22
      go_wp2_with fail
      refine (rightSIs HR.out HL.out).mono ?_
      rintro e w1 ⟨rfl, hB⟩
      have HB := Lib.hid hB
      clear hB
      go_wp2_with fail
      refine (hasIs HH.out (World.cell?_alloc_at _ _ _ _ rfl)).mono ?_
      rintro e w2 ⟨rfl, rfl⟩
      go_wp2_with fail
      go_ret
      exact ⟨rfl, below_alloc HB.out _⟩
set_option maxRecDepth 100000 in
set_option maxHeartbeats 4000000 in
theorem rAlive_any (l : List Sub) (v : Value) (who : Int) (w : World) (hl : SubsAt w.heap.size w v l) :
    Calls Tryd.prog 25 #[v, .int .i64 who] w fun e w' => e = .returned (.bool (aliveT l who)) ∧ Below w.heap.size w w' := by
  obtain ⟨sA, sc, rfl, hcap, hsc, _⟩ := hl.slice
  have HL := Lib.hid hl
  clear hl
  cases hr : rightT l
  · rw [alive_no hr]
    have HR := Lib.hid hr
    clear hr
    go_enter Tryd.func25, Tryd.ntmps25
    go_wp2_with fail
    refine (rRightSIs HR.out HL.out).mono ?_
    rintro e w1 ⟨rfl, hB⟩
    have HB := Lib.hid hB
    clear hB
    go_wp2_with fail
    go_ret
    exact ⟨rfl, HB.out⟩
  · by_cases hi : 0 ≤ who ∧ who < (l.length : Int)
    · obtain ⟨k, rfl⟩ := Int.eq_ofNat_of_zero_le hi.1
      have hkl : k < l.length := by omega
      obtain ⟨x, hx⟩ : ∃ x, l[k]? = some x := ⟨_, List.getElem?_eq_getElem hkl⟩
      rw [alive_in hr hx]
      have HR := Lib.hid hr
      have HX := Lib.hid hx
      have hz1 := hi.1
      have hz2 := hi.2
      clear hr hx hi
      cases hs : (x.st == 1)
      all_goals
        go_enter Tryd.func25, Tryd.ntmps25
        go_wp2_with fail
        refine (rRightSIs HR.out HL.out).mono ?_
        rintro e w1 ⟨rfl, hB⟩
        have HB := Lib.hid hB
        obtain ⟨b, off, hA, hlt, he⟩ := (HL.out.later HB.out HB.out.size).el HX.out (Nat.le_refl _)
        subst hA
        have p1 : w1.cell? ⟨b, off + k * 8 + 1, none⟩ = some (.int .i64 x.st) := he.at_ (i := 1) rfl
        clear hB he
        go_wp2_with fail
        go_ret
        exact ⟨rfl, HB.out⟩
    · rw [alive_out hi]
      have HR := Lib.hid hr
      clear hr
      by_cases h0 : 0 ≤ who
      · have h1 : ¬ who < (l.length : Int) := fun h => hi ⟨h0, h⟩
        clear hi
        go_enter Tryd.func25, Tryd.ntmps25
        go_wp2_with fail
        refine (rRightSIs HR.out HL.out).mono ?_
        rintro e w1 ⟨rfl, hB⟩
        have HB := Lib.hid hB
        clear hB
        go_wp2_with fail
        go_ret
        exact ⟨rfl, HB.out⟩
      · clear hi
        go_enter Tryd.func25, Tryd.ntmps25
        go_wp2_with fail
        refine (rRightSIs HR.out HL.out).mono ?_
        rintro e w1 ⟨rfl, hB⟩
        have HB := Lib.hid hB
        clear hB
        go_wp2_with fail
        go_ret
        exact ⟨rfl, HB.out⟩
end

section
open Go.RowKit Go.Extern.Stop Go.Stop Go.Extern

/-! ### errors.As: closed facts -/
theorem valueOfPZ (t : Addr) (w : World) : (callFunc 61 #[.iface 87 (.pointer (some t))]).run Tryd.prog w
    = .ok (.value (.agg #[.pointer (some ⟨2, 87, none⟩), .pointer (some ⟨w.heap.size, 0, none⟩), .int .u64 150])) (w.alloc (.cells #[.pointer (some t)] 87)) := by kernel_rfl
theorem typePZ (a : Addr) (w : World) : (callFunc 62 #[.agg #[.pointer (some ⟨2, 87, none⟩), .pointer (some a), .int .u64 150]]).run Tryd.prog w
    = .ok (.value (.iface 117 (.agg #[.pointer (some ⟨2, 87, none⟩)]))) w := by kernel_rfl
theorem kindPZ (w : World) : (callFunc 94 #[.pointer (some ⟨2, 87, none⟩)]).run Tryd.prog w = .ok (.value (.int .u8 22)) w := by kernel_rfl
theorem kindWZ (w : World) : (callFunc 94 #[.pointer (some ⟨2, 83, none⟩)]).run Tryd.prog w = .ok (.value (.int .u8 25)) w := by kernel_rfl
theorem elemPZ (w : World) : (callFunc 110 #[.agg #[.pointer (some ⟨2, 87, none⟩)]]).run Tryd.prog w
    = .ok (.value (.iface 117 (.agg #[.pointer (some ⟨2, 83, none⟩)]))) w := by kernel_rfl
theorem implWZ (w : World) : (callFunc 111 #[.agg #[.pointer (some ⟨2, 83, none⟩)], .iface 117 (.agg #[.pointer (some ⟨2, 61, none⟩)])]).run Tryd.prog w = .ok (.value (.bool true)) w := by kernel_rfl
theorem typeOfWZ (v : Value) (w : World) : (callFunc 69 #[.iface 83 v]).run Tryd.prog w
    = .ok (.value (.iface 117 (.agg #[.pointer (some ⟨2, 83, none⟩)]))) w := by kernel_rfl
theorem assignWZ (w : World) : (callFunc 108 #[.agg #[.pointer (some ⟨2, 83, none⟩)], .iface 117 (.agg #[.pointer (some ⟨2, 83, none⟩)])]).run Tryd.prog w = .ok (.value (.bool true)) w := by kernel_rfl
theorem valueOfWZ (c0 : Value) (w : World) : (callFunc 61 #[.iface 83 (.agg #[c0])]).run Tryd.prog w
    = .ok (.value (.agg #[.pointer (some ⟨2, 83, none⟩), .pointer (some ⟨w.heap.size, 0, none⟩), .int .u64 153])) (w.alloc (.cells #[c0] 83)) := by kernel_rfl
theorem partsPZ (a : Addr) (w : World) : (ReflectliteValue.parts (.agg #[.pointer (some ⟨2, 87, none⟩), .pointer (some a), .int .u64 150])).run Tryd.prog w = .ok (some (87, a, 150)) w := by kernel_rfl
theorem isNilPZ (a p : Addr) (W : World) (ha : W.cell? a = some (.pointer (some p))) :
    (callFunc 63 #[.agg #[.pointer (some ⟨2, 87, none⟩), .pointer (some a), .int .u64 150]]).run Tryd.prog W = .ok (.value (.bool false)) W := by
  rw [@run_callFunc_extern Tryd.prog 63 _ (ReflectliteValue.method (ReflectliteValue.valueError "reflectlite.Value.IsNil" 0) ReflectliteValue.isNil) Tryd.func63 (by kernel_rfl) (by kernel_rfl) (by kernel_rfl) (by kernel_rfl), rlm]
  simp only [Sem.run_bind, partsPZ, Result.andThen]
  simp [ReflectliteValue.isNil, loadVar, isAgg, underlying, Tryd.underlying87, ha, Result.andThen]
theorem elemOfPZ (w : World) : (Rtype.elem? 87).run Tryd.prog w = .ok (some 83) w := by kernel_rfl
theorem mkWZ (p : Addr) (w : World) : (ReflectliteValue.mk 83 p ReflectliteValue.flagAddr).run Tryd.prog w = .ok (.agg #[.pointer (some ⟨2, 83, none⟩), .pointer (some p), .int .u64 409]) w := by kernel_rfl
theorem elemVPZ (a p : Addr) (W : World) (ha : W.cell? a = some (.pointer (some p))) :
    (callFunc 70 #[.agg #[.pointer (some ⟨2, 87, none⟩), .pointer (some a), .int .u64 150]]).run Tryd.prog W = .ok (.value (.agg #[.pointer (some ⟨2, 83, none⟩), .pointer (some p), .int .u64 409])) W := by
  rw [@run_callFunc_extern Tryd.prog 70 _ (ReflectliteValue.method (ReflectliteValue.valueError "reflectlite.Value.Elem" 0) ReflectliteValue.elem) Tryd.func70 (by kernel_rfl) (by kernel_rfl) (by kernel_rfl) (by kernel_rfl), rlm]
  simp only [Sem.run_bind, partsPZ, Result.andThen]
  simp [ReflectliteValue.elem, loadVar, isAgg, underlying, Tryd.underlying87, ha, Result.andThen, elemOfPZ, mkWZ]
theorem partsWaZ (a : Addr) (w : World) : (ReflectliteValue.parts (.agg #[.pointer (some ⟨2, 83, none⟩), .pointer (some a), .int .u64 409])).run Tryd.prog w = .ok (some (83, a, 409)) w := by kernel_rfl
theorem partsWZ (a : Addr) (w : World) : (ReflectliteValue.parts (.agg #[.pointer (some ⟨2, 83, none⟩), .pointer (some a), .int .u64 153])).run Tryd.prog w = .ok (some (83, a, 153)) w := by kernel_rfl
theorem directWZ (w : World) : (Rtype.directlyAssignable 83 83).run Tryd.prog w = .ok true w := by kernel_rfl
theorem setWZ (tb bb : Nat) (why : Int) (W : World)
    (h0 : W.cell? ⟨bb, 0, none⟩ = some (.int .i64 why))
    (t0 : W.cell? ⟨tb, 0, none⟩ = some (.int .i64 0))
    (f0 : W.frozen? ⟨tb, 0, none⟩ = false) :
    (callFunc 71 #[.agg #[.pointer (some ⟨2, 83, none⟩), .pointer (some ⟨tb, 0, none⟩), .int .u64 409], .agg #[.pointer (some ⟨2, 83, none⟩), .pointer (some ⟨bb, 0, none⟩), .int .u64 153]]).run Tryd.prog W
      = .ok (.value (.tuple #[])) (W.setCell ⟨tb, 0, none⟩ (.int .i64 why)) := by
  rw [@run_callFunc_extern Tryd.prog 71 _ ReflectliteValue.set Tryd.func71 (by kernel_rfl) (by kernel_rfl) (by kernel_rfl) (by kernel_rfl), rls]
  simp only [Sem.run_bind, partsWaZ, partsWZ, Result.andThen]
  simp [ReflectliteValue.flagAddr, Result.andThen, directWZ]
  go_simp
theorem typeOfB (v : Value) (w : World) : (callFunc 69 #[.iface 85 v]).run Tryd.prog w
    = .ok (.value (.iface 117 (.agg #[.pointer (some ⟨2, 85, none⟩)]))) w := by kernel_rfl
theorem assignB (w : World) : (callFunc 108 #[.agg #[.pointer (some ⟨2, 85, none⟩)], .iface 117 (.agg #[.pointer (some ⟨2, 83, none⟩)])]).run Tryd.prog w = .ok (.value (.bool false)) w := by kernel_rfl
theorem noAsB (v : Value) (xT : TypeId) (w : World) : (Instr.typeAssert (.iface 85 v) xT 122 true).run Tryd.prog w = .ok (.tuple #[.nilIface, .bool false]) w := run_typeAssert_lacksB Tryd.underlying122 (by kernel_rfl) (by kernel_rfl) v xT w
theorem hasUnwrapB (v : Value) (xT : TypeId) (w : World) : (Instr.typeAssert (.iface 85 v) xT 125 true).run Tryd.prog w = .ok (.tuple #[.iface 85 v, .bool true]) w := run_typeAssert_hasB Tryd.underlying125 (by kernel_rfl) v xT w
/-- what is not done, and by whom -/
def byV (who why : Int) : Value := .iface 85 (.agg #[.int .i64 who, .iface 83 (.agg #[.int .i64 why])])
theorem unwrapB (who : Int) (e : Value) (w : World) :
    Calls Tryd.prog 99 #[.agg #[.int .i64 who, e]] w fun r w' => r = .returned e ∧ w.alloc (.cells #[.int .i64 who, e] 85) = w' := by
  go_enter Tryd.func99, Tryd.ntmps99
  go_wp2
  go_ret
  exact ⟨rfl, rfl⟩
set_option maxRecDepth 100000 in
set_option maxHeartbeats 4000000 in
theorem as2_by (who why : Int) (tb ab : Nat) (w : World) (ha : w.cell? ⟨ab, 0, none⟩ = some (.pointer (some ⟨tb, 0, none⟩))) (hab : ab < w.heap.size) (htb : tb < w.heap.size)
    (t0 : w.cell? ⟨tb, 0, none⟩ = some (.int .i64 0)) (f0 : w.frozen? ⟨tb, 0, none⟩ = false) :
    Calls Tryd.prog 64 #[.iface 85 (.agg #[.int .i64 who, .iface 83 (.agg #[.int .i64 why])]), .iface 87 (.pointer (some ⟨tb, 0, none⟩)), .agg #[.pointer (some ⟨2, 87, none⟩), .pointer (some ⟨ab, 0, none⟩), .int .u64 150], .iface 117 (.agg #[.pointer (some ⟨2, 83, none⟩)])] w
      fun e w' => e = .returned (.bool true) ∧ w'.cell? ⟨tb, 0, none⟩ = some (.int .i64 why) ∧ w.grownBy w' (some tb) := by
  have c1 := typeOfWZ
  have c2 := assignWZ
  have c3 := valueOfWZ
  have d1 := typeOfB
  have d2 := assignB
  have d3 := noAsB
  have d4 := hasUnwrapB
  have hA2 : ∀ (o o' : Obj) (p : Addr), p.block < w.heap.size → ((w.alloc o).alloc o').cell? p = w.cell? p := fun o o' p h => (World.cell?_alloc_lt _ _ p (by simp; omega)).trans (World.cell?_alloc_lt _ _ p h)
  have hA3 : ∀ (o o' o2 : Obj) (p : Addr), p.block < w.heap.size → (((w.alloc o).alloc o').alloc o2).cell? p = w.cell? p := fun o o' o2 p h => (World.cell?_alloc_lt _ _ p (by simp; omega)).trans (hA2 o o' p h)
  have hF3 : ∀ (o o' o2 : Obj) (p : Addr), p.block < w.heap.size → (((w.alloc o).alloc o').alloc o2).frozen? p = w.frozen? p := fun o o' o2 p h => (World.frozen?_alloc_old _ _ p (by simp; omega)).trans ((World.frozen?_alloc_old _ _ p (by simp; omega)).trans (World.frozen?_alloc_old _ _ p (by omega)))
  have c4 := elemVPZ ⟨ab, 0, none⟩ ⟨tb, 0, none⟩ ((w.alloc (.cells #[.pointer (some ⟨2, 87, none⟩), .pointer (some ⟨ab, 0, none⟩), .int .u64 150] 101)).alloc (.cells #[.int .i64 who, .iface 83 (.agg #[.int .i64 why])] 85)) ((hA2 _ _ _ hab).trans ha)
  have c5 := setWZ tb (w.heap.size + 1 + 1) why
    (((w.alloc (.cells #[.pointer (some ⟨2, 87, none⟩), .pointer (some ⟨ab, 0, none⟩), .int .u64 150] 101)).alloc (.cells #[.int .i64 who, .iface 83 (.agg #[.int .i64 why])] 85)).alloc (.cells #[.int .i64 why] 83))
    (World.cell?_alloc_at _ _ _ _ (by simp)) ((hA3 _ _ _ _ htb).trans t0) ((hF3 _ _ _ _ htb).trans f0)
  have t1 := (hA3 (.cells #[.pointer (some ⟨2, 87, none⟩), .pointer (some ⟨ab, 0, none⟩), .int .u64 150] 101) (.cells #[.int .i64 who, .iface 83 (.agg #[.int .i64 why])] 85) (.cells #[.int .i64 why] 83) ⟨tb, 0, none⟩ htb).trans t0
  have T1 := Lib.hid t1
  clear hA2 hA3 hF3 ha t0 f0 hab htb t1
  go_enter Tryd.func64, Tryd.ntmps64
  go_wp2_with fail
  refine wp_loop_rounds 2 ?_
  rw [rounds_succ]
  go_wp2_with fail
  refine (unwrapB who _ _).mono ?_
  rintro e w1 ⟨rfl, rfl⟩
  go_wp2_with fail
  rw [rounds_succ]
  go_wp2_with fail
  go_ret
  have hset : ∀ (W : World) (o : Nat) (v : Value), W.grownBy (W.setCell ⟨tb, o, none⟩ v) (some tb) := fun W o v =>
    ⟨rfl, rfl, rfl, by simp [World.setCell], fun k _ hne => Below.heap_setCell _ _ _ _ (fun e => hne (by rw [e]))⟩
  exact ⟨rfl, World.cell?_setCell_same _ _ _ T1.out, (((World.grownBy_alloc _ _ _).trans (World.grownBy_alloc _ _ _)).trans (World.grownBy_alloc _ _ _)).trans (hset _ _ _)⟩
set_option maxRecDepth 100000 in
set_option maxHeartbeats 4000000 in
theorem as_by (who why : Int) (tb : Nat) (w : World) (hh : Handle w) (htb : tb < w.heap.size) (t0 : w.cell? ⟨tb, 0, none⟩ = some (.int .i64 0)) (f0 : w.frozen? ⟨tb, 0, none⟩ = false) :
    Calls Tryd.prog 51 #[byV who why, .iface 87 (.pointer (some ⟨tb, 0, none⟩))] w
      fun e w' => e = .returned (.bool true) ∧ w'.cell? ⟨tb, 0, none⟩ = some (.int .i64 why) ∧ w.grownBy w' (some tb) := by
  have c1 := valueOfPZ
  have c2 := typePZ
  have c3 := kindPZ
  have c4 := kindWZ
  have c5 := elemPZ
  have c6 := implWZ
  have hg := hh.2
  have hlt := hh.1
  clear hh
  unfold byV
  have hA2 : ∀ (o o' : Obj) (p : Addr), p.block < w.heap.size → ((w.alloc o).alloc o').cell? p = w.cell? p := fun o o' p h => (World.cell?_alloc_lt _ _ p (by simp; omega)).trans (World.cell?_alloc_lt _ _ p h)
  have hF2 : ∀ (o o' : Obj) (p : Addr), p.block < w.heap.size → ((w.alloc o).alloc o').frozen? p = w.frozen? p := fun o o' p h => (World.frozen?_alloc_old _ _ p (by simp; omega)).trans (World.frozen?_alloc_old _ _ p (by omega))
  have c7 := isNilPZ ⟨w.heap.size, 0, none⟩ ⟨tb, 0, none⟩
    ((w.alloc (.cells #[.pointer (some ⟨tb, 0, none⟩)] 87)).alloc (.cells #[.pointer (some ⟨2, 87, none⟩), .pointer (some ⟨w.heap.size, 0, none⟩), .int .u64 150] 101))
    ((World.cell?_alloc_lt _ _ _ (by simp)).trans (World.cell?_alloc_at _ _ _ _ rfl))
  have hgA := (hA2 (.cells #[.pointer (some ⟨tb, 0, none⟩)] 87) (.cells #[.pointer (some ⟨2, 87, none⟩), .pointer (some ⟨w.heap.size, 0, none⟩), .int .u64 150] 101) ⟨0, 0, none⟩ hlt).trans hg
  have HA := Lib.hid (as2_by who why tb w.heap.size
    ((w.alloc (.cells #[.pointer (some ⟨tb, 0, none⟩)] 87)).alloc (.cells #[.pointer (some ⟨2, 87, none⟩), .pointer (some ⟨w.heap.size, 0, none⟩), .int .u64 150] 101))
    ((World.cell?_alloc_lt _ _ _ (by simp)).trans (World.cell?_alloc_at _ _ _ _ rfl)) (by simp; omega) (by simp; omega)
    ((hA2 _ _ _ htb).trans t0) ((hF2 _ _ _ htb).trans f0))
  clear hA2 hF2 t0 f0 htb
  go_enter Tryd.func51, Tryd.ntmps51
  go_wp2_with fail
  refine HA.out.mono ?_
  rintro e w' ⟨rfl, hc, hg2⟩
  have HC := Lib.hid hc
  clear hc
  go_wp2
  go_ret
  exact ⟨rfl, HC.out, ((World.grownBy_alloc _ _ _).trans (World.grownBy_alloc _ _ _)).trans hg2⟩
theorem toldS_any (who why : Int) (w : World) (hh : Handle w) :
    Calls Tryd.prog 34 #[byV who why] w fun e w' => e = .returned (.int .i64 why) ∧ Below w.heap.size w w' := by
  have HH := Lib.hid hh
  clear hh
  go_enter Tryd.func34, Tryd.ntmps34
  go_wp2_with fail
  refine (as_by who why w.heap.size _ (HH.out.up (below_alloc (Below.refl w.heap.size w) _)) (by simp) (World.cell?_alloc_at _ _ _ _ rfl) ((Blk.new' rfl).frozen 0)).mono ?_
  rintro e w1 ⟨rfl, hc, hg⟩
  have HB : Below w.heap.size w w1 := (below_alloc (Below.refl w.heap.size w) _).grown hg (by simp) (fun k e => by cases e; exact Nat.le_refl _)
  have HB' := Lib.hid HB
  clear HB hg
  go_wp2
  go_ret
  exact ⟨rfl, HB'.out⟩
end

section
open Go.RowKit

attribute [local go_sem] u_and u_or u_andNot u_add u_sub u_bit u_eq_zero u_beq

/-- what is wrong so far -/
def errV (who : Int) : Option Int → Value
  | none => .nilIface
  | some y => byV who y
def encC (c : Bool × Int) : Array Value := #[.bool c.1, .int .i64 c.2]
abbrev ChecksAt := RowsAt encC 2
def stepM : Option Int → Bool × Int → Option Int
  | some y, _ => some y
  | none, (true, _) => none
  | none, (false, y) => some y
def mustO (o : Option Int) (cs : List (Bool × Int)) : Option Int := cs.foldl stepM o
theorem take_snocS {α : Type} {l : List α} {k : Nat} {x : α} (h : l[k]? = some x) : l.take (k + 1) = l.take k ++ [x] := by
  rw [List.take_add_one, h]; rfl
theorem mustO_snoc {o : Option Int} {cs : List (Bool × Int)} {k : Nat} {c : Bool × Int} (h : cs[k]? = some c) : mustO o (cs.take (k + 1)) = stepM (mustO o (cs.take k)) c := by
  unfold mustO
  rw [take_snocS h, List.foldl_append]; rfl
set_option maxRecDepth 100000 in
set_option maxHeartbeats 4000000 in
theorem must_any (who : Int) (o : Option Int) (cs : List (Bool × Int)) (eb : Nat) (sl cv : Value) (w0 : World) (he : Blk w0 eb 63 #[sl, .int .i64 who, errV who o]) (hc : ChecksAt w0.heap.size w0 cv cs)
    (hne : ∀ b off m c, cv = .slice (some ⟨b, off, none⟩) m c → b ≠ eb) :
    Calls Tryd.prog 32 #[.pointer (some ⟨eb, 0, none⟩), cv] w0 fun e w' => e = .returned (.tuple #[]) ∧ Blk w' eb 63 #[sl, .int .i64 who, errV who (mustO o cs)] ∧ Turns (· = eb) w0 w' := by
  obtain ⟨sA, sc, rfl, hcap, hsc, _⟩ := hc.slice
  have HC := Lib.hid hc
  have HNE := Lib.hid hne
  have HE := Lib.hid he
  have heb : eb < w0.heap.size := he.lt
  clear hc hne he
  go_enter Tryd.func32, Tryd.ntmps32
  go_wp2_with fail
  go_loopw [8] (fun i wr => ∃ k : Nat, i = .int .i64 k ∧ k ≤ cs.length ∧ Blk wr eb 63 #[sl, .int .i64 who, errV who (mustO o (cs.take k))] ∧ Turns (· = eb) w0 wr) (fun i _ => cs.length - (intOf i).toNat)
  case atStart => exact ⟨0, rfl, Nat.zero_le _, HE.out, Turns.refl _ _⟩
  case round =>
    obtain ⟨k, rfl, hk, hb0, hB⟩ := hrel
    have HB := Lib.hid hB
    have hsz : w0.heap.size ≤ wr.heap.size := hB.size
    by_cases hkl : k < cs.length
    · obtain ⟨⟨is, y⟩, hx⟩ : ∃ x, cs[k]? = some x := ⟨_, List.getElem?_eq_getElem hkl⟩
      obtain ⟨b, off, hA, hlt, hel⟩ := HC.out.el hx (Nat.le_refl _)
      subst hA
      have hbe : b ≠ eb := HNE.out b off _ _ rfl
      have B1 := Lib.hid (show Els wr b (off + k * 2) #[.bool is, .int .i64 y] from hel.turned hB hbe)
      have HS := Lib.hid (mustO_snoc (o := o) hx)
      have hkz : (0 : Int) ≤ (k : Int) := by omega
      have hkz2 : (k : Int) < (cs.length : Int) := by omega
      have hbl : b < wr.heap.size := by omega
      clear hx hel hB
      cases hm : mustO o (cs.take k) with
      | some z =>
        rw [hm] at hb0
        have B0 := Lib.hid (show Blk wr eb 63 #[sl, .int .i64 who, .iface 85 (.agg #[.int .i64 who, .iface 83 (.agg #[.int .i64 z])])] from hb0)
        have HM := Lib.hid hm
        clear hb0 hm
        cases is
        · have p0_2 := B0.out.at_ (i := 2) (v := .iface 85 (.agg #[.int .i64 who, .iface 83 (.agg #[.int .i64 z])])) rfl
          have k0_0 : eb < wr.heap.size := by have := B0.out.lt; omega
          have k0_1 : eb < wr.heap.size + 1 := by have := B0.out.lt; omega
          have p1_0 : wr.cell? ⟨b, off + k * 2, none⟩ = some (.bool false) := B1.out.at_ (i := 0) (v := .bool false) rfl
          have p1_1 : wr.cell? ⟨b, off + k * 2 + 1, none⟩ = some (.int .i64 y) := B1.out.at_ (i := 1) (v := .int .i64 y) rfl
          have k1_0 : b < wr.heap.size := by have := B1.out.lt; omega
          have k1_1 : b < wr.heap.size + 1 := by have := B1.out.lt; omega
          go_wp2_with fail
          go_roundw
          case rel => exact ⟨k + 1, by go_num, by omega, by rw [HS.out, HM.out]; exact B0.out.alloc _, HB.out.alloc _⟩
          case measure => simp [intOf]; omega
        · have p0_2 := B0.out.at_ (i := 2) (v := .iface 85 (.agg #[.int .i64 who, .iface 83 (.agg #[.int .i64 z])])) rfl
          have k0_0 : eb < wr.heap.size := by have := B0.out.lt; omega
          have k0_1 : eb < wr.heap.size + 1 := by have := B0.out.lt; omega
          have p1_0 : wr.cell? ⟨b, off + k * 2, none⟩ = some (.bool true) := B1.out.at_ (i := 0) (v := .bool true) rfl
          have p1_1 : wr.cell? ⟨b, off + k * 2 + 1, none⟩ = some (.int .i64 y) := B1.out.at_ (i := 1) (v := .int .i64 y) rfl
          have k1_0 : b < wr.heap.size := by have := B1.out.lt; omega
          have k1_1 : b < wr.heap.size + 1 := by have := B1.out.lt; omega
          go_wp2_with fail
          go_roundw
          case rel => exact ⟨k + 1, by go_num, by omega, by rw [HS.out, HM.out]; exact B0.out.alloc _, HB.out.alloc _⟩
          case measure => simp [intOf]; omega
      | none =>
        rw [hm] at hb0
        have B0 := Lib.hid (show Blk wr eb 63 #[sl, .int .i64 who, .nilIface] from hb0)
        have HM := Lib.hid hm
        clear hb0 hm
        cases is
        · have p0_2 := B0.out.at_ (i := 2) (v := .nilIface) rfl
          have k0_0 : eb < wr.heap.size := by have := B0.out.lt; omega
          have k0_1 : eb < wr.heap.size + 1 := by have := B0.out.lt; omega
          have p1_0 : wr.cell? ⟨b, off + k * 2, none⟩ = some (.bool false) := B1.out.at_ (i := 0) (v := .bool false) rfl
          have p1_1 : wr.cell? ⟨b, off + k * 2 + 1, none⟩ = some (.int .i64 y) := B1.out.at_ (i := 1) (v := .int .i64 y) rfl
          have k1_0 : b < wr.heap.size := by have := B1.out.lt; omega
          have k1_1 : b < wr.heap.size + 1 := by have := B1.out.lt; omega
          go_wp2_with fail
          refine wp_region_gen2 (S := fun W' => (∃ er, Blk W' eb 63 #[sl, .int .i64 who, er]) ∧ Blk W' wr.heap.size 65 #[.bool false, .int .i64 y] ∧ Turns (· = eb) w0 W') (N := fun W' => Blk W' eb 63 #[sl, .int .i64 who, .nilIface]) (by kernel_rfl) ⟨⟨_, (B0.out.alloc _).drew⟩, (Blk.new' rfl).drew, (HB.out.alloc _).drew⟩ (B0.out.alloc _).drew (fun w3 hS hN => ?_)
          have N0 := Lib.hid hN
          clear hN
          have hbox : wr.heap.size ≠ eb := by omega
          refine wpAnyH_take (i := 0) (v := ?_) (op_at rfl) (by kernel_rfl) (by kernel_rfl) (by kernel_rfl) (fun _ _ _ h => h) (Or.inl ⟨by rfl, ?_⟩) hS ?_; rotate_left; focus ((intro w' hSw; clear hSw; go_simp) <;> with_reducible rfl)
          try simp only [Act.put, List.setIfInBounds_toArray, List.set_cons_zero, List.set_cons_succ]
          refine wpAnyH_take (i := 1) (v := ?_) (op_at rfl) (by kernel_rfl) (by kernel_rfl) (by kernel_rfl) (fun _ _ _ h => h) (Or.inl ⟨by rfl, ?_⟩) hS ?_; rotate_left; focus ((intro w' hSw; clear hSw; go_simp) <;> with_reducible rfl)
          try simp only [Act.put, List.setIfInBounds_toArray, List.set_cons_zero, List.set_cons_succ]
          refine wpAnyH_take (i := 2) (v := ?_) (op_at rfl) (by kernel_rfl) (by kernel_rfl) (by kernel_rfl) (fun _ _ _ h => h) (Or.inl ⟨by rfl, ?_⟩) hS ?_; rotate_left; focus ((intro w' hSw; clear hSw; go_simp) <;> with_reducible rfl)
          try simp only [Act.put, List.setIfInBounds_toArray, List.set_cons_zero, List.set_cons_succ]
          refine wpAnyH_take (i := 3) (v := ?_) (op_at rfl) (by kernel_rfl) (by kernel_rfl) (by kernel_rfl) (fun _ _ _ h => h) (Or.inl ⟨by rfl, ?_⟩) hS ?_; rotate_left; focus ((intro w' hSw; clear hSw; go_simp) <;> with_reducible rfl)
          try simp only [Act.put, List.setIfInBounds_toArray, List.set_cons_zero, List.set_cons_succ]
          refine wpAnyH_take (i := 4) (v := ?_) (op_at rfl) (by kernel_rfl) (by kernel_rfl) (by kernel_rfl) (fun _ _ _ h => h) (Or.inl ⟨by rfl, ?_⟩) hS ?_; rotate_left; focus ((intro w' hSw; obtain ⟨⟨er, q⟩, -⟩ := hSw; have c0 := q.at_ (i := 1) (v := .int .i64 who) rfl; clear q; go_simp) <;> with_reducible rfl)
          try simp only [Act.put, List.setIfInBounds_toArray, List.set_cons_zero, List.set_cons_succ]
          refine wpAnyH_take (i := 5) (v := ?_) (op_at rfl) (by kernel_rfl) (by kernel_rfl) (by kernel_rfl) (fun _ _ _ h => h) (Or.inl ⟨by rfl, ?_⟩) hS ?_; rotate_left; focus ((intro w' hSw; clear hSw; go_simp) <;> with_reducible rfl)
          try simp only [Act.put, List.setIfInBounds_toArray, List.set_cons_zero, List.set_cons_succ]
          refine wpAnyH_take (i := 6) (v := ?_) (op_at rfl) (by kernel_rfl) (by kernel_rfl) (by kernel_rfl) (fun _ _ _ h => h) (Or.inl ⟨by rfl, ?_⟩) hS ?_; rotate_left; focus ((intro w' hSw; obtain ⟨-, q, -⟩ := hSw; have c0 := q.at_ (i := 1) (v := .int .i64 y) rfl; clear q; go_simp) <;> with_reducible rfl)
          try simp only [Act.put, List.setIfInBounds_toArray, List.set_cons_zero, List.set_cons_succ]
          refine wpAnyH_take (i := 7) (v := ?_) (op_at rfl) (by kernel_rfl) (by kernel_rfl) (by kernel_rfl) (fun _ _ _ h => h) (Or.inl ⟨by rfl, ?_⟩) hS ?_; rotate_left; focus ((intro w' hSw; clear hSw; go_simp) <;> with_reducible rfl)
          try simp only [Act.put, List.setIfInBounds_toArray, List.set_cons_zero, List.set_cons_succ]
          refine wpAnyH_take (i := 8) (v := ?_) (op_at rfl) (by kernel_rfl) (by kernel_rfl) (by kernel_rfl) (fun _ _ _ h => h) (Or.inl ⟨by rfl, ?_⟩) hS ?_; rotate_left; focus ((intro w' hSw; clear hSw; go_simp) <;> with_reducible rfl)
          try simp only [Act.put, List.setIfInBounds_toArray, List.set_cons_zero, List.set_cons_succ]
          refine wpAnyH_take (i := 9) (v := ?_) (op_at rfl) (by kernel_rfl) (by kernel_rfl) (by kernel_rfl) (fun _ _ _ h => h) (Or.inl ⟨by rfl, ?_⟩) hS ?_; rotate_left; focus ((intro w' hSw; clear hSw; go_simp) <;> with_reducible rfl)
          try simp only [Act.put, List.setIfInBounds_toArray, List.set_cons_zero, List.set_cons_succ]
          refine wpAnyH_take (i := 10) (v := ?_) (op_at rfl) (by kernel_rfl) (by kernel_rfl) (by kernel_rfl) (fun _ _ _ h => h) (Or.inl ⟨by rfl, ?_⟩) hS ?_; rotate_left; focus ((intro w' hSw; clear hSw; go_simp) <;> with_reducible rfl)
          try simp only [Act.put, List.setIfInBounds_toArray, List.set_cons_zero, List.set_cons_succ]
          refine wpAnyH_take (i := 11) (v := ?_) (op_at rfl) (by kernel_rfl) (by kernel_rfl) (by kernel_rfl) (fun _ _ _ h => h) (Or.inl ⟨by rfl, ?_⟩) hS ?_; rotate_left; focus ((intro w' hSw; clear hSw; go_simp) <;> with_reducible rfl)
          try simp only [Act.put, List.setIfInBounds_toArray, List.set_cons_zero, List.set_cons_succ]
          refine wpAnyH_take (i := 12) (v := ?_) (op_at rfl) (by kernel_rfl) (by kernel_rfl) (by kernel_rfl) (fun _ _ _ h => h) (Or.inl ⟨by rfl, ?_⟩) hS ?_; rotate_left; focus ((intro w' hSw; clear hSw; go_simp) <;> with_reducible rfl)
          try simp only [Act.put, List.setIfInBounds_toArray, List.set_cons_zero, List.set_cons_succ]
          refine wpAnyH_ready (rs := [13]) (by kernel_rfl) (by simp) ?_
          refine (AllReadyH.cons (op_at rfl) (fun K hK => ?_) AllReadyH.nil)
          have p_2 := N0.out.at_ (i := 2) (v := .nilIface) rfl
          have f_2 := N0.out.frozen 2
          go_simp
          clear p_2 f_2
          obtain ⟨-, b1, hb⟩ := hS
          have N1 := Lib.hid (Blk.set' (u := .iface 85 (.agg #[.int .i64 who, .iface 83 (.agg #[.int .i64 y])])) (i := 2) (cs' := #[sl, .int .i64 who, .iface 85 (.agg #[.int .i64 who, .iface 83 (.agg #[.int .i64 y])])]) N0.out rfl)
          refine hK.out _ _ ⟨⟨_, N1.out⟩, b1.far hbox _, hb.setCell (p := ⟨eb, 2, none⟩) rfl _⟩ (fun hS => ?_)
          clear hK K b1 hb
          try simp only [Act.put, List.setIfInBounds_toArray, List.set_cons_zero, List.set_cons_succ]
          refine wpAnyH_done (by kernel_rfl) ?_ _
          obtain ⟨-, -, hb⟩ := hS
          replace B0 := Lib.hid N1.out
          replace HB := Lib.hid hb
          clear hb
          go_wp2_with fail
          go_roundw
          case rel => exact ⟨k + 1, by go_num, by omega, by rw [HS.out, HM.out]; exact B0.out, HB.out⟩
          case measure => simp [intOf]; omega
        · have p0_2 := B0.out.at_ (i := 2) (v := .nilIface) rfl
          have k0_0 : eb < wr.heap.size := by have := B0.out.lt; omega
          have k0_1 : eb < wr.heap.size + 1 := by have := B0.out.lt; omega
          have p1_0 : wr.cell? ⟨b, off + k * 2, none⟩ = some (.bool true) := B1.out.at_ (i := 0) (v := .bool true) rfl
          have p1_1 : wr.cell? ⟨b, off + k * 2 + 1, none⟩ = some (.int .i64 y) := B1.out.at_ (i := 1) (v := .int .i64 y) rfl
          have k1_0 : b < wr.heap.size := by have := B1.out.lt; omega
          have k1_1 : b < wr.heap.size + 1 := by have := B1.out.lt; omega
          go_wp2_with fail
          go_roundw
          case rel => exact ⟨k + 1, by go_num, by omega, by rw [HS.out, HM.out]; exact B0.out.alloc _, HB.out.alloc _⟩
          case measure => simp [intOf]; omega
    · have hke : k = cs.length := by omega
      subst hke
      rw [List.take_length] at hb0
      have B0 := Lib.hid hb0
      clear hb0 hB
      go_wp2_with fail
      go_end0
      exact ⟨rfl, B0.out, HB.out⟩
end

section
open Go.RowKit


theorem infoSub : (Tryd.prog.info? 41).map (fun i => (i.zero, i.size, i.bytes)) = some (some (.agg #[.int .i64 0, .int .i64 0, .int .i64 0, .int .u64 0, .int .i64 0, .int .i64 0, .int .u64 0, .int .i64 0]), 8, 64) := by kernel_rfl
theorem own_of_blk {w : World} {base g : Nat} {e : TypeId} {size n : Nat} {cs : Array Value} (h : Blk w g e cs) (hb : base ≤ g) (hm : n ≤ maxLen) (hs : cs.size = n * size) : w.ownsRow base e size (.slice (some ⟨g, 0, none⟩) n n) n cs.toList :=
  ⟨by rw [Array.length_toList, hs], .inr ⟨g, n, cs, rfl, hb, h, Nat.le_refl _, hm, hs, by rw [← hs, ← Array.length_toList, List.take_length]⟩⟩
theorem subs_one {l : List Sub} : ∀ q, q ∈ (l.flatMap fun x => (encS x).toList : List Value) → q.oneCell' = true := fun q hq => by
  obtain ⟨x, _, hx⟩ := List.mem_flatMap.1 hq
  simp only [encS, List.mem_cons, List.not_mem_nil, or_false] at hx
  rcases hx with rfl | rfl | rfl | rfl | rfl | rfl | rfl | rfl <;> rfl
/-- a slice in a block of the call's own, known whole -/
def TabAt (base : Nat) (w : World) (v : Value) (l : List Sub) : Prop :=
  (v = .slice none 0 0 ∧ l = []) ∨ ∃ g cap cs, v = .slice (some ⟨g, 0, none⟩) l.length cap ∧ base ≤ g ∧ Blk w g 41 cs ∧ l.length ≤ cap ∧ cap ≤ 9223372036854775807 ∧ ∃ r, cs.toList = (l.flatMap fun x => (encS x).toList) ++ r
theorem TabAt.after {base : Nat} {w w' : World} {v : Value} {l : List Sub} (h : TabAt base w v l) (hb : Below w.heap.size w w') : TabAt base w' v l := by
  rcases h with h | ⟨g, cap, cs, hv, hg, hB, h1, h2, hr⟩
  · exact .inl h
  · exact .inr ⟨g, cap, cs, hv, hg, hB.after hb, h1, h2, hr⟩
theorem TabAt.turned {base eb : Nat} {w w' : World} {v : Value} {l : List Sub} (h : TabAt base w v l) (hb : Turns (· = eb) w w') (hne : ∀ g m c, v = .slice (some ⟨g, 0, none⟩) m c → g ≠ eb) : TabAt base w' v l := by
  rcases h with h | ⟨g, cap, cs, hv, hg, hB, h1, h2, hr⟩
  · exact .inl h
  · exact .inr ⟨g, cap, cs, hv, hg, hB.turned hb (hne _ _ _ hv), h1, h2, hr⟩
theorem TabAt.rows {base : Nat} {w : World} {v : Value} {l : List Sub} (h : TabAt base w v l) : SubsAt w.heap.size w v l := by
  rcases h with ⟨rfl, rfl⟩ | ⟨g, cap, cs, rfl, hg, hB, h1, h2, hr⟩
  · exact RowsAt.nil _ _
  · exact RowsAt.of_blk encS_size hB hr h1 h2
theorem TabAt.lt {base : Nat} {w : World} {v : Value} {l : List Sub} (h : TabAt base w v l) {g m c : Nat} (hv : v = .slice (some ⟨g, 0, none⟩) m c) : base ≤ g ∧ g < w.heap.size := by
  rcases h with ⟨rfl, rfl⟩ | ⟨g', cap, cs, rfl, hg, hB, h1, h2, hr⟩
  · cases hv
  · cases hv; exact ⟨hg, hB.lt⟩
theorem TabAt.slice {base : Nat} {w : World} {v : Value} {l : List Sub} (h : TabAt base w v l) : ∃ A c, v = .slice A l.length c := by
  rcases h with ⟨rfl, rfl⟩ | ⟨g, cap, cs, rfl, _⟩
  · exact ⟨_, _, rfl⟩
  · exact ⟨_, _, rfl⟩
theorem TabAt.of_own {base : Nat} {w : World} {v : Value} {l : List Sub} {n : Nat} (h : w.ownsRow base 41 8 v n (l.flatMap fun x => (encS x).toList)) (hn : n = l.length) : TabAt base w v l := by
  subst hn
  rcases h.2 with ⟨hv, hl⟩ | ⟨g, cap, cur, hv, hb, hh, hnc, hm, hcs, hcur⟩
  · exact .inl ⟨hv, List.eq_nil_of_length_eq_zero (by first | exact hl | omega)⟩
  · unfold maxLen at hm
    exact .inr ⟨g, cap, cur, hv, hb, hh, hnc, by omega, cur.toList.drop (l.length * 8), by rw [← hcur, List.take_append_drop]⟩
set_option maxRecDepth 100000 in
set_option maxHeartbeats 4000000 in
theorem clone_any (l : List Sub) (v : Value) (w : World) (hl : SubsAt w.heap.size w v l) (hle : l.length ≤ 1000) :
    Calls Tryd.prog 50 #[v] w fun e w' => ∃ v', e = .returned v' ∧ TabAt w.heap.size w' v' l ∧ Below w.heap.size w w' := by
  have hl' := hl
  rcases hl with ⟨rfl, rfl⟩ | ⟨b, off, cap, rfl, hlt, hcap, hn63, _⟩
  · have hnil : ∀ W, (binOp .eql 22 (.slice none 0 0) (.slice none 0 0)).run Tryd.prog W = .ok (.bool true) W := fun W => Lib.run_eql_slice_nil_nil W _ _ Tryd.underlying22
    go_enter Tryd.func50, Tryd.ntmps50
    go_wp2
    go_ret
    exact ⟨_, rfl, .inl ⟨rfl, rfl⟩, Below.refl _ _⟩
  · obtain ⟨i0, hi, hz0, hz1, hz2⟩ := info_parts infoSub
    have HL := Lib.hid hl'
    have hnil : ∀ W, (binOp .eql 22 (.slice (some ⟨b, off, none⟩) l.length cap) (.slice none 0 0)).run Tryd.prog W = .ok (.bool false) W := fun W => Lib.run_eql_slice_some_nil W _ _ _ Tryd.underlying22
    clear hl'
    go_enter Tryd.func50, Tryd.ntmps50
    go_wp2_with (at_builtin; go_loud (refine wpList_append_src _ rfl _ _ 22 rfl w.heap.size 41 i0 (.agg #[.int .i64 0, .int .i64 0, .int .i64 0, .int .u64 0, .int .i64 0, .int .i64 0, .int .u64 0, .int .i64 0]) 8 64 Tryd.underlying22 hi hz0 hz1 hz2 rfl (by decide) _ 0 _ rfl (own_of_blk (cs := #[]) (Blk.new' (by simp)) (by omega) (by unfold maxLen; omega) rfl) (some ⟨b, off, none⟩) l.length cap _ rfl (RowsAt.src encS_size (by decide) (HL.out.below (below_alloc (Below.refl w.heap.size w) _))).1 subs_one (by unfold maxLen; omega) (by omega) (by simp) ?_; intro v1 w1 hown hgrow hblk; have HT : Hid (TabAt w.heap.size w1 v1 l) := Lib.hid (TabAt.of_own (n := 0 + l.length) (by simpa using hown) (by omega)); have HB : Hid (Below w.heap.size w w1) := Lib.hid (Below.grown (below_alloc (Below.refl w.heap.size w) _) hgrow (by simp) (fun k e => by simp only [Value.ownBlock] at e; injection e with e; first | omega | (simp at e; omega) | (simp at e; done))); clear hown hgrow hblk))
    go_ret
    exact ⟨_, rfl, HT.out, HB.out⟩
theorem encC_size (c : Bool × Int) : (encC c).size = 2 := rfl
theorem aliveIs {l : List Sub} {who : Int} {r : Bool} (h : aliveT l who = r) {v : Value} {W : World} (hl : SubsAt W.heap.size W v l) : Calls Tryd.prog 22 #[v, .int .i64 who] W fun e w' => e = .returned (.bool r) ∧ Below W.heap.size W w' := by
  subst h; exact alive_any l v who W hl
/-- what open finds wrong -/
def openO (l : List Sub) (who : Int) : Option Int := mustO none [(rightT l, 160), (aliveT l who, 161)]
theorem openO_eq {l : List Sub} {who : Int} {r a : Bool} (h1 : rightT l = r) (h2 : aliveT l who = a) : openO l who = mustO none [(r, 160), (a, 161)] := by unfold openO; rw [h1, h2]
set_option maxRecDepth 100000 in
set_option maxHeartbeats 4000000 in
theorem open_any (l : List Sub) (v : Value) (who : Int) (w : World) (hl : SubsAt w.heap.size w v l) (hle : l.length ≤ 1000) :
    Calls Tryd.prog 31 #[v, .int .i64 who] w fun e w' => ∃ eb v', e = .returned (.pointer (some ⟨eb, 0, none⟩)) ∧ w.heap.size ≤ eb ∧ Blk w' eb 63 #[v', .int .i64 who, errV who (openO l who)] ∧ TabAt w.heap.size w' v' l ∧ (∀ g m c, v' = .slice (some ⟨g, 0, none⟩) m c → g ≠ eb) ∧ Below w.heap.size w w' := by
  obtain ⟨r, hr⟩ : ∃ r, rightT l = r := ⟨_, rfl⟩
  obtain ⟨a, ha⟩ : ∃ a, aliveT l who = a := ⟨_, rfl⟩
  rw [openO_eq hr ha]
  have HR := Lib.hid hr
  have HA := Lib.hid ha
  have HL := Lib.hid hl
  clear hr ha hl
  go_enter Tryd.func31, Tryd.ntmps31
  go_wp2_with fail
  refine (clone_any l v w HL.out hle).mono ?_
  rintro e w1 ⟨v', rfl, hT, hB⟩
  obtain ⟨A', c', rfl⟩ := hT.slice
  have HT := Lib.hid hT
  have HB := Lib.hid hB
  have hz : w.heap.size ≤ w1.heap.size := hB.size
  clear hT hB
  go_wp2_with fail
  refine (rightSIs HR.out (HL.out.later (below_alloc HB.out _) (below_alloc HB.out _).size)).mono ?_
  rintro e w2 ⟨rfl, hB⟩
  have E0 : Hid (Blk w2 w1.heap.size 63 #[.slice A' l.length c', .int .i64 who, .nilIface]) := Lib.hid ((Blk.new' rfl).after hB)
  have HNE : Hid (∀ g m c, Value.slice A' l.length c' = .slice (some ⟨g, 0, none⟩) m c → g ≠ w1.heap.size) := Lib.hid (fun g m c h => Nat.ne_of_lt (HT.out.lt h).2)
  replace HT := Lib.hid ((HT.out.after (Below.alloc (Below.refl w1.heap.size w1) (Nat.le_refl _) _)).after hB)
  replace HB := Lib.hid (below_call (below_alloc HB.out _) hB)
  clear hB
  go_wp2_with fail
  refine (aliveIs HA.out (HL.out.later HB.out HB.out.size)).mono ?_
  rintro e w3 ⟨rfl, hB⟩
  replace E0 := Lib.hid (E0.out.after hB)
  replace HT := Lib.hid (HT.out.after hB)
  replace HB := Lib.hid (below_call HB.out hB)
  clear hB
  have hlt : w1.heap.size < w3.heap.size := E0.out.lt
  go_wp2_with fail
  refine (must_any who none [(r, 160), (a, 161)] w1.heap.size (.slice A' l.length c') _ _ (E0.out.alloc _) (RowsAt.of_blk (cs := #[.bool r, .int .i64 160, .bool a, .int .i64 161]) (l := [(r, 160), (a, 161)]) (cap := 2) encC_size (Blk.new' rfl) ⟨[], rfl⟩ (by simp) (by decide)) (fun b off m c h => by cases h; omega)).mono ?_
  rintro e w4 ⟨rfl, hE, hT⟩
  have E1 := Lib.hid hE
  replace HT := Lib.hid ((HT.out.after (Below.alloc (Below.refl w3.heap.size w3) (Nat.le_refl _) _)).turned hT HNE.out)
  replace HB := Lib.hid (below_turns (below_alloc HB.out _) hT hz)
  clear hE hT
  go_wp2_with fail
  go_ret
  exact ⟨_, _, rfl, hz, E1.out, HT.out, HNE.out, HB.out⟩
end

section
open Go.RowKit

set_option maxHeartbeats 4000000 in
theorem edit_wrong (who y : Int) (eb : Nat) (sl fv : Value) (w : World) (he : Blk w eb 63 #[sl, .int .i64 who, byV who y]) (hh : Handle w) :
    Calls Tryd.prog 35 #[.pointer (some ⟨eb, 0, none⟩), fv] w fun e w' => e = .returned (.tuple #[.slice none 0 0, .int .i64 y]) ∧ Below w.heap.size w w' := by
  have p2 := he.at_ (i := 2) (v := .iface 85 (.agg #[.int .i64 who, .iface 83 (.agg #[.int .i64 y])])) rfl
  have HH := Lib.hid hh
  clear he hh
  go_enter Tryd.func35, Tryd.ntmps35
  go_wp2_with fail
  refine (toldS_any who y _ HH.out).mono ?_
  rintro e w1 ⟨rfl, hB⟩
  have HB := Lib.hid hB
  clear hB
  go_wp2_with fail
  go_ret2
  exact ⟨rfl, HB.out⟩
set_option maxHeartbeats 4000000 in
theorem edit_start_ok (who : Int) (eb n c : Nat) (A : Option Addr) (caps : Array Value) (w : World) (R : World → Prop) (he : Blk w eb 63 #[.slice A n c, .int .i64 who, .nilIface])
    (hdo : Calls Tryd.prog 36 caps w fun e w' => e = .returned (.tuple #[]) ∧ R w') (hR : ∀ w', R w' → Blk w' eb 63 #[.slice A n c, .int .i64 who, .nilIface]) :
    Calls Tryd.prog 35 #[.pointer (some ⟨eb, 0, none⟩), .func (.func 36) #[] caps] w fun e w' => e = .returned (.tuple #[.slice A n c, .int .i64 0]) ∧ R w' := by
  have p2 := he.at_ (i := 2) (v := .nilIface) rfl
  have HD := Lib.hid hdo
  have HR := Lib.hid hR
  clear he hdo hR
  go_enter Tryd.func35, Tryd.ntmps35
  go_wp2_with fail
  refine HD.out.mono ?_
  rintro e w1 ⟨rfl, hr⟩
  have H1 := HR.out _ hr
  have q0 := H1.at_ (i := 0) (v := .slice A n c) rfl
  have q2 := H1.at_ (i := 2) (v := .nilIface) rfl
  have HR1 := Lib.hid hr
  clear H1 hr p2
  go_wp2_with fail
  go_ret2
  exact ⟨rfl, HR1.out⟩
set_option maxHeartbeats 4000000 in
theorem edit_start_no (who y : Int) (eb n c : Nat) (A : Option Addr) (caps : Array Value) (w : World) (R : World → Prop) (he : Blk w eb 63 #[.slice A n c, .int .i64 who, .nilIface])
    (hdo : Calls Tryd.prog 36 caps w fun e w' => e = .returned (.tuple #[]) ∧ R w') (hR : ∀ w', R w' → Blk w' eb 63 #[.slice A n c, .int .i64 who, byV who y] ∧ Handle w') :
    Calls Tryd.prog 35 #[.pointer (some ⟨eb, 0, none⟩), .func (.func 36) #[] caps] w fun e w' => e = .returned (.tuple #[.slice none 0 0, .int .i64 y]) ∧ ∃ w1, R w1 ∧ Below w1.heap.size w1 w' := by
  have p2 := he.at_ (i := 2) (v := .nilIface) rfl
  have HD := Lib.hid hdo
  have HR := Lib.hid hR
  clear he hdo hR
  go_enter Tryd.func35, Tryd.ntmps35
  go_wp2_with fail
  refine HD.out.mono ?_
  rintro e w1 ⟨rfl, hr⟩
  have H1 := (HR.out _ hr).1
  have HH := Lib.hid (HR.out _ hr).2
  have q2 := H1.at_ (i := 2) (v := .iface 85 (.agg #[.int .i64 who, .iface 83 (.agg #[.int .i64 y])])) rfl
  have HR1 := Lib.hid hr
  clear H1 hr p2
  go_wp2_with fail
  refine (toldS_any who y _ HH.out).mono ?_
  rintro e w2 ⟨rfl, hB⟩
  have HB := Lib.hid hB
  clear hB
  go_wp2_with fail
  go_ret2
  exact ⟨rfl, _, HR1.out, HB.out⟩
set_option maxHeartbeats 4000000 in
theorem edit_float_ok (who : Int) (eb n c : Nat) (A : Option Addr) (caps : Array Value) (w : World) (R : World → Prop) (he : Blk w eb 63 #[.slice A n c, .int .i64 who, .nilIface])
    (hdo : Calls Tryd.prog 40 caps w fun e w' => e = .returned (.tuple #[]) ∧ R w') (hR : ∀ w', R w' → Blk w' eb 63 #[.slice A n c, .int .i64 who, .nilIface]) :
    Calls Tryd.prog 35 #[.pointer (some ⟨eb, 0, none⟩), .func (.func 40) #[] caps] w fun e w' => e = .returned (.tuple #[.slice A n c, .int .i64 0]) ∧ R w' := by
  have p2 := he.at_ (i := 2) (v := .nilIface) rfl
  have HD := Lib.hid hdo
  have HR := Lib.hid hR
  clear he hdo hR
  go_enter Tryd.func35, Tryd.ntmps35
  go_wp2_with fail
  refine HD.out.mono ?_
  rintro e w1 ⟨rfl, hr⟩
  have H1 := HR.out _ hr
  have q0 := H1.at_ (i := 0) (v := .slice A n c) rfl
  have q2 := H1.at_ (i := 2) (v := .nilIface) rfl
  have HR1 := Lib.hid hr
  clear H1 hr p2
  go_wp2_with fail
  go_ret2
  exact ⟨rfl, HR1.out⟩
set_option maxHeartbeats 4000000 in
theorem edit_float_no (who y : Int) (eb n c : Nat) (A : Option Addr) (caps : Array Value) (w : World) (R : World → Prop) (he : Blk w eb 63 #[.slice A n c, .int .i64 who, .nilIface])
    (hdo : Calls Tryd.prog 40 caps w fun e w' => e = .returned (.tuple #[]) ∧ R w') (hR : ∀ w', R w' → Blk w' eb 63 #[.slice A n c, .int .i64 who, byV who y] ∧ Handle w') :
    Calls Tryd.prog 35 #[.pointer (some ⟨eb, 0, none⟩), .func (.func 40) #[] caps] w fun e w' => e = .returned (.tuple #[.slice none 0 0, .int .i64 y]) ∧ ∃ w1, R w1 ∧ Below w1.heap.size w1 w' := by
  have p2 := he.at_ (i := 2) (v := .nilIface) rfl
  have HD := Lib.hid hdo
  have HR := Lib.hid hR
  clear he hdo hR
  go_enter Tryd.func35, Tryd.ntmps35
  go_wp2_with fail
  refine HD.out.mono ?_
  rintro e w1 ⟨rfl, hr⟩
  have H1 := (HR.out _ hr).1
  have HH := Lib.hid (HR.out _ hr).2
  have q2 := H1.at_ (i := 2) (v := .iface 85 (.agg #[.int .i64 who, .iface 83 (.agg #[.int .i64 y])])) rfl
  have HR1 := Lib.hid hr
  clear H1 hr p2
  go_wp2_with fail
  refine (toldS_any who y _ HH.out).mono ?_
  rintro e w2 ⟨rfl, hB⟩
  have HB := Lib.hid hB
  clear hB
  go_wp2_with fail
  go_ret2
  exact ⟨rfl, _, HR1.out, HB.out⟩
set_option maxHeartbeats 4000000 in
theorem edit_exit_ok (who : Int) (eb n c : Nat) (A : Option Addr) (caps : Array Value) (w : World) (R : World → Prop) (he : Blk w eb 63 #[.slice A n c, .int .i64 who, .nilIface])
    (hdo : Calls Tryd.prog 43 caps w fun e w' => e = .returned (.tuple #[]) ∧ R w') (hR : ∀ w', R w' → Blk w' eb 63 #[.slice A n c, .int .i64 who, .nilIface]) :
    Calls Tryd.prog 35 #[.pointer (some ⟨eb, 0, none⟩), .func (.func 43) #[] caps] w fun e w' => e = .returned (.tuple #[.slice A n c, .int .i64 0]) ∧ R w' := by
  have p2 := he.at_ (i := 2) (v := .nilIface) rfl
  have HD := Lib.hid hdo
  have HR := Lib.hid hR
  clear he hdo hR
  go_enter Tryd.func35, Tryd.ntmps35
  go_wp2_with fail
  refine HD.out.mono ?_
  rintro e w1 ⟨rfl, hr⟩
  have H1 := HR.out _ hr
  have q0 := H1.at_ (i := 0) (v := .slice A n c) rfl
  have q2 := H1.at_ (i := 2) (v := .nilIface) rfl
  have HR1 := Lib.hid hr
  clear H1 hr p2
  go_wp2_with fail
  go_ret2
  exact ⟨rfl, HR1.out⟩
end

section
open Go.RowKit

set_option maxRecDepth 100000 in
set_option maxHeartbeats 4000000 in
theorem exit_do (pb wb eb g n cap k : Nat) (who : Int) (cs : Array Value) (old : Value) (w : World) (hp : Blk w pb 54 #[.pointer (some ⟨eb, 0, none⟩)]) (hw : Blk w wb 3 #[.int .i64 k]) (he : Blk w eb 63 #[.slice (some ⟨g, 0, none⟩) n cap, .int .i64 who, .nilIface]) (hg : Blk w g 41 cs)
    (hk : k < n) (ho : cs[k * 8 + 1]? = some old) (np : pb ≠ g) (nw : wb ≠ g) (ne : eb ≠ g) :
    Calls Tryd.prog 43 #[.pointer (some ⟨pb, 0, none⟩), .pointer (some ⟨wb, 0, none⟩)] w fun e w' => e = .returned (.tuple #[]) ∧ Blk w' g 41 (cs.setIfInBounds (k * 8 + 1) (.int .i64 2)) ∧ Turns (· = g) w w' := by
  have HP := Lib.hid hp
  have HW := Lib.hid hw
  have HE := Lib.hid he
  have HG := Lib.hid hg
  have HO := Lib.hid ho
  have hkz : (0 : Int) ≤ (k : Int) := by omega
  have hkz2 : (k : Int) < (n : Int) := by omega
  clear hp hw he hg ho
  go_enter Tryd.func43, Tryd.ntmps43
  go_wp2_with fail
  refine wp_region_gen2 (S := fun W' => Blk W' pb 54 #[.pointer (some ⟨eb, 0, none⟩)] ∧ Blk W' wb 3 #[.int .i64 k] ∧ Blk W' eb 63 #[.slice (some ⟨g, 0, none⟩) n cap, .int .i64 who, .nilIface] ∧ Turns (· = g) w W') (N := fun W' => Blk W' g 41 cs) (by kernel_rfl) ⟨HP.out.drew, HW.out.drew, HE.out.drew, (Turns.refl _ w).drew⟩ HG.out.drew (fun w3 hS hN => ?_)
  have N0 := Lib.hid hN
  clear hN
  refine wpAnyH_take (i := 0) (v := ?_) (op_at rfl) (by kernel_rfl) (by kernel_rfl) (by kernel_rfl) (fun _ _ _ h => h) (Or.inl ⟨by rfl, ?_⟩) hS ?_; rotate_left; focus ((intro w' hSw; obtain ⟨q, -⟩ := hSw; have c0 := q.at_ (i := 0) (v := .pointer (some ⟨eb, 0, none⟩)) rfl; clear q; go_simp) <;> with_reducible rfl)
  try simp only [Act.put, List.setIfInBounds_toArray, List.set_cons_zero, List.set_cons_succ]
  refine wpAnyH_take (i := 1) (v := ?_) (op_at rfl) (by kernel_rfl) (by kernel_rfl) (by kernel_rfl) (fun _ _ _ h => h) (Or.inl ⟨by rfl, ?_⟩) hS ?_; rotate_left; focus ((intro w' hSw; clear hSw; go_simp) <;> with_reducible rfl)
  try simp only [Act.put, List.setIfInBounds_toArray, List.set_cons_zero, List.set_cons_succ]
  refine wpAnyH_take (i := 2) (v := ?_) (op_at rfl) (by kernel_rfl) (by kernel_rfl) (by kernel_rfl) (fun _ _ _ h => h) (Or.inl ⟨by rfl, ?_⟩) hS ?_; rotate_left; focus ((intro w' hSw; clear hSw; go_simp) <;> with_reducible rfl)
  try simp only [Act.put, List.setIfInBounds_toArray, List.set_cons_zero, List.set_cons_succ]
  refine wpAnyH_take (i := 3) (v := ?_) (op_at rfl) (by kernel_rfl) (by kernel_rfl) (by kernel_rfl) (fun _ _ _ h => h) (Or.inl ⟨by rfl, ?_⟩) hS ?_; rotate_left; focus ((intro w' hSw; clear hSw; go_simp) <;> with_reducible rfl)
  try simp only [Act.put, List.setIfInBounds_toArray, List.set_cons_zero, List.set_cons_succ]
  refine wpAnyH_take (i := 4) (v := ?_) (op_at rfl) (by kernel_rfl) (by kernel_rfl) (by kernel_rfl) (fun _ _ _ h => h) (Or.inl ⟨by rfl, ?_⟩) hS ?_; rotate_left; focus ((intro w' hSw; obtain ⟨-, -, q, -⟩ := hSw; have c0 := q.at_ (i := 0) (v := .slice (some ⟨g, 0, none⟩) n cap) rfl; clear q; go_simp) <;> with_reducible rfl)
  try simp only [Act.put, List.setIfInBounds_toArray, List.set_cons_zero, List.set_cons_succ]
  refine wpAnyH_take (i := 5) (v := ?_) (op_at rfl) (by kernel_rfl) (by kernel_rfl) (by kernel_rfl) (fun _ _ _ h => h) (Or.inl ⟨by rfl, ?_⟩) hS ?_; rotate_left; focus ((intro w' hSw; obtain ⟨-, q, -⟩ := hSw; have c0 := q.at_ (i := 0) (v := .int .i64 k) rfl; clear q; go_simp) <;> with_reducible rfl)
  try simp only [Act.put, List.setIfInBounds_toArray, List.set_cons_zero, List.set_cons_succ]
  refine wpAnyH_take (i := 6) (v := ?_) (op_at rfl) (by kernel_rfl) (by kernel_rfl) (by kernel_rfl) (fun _ _ _ h => h) (Or.inl ⟨by rfl, ?_⟩) hS ?_; rotate_left; focus ((intro w' hSw; clear hSw; go_simp) <;> with_reducible rfl)
  try simp only [Act.put, List.setIfInBounds_toArray, List.set_cons_zero, List.set_cons_succ]
  refine wpAnyH_take (i := 7) (v := ?_) (op_at rfl) (by kernel_rfl) (by kernel_rfl) (by kernel_rfl) (fun _ _ _ h => h) (Or.inl ⟨by rfl, ?_⟩) hS ?_; rotate_left; focus ((intro w' hSw; clear hSw; go_simp) <;> with_reducible rfl)
  try simp only [Act.put, List.setIfInBounds_toArray, List.set_cons_zero, List.set_cons_succ]
  refine wpAnyH_ready (rs := [8]) (by kernel_rfl) (by simp) ?_
  refine (AllReadyH.cons (op_at rfl) (fun K hK => ?_) AllReadyH.nil)
  have pc : w3.cell? ⟨g, k * 8 + 1, none⟩ = some old := N0.out.at_ HO.out
  have fc := N0.out.frozen (k * 8 + 1)
  go_simp
  clear pc fc
  obtain ⟨b0, b1, b2, hb⟩ := hS
  have N1 := Lib.hid (Blk.set' (u := .int .i64 2) (i := k * 8 + 1) N0.out rfl)
  refine hK.out _ _ ⟨b0.far np _, b1.far nw _, b2.far ne _, hb.setCell (p := ⟨g, k * 8 + 1, none⟩) rfl _⟩ (fun hS => ?_)
  clear hK K b0 b1 b2 hb
  refine wpAnyH_done (by kernel_rfl) ?_ _
  obtain ⟨-, -, -, hb⟩ := hS
  have HB := Lib.hid hb
  clear hb
  go_wp2_with fail
  go_end0
  exact ⟨rfl, N1.out, HB.out⟩
end

section
open Go.RowKit

theorem flat_set {α : Type} {enc : α → Array Value} {s : Nat} (hs : ∀ x, (enc x).size = s) : ∀ (l : List α) (k j : Nat) (x x' : α) (v : Value), l[k]? = some x → j < s → enc x' = (enc x).setIfInBounds j v →
    (l.flatMap fun x => (enc x).toList).set (k * s + j) v = ((l.set k x').flatMap fun x => (enc x).toList) := fun l => by
  induction l with
  | nil => intro k j x x' v h; simp at h
  | cons y l ih =>
    intro k j x x' v h hj he
    match k, h with
    | 0, h =>
      cases h
      rw [List.set_cons_zero, List.flatMap_cons, List.flatMap_cons, Nat.zero_mul, Nat.zero_add, List.set_append_left _ _ (by rw [Array.length_toList, hs]; exact hj), he, Array.toList_setIfInBounds]
    | k + 1, h =>
      rw [List.set_cons_succ, List.flatMap_cons, List.flatMap_cons, List.set_append_right _ _ (by rw [Array.length_toList, hs, Nat.add_mul]; omega), Array.length_toList, hs, show (k + 1) * s + j - s = k * s + j by rw [Nat.add_mul]; omega, ih k j x x' v h hj he]
theorem rows_set {l : List Sub} {k j : Nat} {x x' : Sub} {v : Value} {cs : Array Value} {r : List Value} (hc : cs.toList = (l.flatMap fun x => (encS x).toList) ++ r) (hx : l[k]? = some x) (hj : j < 8) (he : encS x' = (encS x).setIfInBounds j v) :
    (cs.setIfInBounds (k * 8 + j) v).toList = ((l.set k x').flatMap fun x => (encS x).toList) ++ r := by
  have hk : k < l.length := (List.getElem?_eq_some_iff.1 hx).1
  have hlen : k * 8 + j < (l.flatMap fun x => (encS x).toList).length := by rw [flat_len encS_size]; omega
  rw [Array.toList_setIfInBounds, hc, List.set_append_left _ _ hlen, flat_set encS_size l k j x x' v hx hj he]
/-- what Exit answers -/
def exitL (l : List Sub) (who : Int) : List Sub := match openO l who with
  | none => (match l[who.toNat]? with | some x => l.set who.toNat { x with st := 2 } | none => [])
  | some _ => []
def exitE (l : List Sub) (who : Int) : Int := match openO l who with | none => 0 | some y => y
/-- who may act is alive -/
theorem open_alive {l : List Sub} {who : Int} (h : openO l who = none) : rightT l = true ∧ aliveT l who = true := by
  unfold openO mustO at h
  cases h1 : rightT l <;> cases h2 : aliveT l who <;> rw [h1, h2] at h <;> first | exact ⟨rfl, rfl⟩ | cases h
theorem alive_el {l : List Sub} {who : Int} (h : aliveT l who = true) : ∃ (k : Nat) (x : Sub), who = (k : Int) ∧ k < l.length ∧ l[k]? = some x ∧ x.st = 1 := by
  by_cases hi : 0 ≤ who ∧ who < (l.length : Int)
  · obtain ⟨k, rfl⟩ := Int.eq_ofNat_of_zero_le hi.1
    have hkl : k < l.length := by omega
    have hr : rightT l = true := by
      cases hr : rightT l
      · rw [alive_no hr] at h; cases h
      · rfl
    refine ⟨k, _, rfl, hkl, List.getElem?_eq_getElem hkl, ?_⟩
    rw [alive_in hr (List.getElem?_eq_getElem hkl)] at h
    simpa using h
  · rw [alive_out hi] at h; cases h
theorem TabAt.cons {base : Nat} {w : World} {A : Option Addr} {m c : Nat} {l : List Sub} {k : Nat} {x : Sub} (h : TabAt base w (.slice A m c) l) (hx : l[k]? = some x) :
    ∃ g cs, A = some ⟨g, 0, none⟩ ∧ m = l.length ∧ base ≤ g ∧ Blk w g 41 cs ∧ l.length ≤ c ∧ c ≤ 9223372036854775807 ∧ ∃ r, cs.toList = (l.flatMap fun x => (encS x).toList) ++ r := by
  rcases h with ⟨_, rfl⟩ | ⟨g, cap, cs, hv, hg, hB, h1, h2, hr⟩
  · simp at hx
  · cases hv; exact ⟨g, cs, rfl, rfl, hg, hB, h1, h2, hr⟩
theorem tab_cell {l : List Sub} {k j : Nat} {x : Sub} {v : Value} {cs : Array Value} {r : List Value} (hc : cs.toList = (l.flatMap fun x => (encS x).toList) ++ r) (hx : l[k]? = some x) (hv : (encS x)[j]? = some v) : cs[k * 8 + j]? = some v := by
  have h1 := flat_at encS_size l k j x v hx hv
  rw [← Array.getElem?_toList, hc, List.getElem?_append_left (List.getElem?_eq_some_iff.1 h1).1]; exact h1
set_option maxRecDepth 100000 in
set_option maxHeartbeats 4000000 in
theorem Exit_any (l : List Sub) (v : Value) (who : Int) (w : World) (hl : SubsAt w.heap.size w v l) (hle : l.length ≤ 1000) (hh : Handle w) :
    Calls Tryd.prog 16 #[v, .int .i64 who] w fun e w' => ∃ v', e = .returned (.tuple #[v', .int .i64 (exitE l who)]) ∧ SubsAt w'.heap.size w' v' (exitL l who) ∧ Below w.heap.size w w' := by
  have HL := Lib.hid hl
  have HH := Lib.hid hh
  clear hl hh
  cases ho : openO l who with
  | some y =>
    have e1 : exitE l who = y := by unfold exitE; rw [ho]
    have e2 : exitL l who = [] := by unfold exitL; rw [ho]
    rw [e1, e2]
    go_enter Tryd.func16, Tryd.ntmps16
    go_wp2_with fail
    refine (open_any l v who _ (HL.out.later (below_alloc (Below.refl w.heap.size w) _) (below_alloc (Below.refl w.heap.size w) _).size) hle).mono ?_
    rintro e w1 ⟨eb, v', rfl, hge, hE, hT, hne, hB⟩
    obtain ⟨A', c', rfl⟩ := hT.slice
    have B0 : Hid (Blk w1 w.heap.size 3 #[.int .i64 who]) := Lib.hid ((Blk.new' rfl).after hB)
    have HB := Lib.hid (below_call (below_alloc (Below.refl w.heap.size w) _) hB)
    have hz : w.heap.size < eb := by simp at hge; omega
    have hlt : w.heap.size < w1.heap.size := B0.out.lt
    have helt : eb < w1.heap.size := hE.lt
    have HT := Lib.hid hT
    have HNE := Lib.hid hne
    clear hge hT hne hB
    rw [ho] at hE
    have E0 := Lib.hid (show Blk w1 eb 63 #[.slice A' l.length c', .int .i64 who, byV who y] from hE)
    clear hE ho e1 e2
    go_wp2_with fail
    refine (edit_wrong who y eb _ _ _ (E0.out.alloc _) (HH.out.up (below_alloc HB.out _))).mono ?_
    rintro e w2 ⟨rfl, hB⟩
    have HB2 := Lib.hid (below_call (below_alloc HB.out _) hB)
    clear hB
    go_wp2_with fail
    go_ret2
    exact ⟨_, rfl, RowsAt.nil _ _, HB2.out⟩
  | none =>
    obtain ⟨k, x, rfl, hk, hx, _⟩ := alive_el (open_alive ho).2
    have e1 : exitE l (k : Int) = 0 := by unfold exitE; rw [ho]
    have e2 : exitL l (k : Int) = l.set k { x with st := 2 } := by unfold exitL; rw [ho, Int.toNat_natCast, hx]
    rw [e1, e2]
    go_enter Tryd.func16, Tryd.ntmps16
    go_wp2_with fail
    refine (open_any l v (k : Int) _ (HL.out.later (below_alloc (Below.refl w.heap.size w) _) (below_alloc (Below.refl w.heap.size w) _).size) hle).mono ?_
    rintro e w1 ⟨eb, v', rfl, hge, hE, hT, hne, hB⟩
    obtain ⟨A', c', rfl⟩ := hT.slice
    have B0 : Hid (Blk w1 w.heap.size 3 #[.int .i64 (k : Int)]) := Lib.hid ((Blk.new' rfl).after hB)
    have HB := Lib.hid (below_call (below_alloc (Below.refl w.heap.size w) _) hB)
    have hz : w.heap.size < eb := by simp at hge; omega
    have hlt : w.heap.size < w1.heap.size := B0.out.lt
    have helt : eb < w1.heap.size := hE.lt
    have HT := Lib.hid hT
    have HNE := Lib.hid hne
    clear hge hT hne hB
    rw [ho] at hE
    have E0 := Lib.hid (show Blk w1 eb 63 #[.slice A' l.length c', .int .i64 (k : Int), .nilIface] from hE)
    obtain ⟨g, cs, rfl, _, hg, hG, hc1, hc2, r, hr⟩ := HT.out.cons hx
    have hgz : w.heap.size < g := by simp at hg; omega
    have hge : g ≠ eb := HNE.out g _ _ rfl
    have hgl : g < w1.heap.size := hG.lt
    have HG := Lib.hid hG
    have HO := Lib.hid (tab_cell (j := 1) hr hx rfl)
    have HR := Lib.hid (rows_set (j := 1) (x' := { x with st := 2 }) (v := .int .i64 2) hr hx (by decide) rfl)
    clear hE ho e1 e2 hG hr hx HT
    go_wp2_with fail
    refine (edit_exit_ok (k : Int) eb l.length c' (some ⟨g, 0, none⟩) _ _ (fun W' => Blk W' g 41 (cs.setIfInBounds (k * 8 + 1) (.int .i64 2)) ∧ Turns (· = g) (w1.alloc (.cells #[.pointer (some ⟨eb, 0, none⟩)] 54)) W') (E0.out.alloc _) ((exit_do w1.heap.size w.heap.size eb g l.length c' k (k : Int) cs _ _ (Blk.new' rfl) (B0.out.alloc _) (E0.out.alloc _) (HG.out.alloc _) hk HO.out (by omega) (by omega) (Ne.symm hge)).mono fun e w' h => ⟨h.1, h.2⟩) (fun W' h => (E0.out.alloc _).turned h.2 (Ne.symm hge))).mono ?_
    rintro e w2 ⟨rfl, hG2, hT2⟩
    have HG2 := Lib.hid hG2
    have HB2 := Lib.hid (below_turns (below_alloc HB.out _) hT2 (by omega))
    clear hG2 hT2
    go_wp2_with fail
    go_ret2
    refine ⟨_, rfl, ?_, HB2.out⟩
    have := RowsAt.of_blk (l := l.set k { x with st := 2 }) (cap := c') encS_size HG2.out ⟨r, HR.out⟩ (by rw [List.length_set]; exact hc1) hc2
    rw [List.length_set] at this
    exact this
end

section
open Go.RowKit

theorem rAliveIs {l : List Sub} {who : Int} {r : Bool} (h : aliveT l who = r) {v : Value} {W : World} (hl : SubsAt W.heap.size W v l) : Calls Tryd.prog 25 #[v, .int .i64 who] W fun e w' => e = .returned (.bool r) ∧ Below W.heap.size W w' := by
  subst h; exact rAlive_any l v who W hl
theorem exitE_eq {l : List Sub} {who : Int} {r a : Bool} (h1 : rightT l = r) (h2 : aliveT l who = a) : exitE l who = if r then (if a then 0 else 161) else 160 := by
  unfold exitE
  rw [openO_eq h1 h2]
  cases r <;> cases a <;> rfl
set_option maxHeartbeats 4000000 in
theorem checked_any (l : List Sub) (v : Value) (who : Int) (w : World) (hl : SubsAt w.heap.size w v l) :
    Calls Tryd.prog 37 #[v, .int .i64 who] w fun e w' => e = .returned (.int .i64 (exitE l who)) ∧ Below w.heap.size w w' := by
  have HL := Lib.hid hl
  clear hl
  cases hr : rightT l
  · rw [exitE_eq (a := aliveT l who) hr rfl]
    have HR := Lib.hid hr
    clear hr
    go_enter Tryd.func37, Tryd.ntmps37
    go_wp2_with fail
    refine (rRightSIs HR.out HL.out).mono ?_
    rintro e w1 ⟨rfl, hB⟩
    have HB := Lib.hid hB
    clear hB
    go_wp2_with fail
    go_ret
    exact ⟨rfl, HB.out⟩
  · cases ha : aliveT l who
    all_goals
      rw [exitE_eq hr ha]
      have HR := Lib.hid hr
      have HA := Lib.hid ha
      clear hr ha
      go_enter Tryd.func37, Tryd.ntmps37
      go_wp2_with fail
      refine (rRightSIs HR.out HL.out).mono ?_
      rintro e w1 ⟨rfl, hB⟩
      have HB := Lib.hid hB
      clear hB
      go_wp2_with fail
      refine (rAliveIs HA.out (HL.out.later HB.out HB.out.size)).mono ?_
      rintro e w2 ⟨rfl, hB⟩
      have HB2 := Lib.hid (below_call HB.out hB)
      clear hB
      go_wp2_with fail
      go_ret
      exact ⟨rfl, HB2.out⟩
/-- all eight cells of one subject laid anew -/
theorem rows_set8 {l : List Sub} {k : Nat} {x y : Sub} {cs : Array Value} {r : List Value} (hc : cs.toList = (l.flatMap fun x => (encS x).toList) ++ r) (hx : l[k]? = some x) :
    ((((((((cs.setIfInBounds (k * 8) (.int .i64 y.par)).setIfInBounds (k * 8 + 1) (.int .i64 y.st)).setIfInBounds (k * 8 + 2) (.int .i64 y.cur.lv)).setIfInBounds (k * 8 + 3) (.int .u64 (u y.cur.c))).setIfInBounds (k * 8 + 4) (.int .i64 y.cur.ig)).setIfInBounds (k * 8 + 5) (.int .i64 y.high.lv)).setIfInBounds (k * 8 + 6) (.int .u64 (u y.high.c))).setIfInBounds (k * 8 + 7) (.int .i64 y.high.ig)).toList = ((l.set k y).flatMap fun x => (encS x).toList) ++ r := by
  have hk : k < l.length := (List.getElem?_eq_some_iff.1 hx).1
  have g : ∀ z : Sub, (l.set k z)[k]? = some z := fun z => by rw [List.getElem?_set_self hk]
  have ss : ∀ z z' : Sub, (l.set k z).set k z' = l.set k z' := fun z z' => List.set_set ..
  have h0 := rows_set (j := 0) (x' := { x with par := y.par }) (v := .int .i64 y.par) hc hx (by decide) rfl
  have h1 := rows_set (j := 1) (x' := { x with par := y.par, st := y.st }) (v := .int .i64 y.st) h0 (g _) (by decide) rfl
  rw [ss] at h1
  have h2 := rows_set (j := 2) (x' := { x with par := y.par, st := y.st, cur := ⟨y.cur.lv, x.cur.c, x.cur.ig⟩ }) (v := .int .i64 y.cur.lv) h1 (g _) (by decide) rfl
  rw [ss] at h2
  have h3 := rows_set (j := 3) (x' := { x with par := y.par, st := y.st, cur := ⟨y.cur.lv, y.cur.c, x.cur.ig⟩ }) (v := .int .u64 (u y.cur.c)) h2 (g _) (by decide) rfl
  rw [ss] at h3
  have h4 := rows_set (j := 4) (x' := { x with par := y.par, st := y.st, cur := y.cur }) (v := .int .i64 y.cur.ig) h3 (g _) (by decide) rfl
  rw [ss] at h4
  have h5 := rows_set (j := 5) (x' := { x with par := y.par, st := y.st, cur := y.cur, high := ⟨y.high.lv, x.high.c, x.high.ig⟩ }) (v := .int .i64 y.high.lv) h4 (g _) (by decide) rfl
  rw [ss] at h5
  have h6 := rows_set (j := 6) (x' := { x with par := y.par, st := y.st, cur := y.cur, high := ⟨y.high.lv, y.high.c, x.high.ig⟩ }) (v := .int .u64 (u y.high.c)) h5 (g _) (by decide) rfl
  rw [ss] at h6
  have h7 := rows_set (j := 7) (x' := y) (v := .int .i64 y.high.ig) h6 (g _) (by decide) rfl
  rw [ss] at h7
  exact h7
end

section
open Go.RowKit

set_option maxRecDepth 100000 in
set_option maxHeartbeats 8000000 in
theorem set_any (l : List Sub) (v : Value) (k : Nat) (x y : Sub) (w : World) (hl : SubsAt w.heap.size w v l) (hle : l.length ≤ 1000) (hx : l[k]? = some x) :
    Calls Tryd.prog 39 #[v, .int .i64 k, .agg #[.int .i64 y.par, .int .i64 y.st, .int .i64 y.cur.lv, .int .u64 (u y.cur.c), .int .i64 y.cur.ig, .int .i64 y.high.lv, .int .u64 (u y.high.c), .int .i64 y.high.ig]] w fun e w' => ∃ v', e = .returned v' ∧ SubsAt w'.heap.size w' v' (l.set k y) ∧ Below w.heap.size w w' := by
  obtain ⟨i0, hi, hz0, hz1, hz2⟩ := info_parts infoSub
  obtain ⟨sA, sc, rfl, _, _, _⟩ := hl.slice
  have hkl : k < l.length := (List.getElem?_eq_some_iff.1 hx).1
  have hkz : (0 : Int) ≤ (k : Int) := by omega
  have hkz2 : (k : Int) < (l.length : Int) := by omega
  have HL := Lib.hid hl
  have HX := Lib.hid hx
  clear hl hx
  go_enter Tryd.func39, Tryd.ntmps39
  go_wp2_with (at_builtin; go_loud (refine wpList_append_src _ rfl _ _ 22 rfl (w.heap.size + 1) 41 i0 (.agg #[.int .i64 0, .int .i64 0, .int .i64 0, .int .u64 0, .int .i64 0, .int .i64 0, .int .u64 0, .int .i64 0]) 8 64 Tryd.underlying22 hi hz0 hz1 hz2 rfl (by decide) _ 0 [] rfl ⟨rfl, .inl ⟨rfl, rfl⟩⟩ sA l.length sc _ rfl (RowsAt.src encS_size (by decide) (HL.out.below (below_alloc (Below.refl w.heap.size w) _))).1 subs_one (by unfold maxLen; omega) (by omega) (by simp) ?_; intro v1 w1 hown hgrow hblk; (have HT0 : TabAt (w.heap.size + 1) w1 v1 l := TabAt.of_own (n := 0 + l.length) (by simpa using hown) (by omega)); obtain ⟨A', c', rfl⟩ := HT0.slice; obtain ⟨g, cs, rfl, _, hg, hG, hc1, hc2, r, hr⟩ := HT0.cons HX.out; (have hB : Below w.heap.size w w1 := Below.grown (below_alloc (Below.refl w.heap.size w) _) hgrow (by simp) (fun k e => by cases e)); (have hY : Blk w1 w.heap.size 41 #[.int .i64 y.par, .int .i64 y.st, .int .i64 y.cur.lv, .int .u64 (u y.cur.c), .int .i64 y.cur.ig, .int .i64 y.high.lv, .int .u64 (u y.high.c), .int .i64 y.high.ig] := Blk.grown (Blk.new' rfl) hgrow (by intro e; cases e)); (have p0 : w1.cell? ⟨g, k * 8, none⟩ = some (.int .i64 x.par) := hG.at_ (tab_cell (j := 0) hr HX.out rfl)); (have f0 : w1.frozen? ⟨g, k * 8, none⟩ = false := hG.frozen _); (have q0 := hY.at_ (i := 0) (v := .int .i64 y.par) rfl); (have p1 : w1.cell? ⟨g, k * 8 + 1, none⟩ = some (.int .i64 x.st) := hG.at_ (tab_cell (j := 1) hr HX.out rfl)); (have f1 : w1.frozen? ⟨g, k * 8 + 1, none⟩ = false := hG.frozen _); (have q1 := hY.at_ (i := 1) (v := .int .i64 y.st) rfl); (have p2 : w1.cell? ⟨g, k * 8 + 2, none⟩ = some (.int .i64 x.cur.lv) := hG.at_ (tab_cell (j := 2) hr HX.out rfl)); (have f2 : w1.frozen? ⟨g, k * 8 + 2, none⟩ = false := hG.frozen _); (have q2 := hY.at_ (i := 2) (v := .int .i64 y.cur.lv) rfl); (have p3 : w1.cell? ⟨g, k * 8 + 3, none⟩ = some (.int .u64 (u x.cur.c)) := hG.at_ (tab_cell (j := 3) hr HX.out rfl)); (have f3 : w1.frozen? ⟨g, k * 8 + 3, none⟩ = false := hG.frozen _); (have q3 := hY.at_ (i := 3) (v := .int .u64 (u y.cur.c)) rfl); (have p4 : w1.cell? ⟨g, k * 8 + 4, none⟩ = some (.int .i64 x.cur.ig) := hG.at_ (tab_cell (j := 4) hr HX.out rfl)); (have f4 : w1.frozen? ⟨g, k * 8 + 4, none⟩ = false := hG.frozen _); (have q4 := hY.at_ (i := 4) (v := .int .i64 y.cur.ig) rfl); (have p5 : w1.cell? ⟨g, k * 8 + 5, none⟩ = some (.int .i64 x.high.lv) := hG.at_ (tab_cell (j := 5) hr HX.out rfl)); (have f5 : w1.frozen? ⟨g, k * 8 + 5, none⟩ = false := hG.frozen _); (have q5 := hY.at_ (i := 5) (v := .int .i64 y.high.lv) rfl); (have p6 : w1.cell? ⟨g, k * 8 + 6, none⟩ = some (.int .u64 (u x.high.c)) := hG.at_ (tab_cell (j := 6) hr HX.out rfl)); (have f6 : w1.frozen? ⟨g, k * 8 + 6, none⟩ = false := hG.frozen _); (have q6 := hY.at_ (i := 6) (v := .int .u64 (u y.high.c)) rfl); (have p7 : w1.cell? ⟨g, k * 8 + 7, none⟩ = some (.int .i64 x.high.ig) := hG.at_ (tab_cell (j := 7) hr HX.out rfl)); (have f7 : w1.frozen? ⟨g, k * 8 + 7, none⟩ = false := hG.frozen _); (have q7 := hY.at_ (i := 7) (v := .int .i64 y.high.ig) rfl); (have hgl := hG.lt); (have HG := Lib.hid hG); (have HB := Lib.hid hB); (have HR := Lib.hid (rows_set8 (y := y) hr HX.out)); clear hown hgrow hblk HT0 hG hB hY hr))
  go_ret
  have R := (Blk.set' (u := .int .i64 y.high.ig) (i := k * 8 + 7) (Blk.set' (u := .int .u64 (u y.high.c)) (i := k * 8 + 6) (Blk.set' (u := .int .i64 y.high.lv) (i := k * 8 + 5) (Blk.set' (u := .int .i64 y.cur.ig) (i := k * 8 + 4) (Blk.set' (u := .int .u64 (u y.cur.c)) (i := k * 8 + 3) (Blk.set' (u := .int .i64 y.cur.lv) (i := k * 8 + 2) (Blk.set' (u := .int .i64 y.st) (i := k * 8 + 1) (Blk.set' (u := .int .i64 y.par) (i := k * 8) HG.out rfl) rfl) rfl) rfl) rfl) rfl) rfl) rfl)
  refine ⟨_, rfl, ?_, (below_set (below_set (below_set (below_set (below_set (below_set (below_set (below_set HB.out (by omega) _) (by omega) _) (by omega) _) (by omega) _) (by omega) _) (by omega) _) (by omega) _) (by omega) _)⟩
  have hf := RowsAt.of_blk (l := l.set k y) (cap := c') encS_size R ⟨r, HR.out⟩ (by rw [List.length_set]; exact hc1) hc2
  rw [List.length_set] at hf
  exact hf
end

section
open Go.RowKit

theorem checkedIs {l : List Sub} {who y : Int} (h : exitE l who = y) {v : Value} {W : World} (hl : SubsAt W.heap.size W v l) : Calls Tryd.prog 37 #[v, .int .i64 who] W fun e w' => e = .returned (.int .i64 y) ∧ Below W.heap.size W w' := by
  subst h; exact checked_any l v who W hl
theorem exitE_cases (l : List Sub) (who : Int) : (openO l who = none ∧ exitE l who = 0) ∨ (exitE l who = 160 ∧ openO l who = some 160) ∨ (exitE l who = 161 ∧ openO l who = some 161) := by
  cases hr : rightT l
  · exact .inr (.inl ⟨by rw [exitE_eq hr rfl]; rfl, by rw [openO_eq hr rfl]; rfl⟩)
  · cases ha : aliveT l who
    · exact .inr (.inr ⟨by rw [exitE_eq hr ha]; rfl, by rw [openO_eq hr ha]; rfl⟩)
    · exact .inl ⟨by rw [openO_eq hr ha]; rfl, by rw [exitE_eq hr ha]; rfl⟩
set_option maxRecDepth 100000 in
set_option maxHeartbeats 4000000 in
theorem rExit_any (l : List Sub) (v : Value) (who : Int) (w : World) (hl : SubsAt w.heap.size w v l) (hle : l.length ≤ 1000) :
    Calls Tryd.prog 17 #[v, .int .i64 who] w fun e w' => ∃ v', e = .returned (.tuple #[v', .int .i64 (exitE l who)]) ∧ SubsAt w'.heap.size w' v' (exitL l who) ∧ Below w.heap.size w w' := by
  have HL := Lib.hid hl
  clear hl
  rcases exitE_cases l who with ⟨ho, h0⟩ | ⟨h0, ho⟩ | ⟨h0, ho⟩
  · obtain ⟨k, x, rfl, hk, hx, _⟩ := alive_el (open_alive ho).2
    have e2 : exitL l (k : Int) = l.set k { x with st := 2 } := by unfold exitL; rw [ho, Int.toNat_natCast, hx]
    rw [h0, e2]
    have HC := Lib.hid h0
    have HX := Lib.hid hx
    have hkz : (0 : Int) ≤ (k : Int) := by omega
    have hkz2 : (k : Int) < (l.length : Int) := by omega
    obtain ⟨sA, sc, rfl, _, _, _⟩ := HL.out.slice
    clear h0 e2 ho hx
    go_enter Tryd.func17, Tryd.ntmps17
    go_wp2_with fail
    refine (checkedIs HC.out HL.out).mono ?_
    rintro e w1 ⟨rfl, hB⟩
    have HB := Lib.hid hB
    obtain ⟨b, off, hA, hlt, he⟩ := (HL.out.later HB.out HB.out.size).el HX.out (Nat.le_refl _)
    subst hA
    have p0 : w1.cell? ⟨b, off + k * 8, none⟩ = some (.int .i64 x.par) := he.at_ (i := 0) rfl
    have p1 : w1.cell? ⟨b, off + k * 8 + 1, none⟩ = some (.int .i64 x.st) := he.at_ (i := 1) rfl
    have p2 : w1.cell? ⟨b, off + k * 8 + 2, none⟩ = some (.int .i64 x.cur.lv) := he.at_ (i := 2) rfl
    have p3 : w1.cell? ⟨b, off + k * 8 + 3, none⟩ = some (.int .u64 (u x.cur.c)) := he.at_ (i := 3) rfl
    have p4 : w1.cell? ⟨b, off + k * 8 + 4, none⟩ = some (.int .i64 x.cur.ig) := he.at_ (i := 4) rfl
    have p5 : w1.cell? ⟨b, off + k * 8 + 5, none⟩ = some (.int .i64 x.high.lv) := he.at_ (i := 5) rfl
    have p6 : w1.cell? ⟨b, off + k * 8 + 6, none⟩ = some (.int .u64 (u x.high.c)) := he.at_ (i := 6) rfl
    have p7 : w1.cell? ⟨b, off + k * 8 + 7, none⟩ = some (.int .i64 x.high.ig) := he.at_ (i := 7) rfl
    have pl : b < w1.heap.size := he.lt
    clear hB he
    go_wp2_with fail
    refine (set_any l _ k x { x with st := 2 } _ (HL.out.later (below_alloc HB.out _) (below_alloc HB.out _).size) hle HX.out).mono ?_
    rintro e w2 ⟨v', rfl, hS, hB⟩
    have HS := Lib.hid hS
    have HB2 := Lib.hid (below_call (below_alloc HB.out _) hB)
    obtain ⟨A', c', rfl, _, _, _⟩ := hS.slice
    clear hS hB p0 p1 p2 p3 p4 p5 p6 p7
    go_wp2_with fail
    go_ret2
    have hs := HS.out
    rw [List.length_set] at hs
    exact ⟨_, rfl, hs, HB2.out⟩
  all_goals
    have e2 : exitL l who = [] := by unfold exitL; rw [ho]
    rw [h0, e2]
    have HC := Lib.hid h0
    clear h0 e2 ho
    go_enter Tryd.func17, Tryd.ntmps17
    go_wp2_with fail
    refine (checkedIs HC.out HL.out).mono ?_
    rintro e w1 ⟨rfl, hB⟩
    have HB := Lib.hid hB
    clear hB
    go_wp2_with fail
    go_ret2
    exact ⟨_, rfl, RowsAt.nil _ _, HB.out⟩
end

section
open Go.RowKit

theorem rFloatIs {o x h nx : Lab} {n : Int} (hn : floatL o x h = nx) (he : floatE o x h = n) (W : World) :
    Calls Tryd.prog 42 #[.agg #[.int .i64 o.lv, .int .u64 (u o.c), .int .i64 o.ig], .agg #[.int .i64 x.lv, .int .u64 (u x.c), .int .i64 x.ig], .agg #[.int .i64 h.lv, .int .u64 (u h.c), .int .i64 h.ig]] W fun e w' => e = .returned (.tuple #[.agg #[.int .i64 nx.lv, .int .u64 (u nx.c), .int .i64 nx.ig], .int .i64 n]) ∧ Below W.heap.size W w' := by
  subst hn he; exact rFloat_any o x h W
/-- what Float answers -/
def sfloatL (l : List Sub) (who : Int) (a : Lab) : List Sub := match openO l who with
  | none => (match l[who.toNat]? with | some x => if floatE x.cur a x.high = 0 then l.set who.toNat { x with cur := floatL x.cur a x.high } else [] | none => [])
  | some _ => []
def sfloatE (l : List Sub) (who : Int) (a : Lab) : Int := match openO l who with
  | none => (match l[who.toNat]? with | some x => floatE x.cur a x.high | none => 0)
  | some y => y
set_option maxRecDepth 100000 in
set_option maxHeartbeats 4000000 in
theorem rFloatS_bad (l : List Sub) (v : Value) (who y : Int) (a : Lab) (w : World) (hl : SubsAt w.heap.size w v l) (h0 : exitE l who = y) (hy : (y != 0) = true) :
    Calls Tryd.prog 15 #[v, .int .i64 who, .agg #[.int .i64 a.lv, .int .u64 (u a.c), .int .i64 a.ig]] w fun e w' => e = .returned (.tuple #[.slice none 0 0, .int .i64 y]) ∧ Below w.heap.size w w' := by
  have HL := Lib.hid hl
  have HC := Lib.hid h0
  clear hl h0
  go_enter Tryd.func15, Tryd.ntmps15
  go_wp2_with fail
  refine (checkedIs HC.out (HL.out.later (below_alloc (Below.refl w.heap.size w) _) (below_alloc (Below.refl w.heap.size w) _).size)).mono ?_
  rintro e w1 ⟨rfl, hB⟩
  have HB := Lib.hid (below_call (below_alloc (Below.refl w.heap.size w) _) hB)
  clear hB
  go_wp2_with fail
  go_ret2
  exact ⟨rfl, HB.out⟩
set_option maxRecDepth 100000 in
set_option maxHeartbeats 4000000 in
theorem rFloatS_no (l : List Sub) (v : Value) (k : Nat) (x : Sub) (n : Int) (nx a : Lab) (w : World) (hl : SubsAt w.heap.size w v l) (h0 : exitE l (k : Int) = 0) (hx : l[k]? = some x) (hn : floatL x.cur a x.high = nx) (he : floatE x.cur a x.high = n) (hy : (n != 0) = true) :
    Calls Tryd.prog 15 #[v, .int .i64 k, .agg #[.int .i64 a.lv, .int .u64 (u a.c), .int .i64 a.ig]] w fun e w' => e = .returned (.tuple #[.slice none 0 0, .int .i64 n]) ∧ Below w.heap.size w w' := by
  have hkl : k < l.length := (List.getElem?_eq_some_iff.1 hx).1
  have hkz : (0 : Int) ≤ (k : Int) := by omega
  have hkz2 : (k : Int) < (l.length : Int) := by omega
  obtain ⟨sA, sc, rfl, _, _, _⟩ := hl.slice
  have HL := Lib.hid hl
  have HC := Lib.hid h0
  have HX := Lib.hid hx
  have HNX := Lib.hid hn
  have HEX := Lib.hid he
  clear hl h0 hx hn he
  go_enter Tryd.func15, Tryd.ntmps15
  go_wp2_with fail
  refine (checkedIs HC.out (HL.out.later (below_alloc (Below.refl w.heap.size w) _) (below_alloc (Below.refl w.heap.size w) _).size)).mono ?_
  rintro e w1 ⟨rfl, hB⟩
  have B0 : Hid (Blk w1 w.heap.size 25 #[.int .i64 a.lv, .int .u64 (u a.c), .int .i64 a.ig]) := Lib.hid ((Blk.new' rfl).after hB)
  have HB := Lib.hid (below_call (below_alloc (Below.refl w.heap.size w) _) hB)
  obtain ⟨b, off, hA, hlt, he⟩ := (HL.out.later HB.out HB.out.size).el HX.out (Nat.le_refl _)
  subst hA
  have p0 : w1.cell? ⟨b, off + k * 8, none⟩ = some (.int .i64 x.par) := he.at_ (i := 0) rfl
  have p1 : w1.cell? ⟨b, off + k * 8 + 1, none⟩ = some (.int .i64 x.st) := he.at_ (i := 1) rfl
  have p2 : w1.cell? ⟨b, off + k * 8 + 2, none⟩ = some (.int .i64 x.cur.lv) := he.at_ (i := 2) rfl
  have p3 : w1.cell? ⟨b, off + k * 8 + 3, none⟩ = some (.int .u64 (u x.cur.c)) := he.at_ (i := 3) rfl
  have p4 : w1.cell? ⟨b, off + k * 8 + 4, none⟩ = some (.int .i64 x.cur.ig) := he.at_ (i := 4) rfl
  have p5 : w1.cell? ⟨b, off + k * 8 + 5, none⟩ = some (.int .i64 x.high.lv) := he.at_ (i := 5) rfl
  have p6 : w1.cell? ⟨b, off + k * 8 + 6, none⟩ = some (.int .u64 (u x.high.c)) := he.at_ (i := 6) rfl
  have p7 : w1.cell? ⟨b, off + k * 8 + 7, none⟩ = some (.int .i64 x.high.ig) := he.at_ (i := 7) rfl
  have q0 := B0.out.at_ (i := 0) (v := .int .i64 a.lv) rfl
  have q1 := B0.out.at_ (i := 1) (v := .int .u64 (u a.c)) rfl
  have q2 := B0.out.at_ (i := 2) (v := .int .i64 a.ig) rfl
  have pl : b < w1.heap.size := he.lt
  have ql : w.heap.size < w1.heap.size := B0.out.lt
  clear hB he
  go_wp2_with fail
  refine (rFloatIs HNX.out HEX.out _).mono ?_
  rintro e w2 ⟨rfl, hB⟩
  have X0 : Hid (Blk w2 w1.heap.size 41 #[.int .i64 x.par, .int .i64 x.st, .int .i64 x.cur.lv, .int .u64 (u x.cur.c), .int .i64 x.cur.ig, .int .i64 x.high.lv, .int .u64 (u x.high.c), .int .i64 x.high.ig]) := Lib.hid ((Blk.new' rfl).after hB)
  have HB2 := Lib.hid (below_call (below_alloc HB.out _) hB)
  have xl : w1.heap.size < w2.heap.size := X0.out.lt
  clear hB p0 p1 p2 p3 p4 p5 p6 p7 q0 q1 q2
  go_wp2_with fail
  go_ret2
  exact ⟨rfl, below_alloc HB2.out _⟩
set_option maxRecDepth 100000 in
set_option maxHeartbeats 4000000 in
theorem rFloatS_ok (l : List Sub) (v : Value) (k : Nat) (x : Sub) (nx a : Lab) (w : World) (hl : SubsAt w.heap.size w v l) (hle : l.length ≤ 1000) (h0 : exitE l (k : Int) = 0) (hx : l[k]? = some x) (hn : floatL x.cur a x.high = nx) (he : floatE x.cur a x.high = 0) :
    Calls Tryd.prog 15 #[v, .int .i64 k, .agg #[.int .i64 a.lv, .int .u64 (u a.c), .int .i64 a.ig]] w fun e w' => ∃ v', e = .returned (.tuple #[v', .int .i64 0]) ∧ SubsAt w'.heap.size w' v' (l.set k { x with cur := nx }) ∧ Below w.heap.size w w' := by
  have hkl : k < l.length := (List.getElem?_eq_some_iff.1 hx).1
  have hkz : (0 : Int) ≤ (k : Int) := by omega
  have hkz2 : (k : Int) < (l.length : Int) := by omega
  obtain ⟨sA, sc, rfl, _, _, _⟩ := hl.slice
  have HL := Lib.hid hl
  have HC := Lib.hid h0
  have HX := Lib.hid hx
  have HNX := Lib.hid hn
  have HEX := Lib.hid he
  clear hl h0 hx hn he
  go_enter Tryd.func15, Tryd.ntmps15
  go_wp2_with fail
  refine (checkedIs HC.out (HL.out.later (below_alloc (Below.refl w.heap.size w) _) (below_alloc (Below.refl w.heap.size w) _).size)).mono ?_
  rintro e w1 ⟨rfl, hB⟩
  have B0 : Hid (Blk w1 w.heap.size 25 #[.int .i64 a.lv, .int .u64 (u a.c), .int .i64 a.ig]) := Lib.hid ((Blk.new' rfl).after hB)
  have HB := Lib.hid (below_call (below_alloc (Below.refl w.heap.size w) _) hB)
  obtain ⟨b, off, hA, hlt, he⟩ := (HL.out.later HB.out HB.out.size).el HX.out (Nat.le_refl _)
  subst hA
  have p0 : w1.cell? ⟨b, off + k * 8, none⟩ = some (.int .i64 x.par) := he.at_ (i := 0) rfl
  have p1 : w1.cell? ⟨b, off + k * 8 + 1, none⟩ = some (.int .i64 x.st) := he.at_ (i := 1) rfl
  have p2 : w1.cell? ⟨b, off + k * 8 + 2, none⟩ = some (.int .i64 x.cur.lv) := he.at_ (i := 2) rfl
  have p3 : w1.cell? ⟨b, off + k * 8 + 3, none⟩ = some (.int .u64 (u x.cur.c)) := he.at_ (i := 3) rfl
  have p4 : w1.cell? ⟨b, off + k * 8 + 4, none⟩ = some (.int .i64 x.cur.ig) := he.at_ (i := 4) rfl
  have p5 : w1.cell? ⟨b, off + k * 8 + 5, none⟩ = some (.int .i64 x.high.lv) := he.at_ (i := 5) rfl
  have p6 : w1.cell? ⟨b, off + k * 8 + 6, none⟩ = some (.int .u64 (u x.high.c)) := he.at_ (i := 6) rfl
  have p7 : w1.cell? ⟨b, off + k * 8 + 7, none⟩ = some (.int .i64 x.high.ig) := he.at_ (i := 7) rfl
  have q0 := B0.out.at_ (i := 0) (v := .int .i64 a.lv) rfl
  have q1 := B0.out.at_ (i := 1) (v := .int .u64 (u a.c)) rfl
  have q2 := B0.out.at_ (i := 2) (v := .int .i64 a.ig) rfl
  have pl : b < w1.heap.size := he.lt
  have ql : w.heap.size < w1.heap.size := B0.out.lt
  clear hB he
  go_wp2_with fail
  refine (rFloatIs HNX.out HEX.out _).mono ?_
  rintro e w2 ⟨rfl, hB⟩
  have X0 : Hid (Blk w2 w1.heap.size 41 #[.int .i64 x.par, .int .i64 x.st, .int .i64 x.cur.lv, .int .u64 (u x.cur.c), .int .i64 x.cur.ig, .int .i64 x.high.lv, .int .u64 (u x.high.c), .int .i64 x.high.ig]) := Lib.hid ((Blk.new' rfl).after hB)
  have HB2 := Lib.hid (below_call (below_alloc HB.out _) hB)
  have xl : w1.heap.size < w2.heap.size := X0.out.lt
  clear hB p0 p1 p2 p3 p4 p5 p6 p7 q0 q1 q2
  have x0 := X0.out.at_ (i := 0) (v := .int .i64 x.par) rfl
  have x1 := X0.out.at_ (i := 1) (v := .int .i64 x.st) rfl
  have x2 := X0.out.at_ (i := 2) (v := .int .i64 x.cur.lv) rfl
  have x3 := X0.out.at_ (i := 3) (v := .int .u64 (u x.cur.c)) rfl
  have x4 := X0.out.at_ (i := 4) (v := .int .i64 x.cur.ig) rfl
  have x5 := X0.out.at_ (i := 5) (v := .int .i64 x.high.lv) rfl
  have x6 := X0.out.at_ (i := 6) (v := .int .u64 (u x.high.c)) rfl
  have x7 := X0.out.at_ (i := 7) (v := .int .i64 x.high.ig) rfl
  have f2 := X0.out.frozen 2
  have f3 := X0.out.frozen 3
  have f4 := X0.out.frozen 4
  go_wp2_with fail
  have hbs := below_alloc (below_set (b := w1.heap.size) (i := 4) (below_set (b := w1.heap.size) (i := 3) (below_set (b := w1.heap.size) (i := 2) HB2.out (Nat.le_of_lt ql) (.int .i64 nx.lv)) (Nat.le_of_lt ql) (.int .u64 (u nx.c))) (Nat.le_of_lt ql) (.int .i64 nx.ig)) (.cells #[.int .i64 nx.lv, .int .u64 (u nx.c), .int .i64 nx.ig] 25)
  have HBS := Lib.hid hbs
  clear hbs
  refine (set_any l _ k x { x with cur := nx } _ (HL.out.later HBS.out HBS.out.size) hle HX.out).mono ?_
  rintro e w3 ⟨v', rfl, hS, hB⟩
  have HB3 := Lib.hid (below_call HBS.out hB)
  obtain ⟨A', c', rfl, _, _, _⟩ := hS.slice
  rw [List.length_set] at hS
  have HS := Lib.hid hS
  simp only [List.length_set]
  clear hS hB x0 x1 x2 x3 x4 x5 x6 x7 f2 f3 f4
  go_wp2_with fail
  go_ret2
  exact ⟨_, rfl, HS.out, HB3.out⟩
end

section
open Go.RowKit

theorem rFloatS_any (l : List Sub) (v : Value) (who : Int) (a : Lab) (w : World) (hl : SubsAt w.heap.size w v l) (hle : l.length ≤ 1000) :
    Calls Tryd.prog 15 #[v, .int .i64 who, .agg #[.int .i64 a.lv, .int .u64 (u a.c), .int .i64 a.ig]] w fun e w' => ∃ v', e = .returned (.tuple #[v', .int .i64 (sfloatE l who a)]) ∧ SubsAt w'.heap.size w' v' (sfloatL l who a) ∧ Below w.heap.size w w' := by
  rcases exitE_cases l who with ⟨ho, h0⟩ | ⟨h0, ho⟩ | ⟨h0, ho⟩
  · obtain ⟨k, x, rfl, hk, hx, _⟩ := alive_el (open_alive ho).2
    have e1 : sfloatE l (k : Int) a = floatE x.cur a x.high := by unfold sfloatE; rw [ho, Int.toNat_natCast, hx]
    have e2 : sfloatL l (k : Int) a = if floatE x.cur a x.high = 0 then l.set k { x with cur := floatL x.cur a x.high } else [] := by unfold sfloatL; rw [ho, Int.toNat_natCast, hx]
    rw [e1, e2]
    by_cases hf : floatE x.cur a x.high = 0
    · rw [if_pos hf, hf]
      exact rFloatS_ok l v k x _ a w hl hle h0 hx rfl hf
    · rw [if_neg hf]
      exact (rFloatS_no l v k x _ _ a w hl h0 hx rfl rfl (by simpa using hf)).mono fun e w' h => ⟨_, h.1, RowsAt.nil _ _, h.2⟩
  · have e1 : sfloatE l who a = 160 := by unfold sfloatE; rw [ho]
    have e2 : sfloatL l who a = [] := by unfold sfloatL; rw [ho]
    rw [e1, e2]
    exact (rFloatS_bad l v who _ a w hl h0 (by decide)).mono fun e w' h => ⟨_, h.1, RowsAt.nil _ _, h.2⟩
  · have e1 : sfloatE l who a = 161 := by unfold sfloatE; rw [ho]
    have e2 : sfloatL l who a = [] := by unfold sfloatL; rw [ho]
    rw [e1, e2]
    exact (rFloatS_bad l v who _ a w hl h0 (by decide)).mono fun e w' h => ⟨_, h.1, RowsAt.nil _ _, h.2⟩
theorem Few_any (l : List Sub) (v : Value) (w : World) (hl : SubsAt w.heap.size w v l) :
    Calls Tryd.prog 11 #[v] w fun e w' => ∃ v', e = .returned v' ∧ SubsAt w.heap.size w v' (l.take 10) ∧ w = w' := by
  have hl' := hl
  rcases hl with ⟨rfl, rfl⟩ | ⟨b, off, cap, rfl, hlt, hcap, hn63, _⟩
  · go_enter Tryd.func11, Tryd.ntmps11
    go_wp2
    go_ret
    exact ⟨_, rfl, RowsAt.nil _ _, rfl⟩
  · by_cases hm : 10 < l.length
    · have HT := Lib.hid (RowsAt.take (m := 10) (c' := cap) hl' 10 (by rw [List.length_take]; omega) (Nat.le_refl _) (by omega))
      clear hl'
      go_enter Tryd.func11, Tryd.ntmps11
      go_wp2
      go_ret
      exact ⟨_, rfl, HT.out, rfl⟩
    · have HT := Lib.hid hl'
      clear hl'
      rw [List.take_of_length_le (by omega)]
      go_enter Tryd.func11, Tryd.ntmps11
      go_wp2
      go_ret
      exact ⟨_, rfl, HT.out, rfl⟩
end

section
open Go.RowKit

attribute [local go_sem] u_eq_zero u_beq

def eqS (a b : Sub) : Bool := a.par == b.par && (a.st == b.st && (eqL a.cur b.cur && eqL a.high b.high))
set_option maxRecDepth 100000 in
set_option maxHeartbeats 2000000 in
theorem neq_sub (a b : Sub) (w : World) : (binOp .neq 41 (.agg #[.int .i64 a.par, .int .i64 a.st, .int .i64 a.cur.lv, .int .u64 (u a.cur.c), .int .i64 a.cur.ig, .int .i64 a.high.lv, .int .u64 (u a.high.c), .int .i64 a.high.ig]) (.agg #[.int .i64 b.par, .int .i64 b.st, .int .i64 b.cur.lv, .int .u64 (u b.cur.c), .int .i64 b.cur.ig, .int .i64 b.high.lv, .int .u64 (u b.high.c), .int .i64 b.high.ig])).run Tryd.prog w = .ok (.bool (!eqS a b)) w := by
  by_cases h0 : a.par = b.par
  · by_cases h1 : a.st = b.st
    · by_cases h2 : a.cur.lv = b.cur.lv
      · by_cases h3 : a.cur.c = b.cur.c
        · by_cases h4 : a.cur.ig = b.cur.ig
          · by_cases h5 : a.high.lv = b.high.lv
            · by_cases h6 : a.high.c = b.high.c
              · by_cases h7 : a.high.ig = b.high.ig
                · go_simp
                  simp [eqS, eqL, h0, h1, h2, h3, h4, h5, h6, h7]
                · go_simp
                  simp [eqS, eqL, h0, h1, h2, h3, h4, h5, h6, h7]
              · go_simp
                simp [eqS, eqL, h0, h1, h2, h3, h4, h5, h6]
            · go_simp
              simp [eqS, eqL, h0, h1, h2, h3, h4, h5]
          · go_simp
            simp [eqS, eqL, h0, h1, h2, h3, h4]
        · go_simp
          simp [eqS, eqL, h0, h1, h2, h3]
      · go_simp
        simp [eqS, eqL, h0, h1, h2]
    · go_simp
      simp [eqS, eqL, h0, h1]
  · go_simp
    simp [eqS, eqL, h0]
theorem eqS_iff {a b : Sub} : eqS a b = true ↔ a = b := by
  unfold eqS
  simp only [Bool.and_eq_true, beq_iff_eq, eqL_iff]
  constructor
  · rintro ⟨h1, h2, h3, h4⟩
    cases a; cases b; simp_all
  · rintro rfl; exact ⟨rfl, rfl, rfl, rfl⟩
end

section
open Go.RowKit

attribute [local go_sem] u_and u_or u_andNot u_add u_sub u_bit u_eq_zero u_beq

set_option maxRecDepth 100000 in
set_option maxHeartbeats 4000000 in
theorem rSame_any (l m : List Sub) (v v2 : Value) (r : Bool) (hr : r = true ↔ l = m) (w0 : World) (hl : SubsAt w0.heap.size w0 v l) (hm : SubsAt w0.heap.size w0 v2 m) :
    Calls Tryd.prog 18 #[v, v2] w0 fun e w' => e = .returned (.bool r) ∧ Below w0.heap.size w0 w' := by
  obtain ⟨sA, sc, rfl, hcap, hsc, _⟩ := hl.slice
  obtain ⟨sB, sd, rfl, hcap2, hsd, _⟩ := hm.slice
  have HL := Lib.hid hl
  have HM := Lib.hid hm
  have HR := Lib.hid hr
  clear hl hm hr
  by_cases hlen : l.length = m.length
  rotate_left
  · have hrf : r = false := by cases r; rfl; exact absurd (congrArg List.length (HR.out.1 rfl)) hlen
    subst hrf
    have hz : ¬ (l.length : Int) = (m.length : Int) := by omega
    have hz1 : ((l.length : Int) != (m.length : Int)) = true := bne_iff_ne.2 hz
    go_enter Tryd.func18, Tryd.ntmps18
    go_wp2_with fail
    go_ret
    exact ⟨rfl, Below.refl _ _⟩
  rw [← hlen]
  go_enter Tryd.func18, Tryd.ntmps18
  go_wp2_with fail
  go_loopw [5] (fun i wr => ∃ k : Nat, i = .int .i64 k ∧ k ≤ l.length ∧ (∀ j, j < k → l[j]? = m[j]?) ∧ Below w0.heap.size w0 wr) (fun i _ => l.length - (intOf i).toNat)
  case atStart => exact ⟨0, rfl, Nat.zero_le _, fun j hj => by omega, Below.refl _ _⟩
  case round =>
    obtain ⟨k, rfl, hk, hall, hB⟩ := hrel
    have HB := Lib.hid hB
    have HA := Lib.hid hall
    clear hB hall
    by_cases hkl : k < l.length
    · obtain ⟨x, hx⟩ : ∃ x, l[k]? = some x := ⟨_, List.getElem?_eq_getElem hkl⟩
      obtain ⟨y, hy⟩ : ∃ y, m[k]? = some y := ⟨_, List.getElem?_eq_getElem (by omega)⟩
      obtain ⟨b, off, hA, hlt, he⟩ := (HL.out.later HB.out HB.out.size).el hx (Nat.le_refl _)
      subst hA
      obtain ⟨sb, soff, hA2, hlt2, he2⟩ := (HM.out.later HB.out HB.out.size).el hy (Nat.le_refl _)
      subst hA2
      have B0 := Lib.hid (show Els wr b (off + k * 8) #[.int .i64 x.par, .int .i64 x.st, .int .i64 x.cur.lv, .int .u64 (u x.cur.c), .int .i64 x.cur.ig, .int .i64 x.high.lv, .int .u64 (u x.high.c), .int .i64 x.high.ig] from he)
      have B1 := Lib.hid (show Els wr sb (soff + k * 8) #[.int .i64 y.par, .int .i64 y.st, .int .i64 y.cur.lv, .int .u64 (u y.cur.c), .int .i64 y.cur.ig, .int .i64 y.high.lv, .int .u64 (u y.high.c), .int .i64 y.high.ig] from he2)
      have HX := Lib.hid hx
      have HY := Lib.hid hy
      have hkz : (0 : Int) ≤ (k : Int) := by omega
      have hkz2 : (k : Int) < (l.length : Int) := by omega
      clear he he2 hx hy
      cases hq : eqS x y
      · have HQ : Hid (x ≠ y) := Lib.hid (fun e => by rw [eqS_iff.2 e] at hq; cases hq)
        have hE : ∀ W, (binOp .neq 41 (.agg #[.int .i64 x.par, .int .i64 x.st, .int .i64 x.cur.lv, .int .u64 (u x.cur.c), .int .i64 x.cur.ig, .int .i64 x.high.lv, .int .u64 (u x.high.c), .int .i64 x.high.ig]) (.agg #[.int .i64 y.par, .int .i64 y.st, .int .i64 y.cur.lv, .int .u64 (u y.cur.c), .int .i64 y.cur.ig, .int .i64 y.high.lv, .int .u64 (u y.high.c), .int .i64 y.high.ig])).run Tryd.prog W = .ok (.bool true) W := fun W => by rw [neq_sub, hq]; rfl
        clear hq
        go_wp2_with fail
        refine wp_region_gen (S := (fun W' => Els W' (b) (off + k * 8) #[.int .i64 x.par, .int .i64 x.st, .int .i64 x.cur.lv, .int .u64 (u x.cur.c), .int .i64 x.cur.ig, .int .i64 x.high.lv, .int .u64 (u x.high.c), .int .i64 x.high.ig] ∧ Els W' (sb) (soff + k * 8) #[.int .i64 y.par, .int .i64 y.st, .int .i64 y.cur.lv, .int .u64 (u y.cur.c), .int .i64 y.cur.ig, .int .i64 y.high.lv, .int .u64 (u y.high.c), .int .i64 y.high.ig] ∧ Below w0.heap.size w0 W')) (by kernel_rfl) ⟨(by repeat (first | exact B0.out | refine Els.drew ?_ | refine Els.alloc ?_ _)), (by repeat (first | exact B1.out | refine Els.drew ?_ | refine Els.alloc ?_ _)), (by repeat (first | exact HB.out | refine below_alloc ?_ _ | refine Below.drew ?_ | refine below_set ?_ (by omega) _))⟩ (fun w1 hS => ?_)
        refine wpAnyH_take (i := 0) (v := ?_) (op_at rfl) (by kernel_rfl) (by kernel_rfl) (by kernel_rfl) (fun _ _ _ h => h) (Or.inl ⟨by rfl, ?_⟩) hS ?_; rotate_left; focus ((intro w' hSw; clear hSw; go_simp) <;> with_reducible rfl)
        try simp only [Act.put, List.setIfInBounds_toArray, List.set_cons_zero, List.set_cons_succ]
        refine wpAnyH_take (i := 1) (v := ?_) (op_at rfl) (by kernel_rfl) (by kernel_rfl) (by kernel_rfl) (fun _ _ _ h => h) (Or.inl ⟨by rfl, ?_⟩) hS ?_; rotate_left; focus ((intro w' hSw; clear hSw; go_simp) <;> with_reducible rfl)
        try simp only [Act.put, List.setIfInBounds_toArray, List.set_cons_zero, List.set_cons_succ]
        refine wpAnyH_take (i := 2) (v := ?_) (op_at rfl) (by kernel_rfl) (by kernel_rfl) (by kernel_rfl) (fun _ _ _ h => h) (Or.inl ⟨by rfl, ?_⟩) hS ?_; rotate_left; focus ((intro w' hSw; clear hSw; go_simp) <;> with_reducible rfl)
        try simp only [Act.put, List.setIfInBounds_toArray, List.set_cons_zero, List.set_cons_succ]
        refine wpAnyH_take (i := 3) (v := ?_) (op_at rfl) (by kernel_rfl) (by kernel_rfl) (by kernel_rfl) (fun _ _ _ h => h) (Or.inl ⟨by rfl, ?_⟩) hS ?_; rotate_left; focus ((intro w' hSw; obtain ⟨q, -⟩ := hSw; have c0 : w'.cell? ⟨b, off + k * 8, none⟩ = some (.int .i64 x.par) := q.at_ (i := 0) (v := .int .i64 x.par) rfl; have c1 : w'.cell? ⟨b, off + k * 8 + 1, none⟩ = some (.int .i64 x.st) := q.at_ (i := 1) (v := .int .i64 x.st) rfl; have c2 : w'.cell? ⟨b, off + k * 8 + 2, none⟩ = some (.int .i64 x.cur.lv) := q.at_ (i := 2) (v := .int .i64 x.cur.lv) rfl; have c3 : w'.cell? ⟨b, off + k * 8 + 3, none⟩ = some (.int .u64 (u x.cur.c)) := q.at_ (i := 3) (v := .int .u64 (u x.cur.c)) rfl; have c4 : w'.cell? ⟨b, off + k * 8 + 4, none⟩ = some (.int .i64 x.cur.ig) := q.at_ (i := 4) (v := .int .i64 x.cur.ig) rfl; have c5 : w'.cell? ⟨b, off + k * 8 + 5, none⟩ = some (.int .i64 x.high.lv) := q.at_ (i := 5) (v := .int .i64 x.high.lv) rfl; have c6 : w'.cell? ⟨b, off + k * 8 + 6, none⟩ = some (.int .u64 (u x.high.c)) := q.at_ (i := 6) (v := .int .u64 (u x.high.c)) rfl; have c7 : w'.cell? ⟨b, off + k * 8 + 7, none⟩ = some (.int .i64 x.high.ig) := q.at_ (i := 7) (v := .int .i64 x.high.ig) rfl; clear q; go_simp) <;> with_reducible rfl)
        try simp only [Act.put, List.setIfInBounds_toArray, List.set_cons_zero, List.set_cons_succ]
        refine wpAnyH_take (i := 4) (v := ?_) (op_at rfl) (by kernel_rfl) (by kernel_rfl) (by kernel_rfl) (fun _ _ _ h => h) (Or.inl ⟨by rfl, ?_⟩) hS ?_; rotate_left; focus ((intro w' hSw; clear hSw; go_simp) <;> with_reducible rfl)
        try simp only [Act.put, List.setIfInBounds_toArray, List.set_cons_zero, List.set_cons_succ]
        refine wpAnyH_take (i := 5) (v := ?_) (op_at rfl) (by kernel_rfl) (by kernel_rfl) (by kernel_rfl) (fun _ _ _ h => h) (Or.inl ⟨by rfl, ?_⟩) hS ?_; rotate_left; focus ((intro w' hSw; clear hSw; go_simp) <;> with_reducible rfl)
        try simp only [Act.put, List.setIfInBounds_toArray, List.set_cons_zero, List.set_cons_succ]
        refine wpAnyH_take (i := 6) (v := ?_) (op_at rfl) (by kernel_rfl) (by kernel_rfl) (by kernel_rfl) (fun _ _ _ h => h) (Or.inl ⟨by rfl, ?_⟩) hS ?_; rotate_left; focus ((intro w' hSw; clear hSw; go_simp) <;> with_reducible rfl)
        try simp only [Act.put, List.setIfInBounds_toArray, List.set_cons_zero, List.set_cons_succ]
        refine wpAnyH_take (i := 7) (v := ?_) (op_at rfl) (by kernel_rfl) (by kernel_rfl) (by kernel_rfl) (fun _ _ _ h => h) (Or.inl ⟨by rfl, ?_⟩) hS ?_; rotate_left; focus ((intro w' hSw; obtain ⟨-, q, -⟩ := hSw; have c0 : w'.cell? ⟨sb, soff + k * 8, none⟩ = some (.int .i64 y.par) := q.at_ (i := 0) (v := .int .i64 y.par) rfl; have c1 : w'.cell? ⟨sb, soff + k * 8 + 1, none⟩ = some (.int .i64 y.st) := q.at_ (i := 1) (v := .int .i64 y.st) rfl; have c2 : w'.cell? ⟨sb, soff + k * 8 + 2, none⟩ = some (.int .i64 y.cur.lv) := q.at_ (i := 2) (v := .int .i64 y.cur.lv) rfl; have c3 : w'.cell? ⟨sb, soff + k * 8 + 3, none⟩ = some (.int .u64 (u y.cur.c)) := q.at_ (i := 3) (v := .int .u64 (u y.cur.c)) rfl; have c4 : w'.cell? ⟨sb, soff + k * 8 + 4, none⟩ = some (.int .i64 y.cur.ig) := q.at_ (i := 4) (v := .int .i64 y.cur.ig) rfl; have c5 : w'.cell? ⟨sb, soff + k * 8 + 5, none⟩ = some (.int .i64 y.high.lv) := q.at_ (i := 5) (v := .int .i64 y.high.lv) rfl; have c6 : w'.cell? ⟨sb, soff + k * 8 + 6, none⟩ = some (.int .u64 (u y.high.c)) := q.at_ (i := 6) (v := .int .u64 (u y.high.c)) rfl; have c7 : w'.cell? ⟨sb, soff + k * 8 + 7, none⟩ = some (.int .i64 y.high.ig) := q.at_ (i := 7) (v := .int .i64 y.high.ig) rfl; clear q; go_simp) <;> with_reducible rfl)
        try simp only [Act.put, List.setIfInBounds_toArray, List.set_cons_zero, List.set_cons_succ]
        refine wpAnyH_take (i := 8) (v := ?_) (op_at rfl) (by kernel_rfl) (by kernel_rfl) (by kernel_rfl) (fun _ _ _ h => h) (Or.inl ⟨by rfl, ?_⟩) hS ?_; rotate_left; focus ((intro w' hSw; clear hSw; go_simp) <;> with_reducible rfl)
        try simp only [Act.put, List.setIfInBounds_toArray, List.set_cons_zero, List.set_cons_succ]
        refine wpAnyH_done (by kernel_rfl) ?_ _
        obtain ⟨b0, b1, hb⟩ := hS
        replace B0 := Lib.hid b0
        clear b0
        replace B1 := Lib.hid b1
        clear b1
        replace HB := Lib.hid hb
        clear hb
        go_wp2_with fail
        go_ret
        exact ⟨by cases r; rfl; exact absurd (Option.some.inj (HX.out.symm.trans ((congrArg (fun t => t[k]?) (HR.out.1 rfl)).trans HY.out))) HQ.out, HB.out⟩
      · have HQ : Hid (x = y) := Lib.hid (eqS_iff.1 hq)
        have hE : ∀ W, (binOp .neq 41 (.agg #[.int .i64 x.par, .int .i64 x.st, .int .i64 x.cur.lv, .int .u64 (u x.cur.c), .int .i64 x.cur.ig, .int .i64 x.high.lv, .int .u64 (u x.high.c), .int .i64 x.high.ig]) (.agg #[.int .i64 y.par, .int .i64 y.st, .int .i64 y.cur.lv, .int .u64 (u y.cur.c), .int .i64 y.cur.ig, .int .i64 y.high.lv, .int .u64 (u y.high.c), .int .i64 y.high.ig])).run Tryd.prog W = .ok (.bool false) W := fun W => by rw [neq_sub, hq]; rfl
        clear hq
        go_wp2_with fail
        refine wp_region_gen (S := (fun W' => Els W' (b) (off + k * 8) #[.int .i64 x.par, .int .i64 x.st, .int .i64 x.cur.lv, .int .u64 (u x.cur.c), .int .i64 x.cur.ig, .int .i64 x.high.lv, .int .u64 (u x.high.c), .int .i64 x.high.ig] ∧ Els W' (sb) (soff + k * 8) #[.int .i64 y.par, .int .i64 y.st, .int .i64 y.cur.lv, .int .u64 (u y.cur.c), .int .i64 y.cur.ig, .int .i64 y.high.lv, .int .u64 (u y.high.c), .int .i64 y.high.ig] ∧ Below w0.heap.size w0 W')) (by kernel_rfl) ⟨(by repeat (first | exact B0.out | refine Els.drew ?_ | refine Els.alloc ?_ _)), (by repeat (first | exact B1.out | refine Els.drew ?_ | refine Els.alloc ?_ _)), (by repeat (first | exact HB.out | refine below_alloc ?_ _ | refine Below.drew ?_ | refine below_set ?_ (by omega) _))⟩ (fun w1 hS => ?_)
        refine wpAnyH_take (i := 0) (v := ?_) (op_at rfl) (by kernel_rfl) (by kernel_rfl) (by kernel_rfl) (fun _ _ _ h => h) (Or.inl ⟨by rfl, ?_⟩) hS ?_; rotate_left; focus ((intro w' hSw; clear hSw; go_simp) <;> with_reducible rfl)
        try simp only [Act.put, List.setIfInBounds_toArray, List.set_cons_zero, List.set_cons_succ]
        refine wpAnyH_take (i := 1) (v := ?_) (op_at rfl) (by kernel_rfl) (by kernel_rfl) (by kernel_rfl) (fun _ _ _ h => h) (Or.inl ⟨by rfl, ?_⟩) hS ?_; rotate_left; focus ((intro w' hSw; clear hSw; go_simp) <;> with_reducible rfl)
        try simp only [Act.put, List.setIfInBounds_toArray, List.set_cons_zero, List.set_cons_succ]
        refine wpAnyH_take (i := 2) (v := ?_) (op_at rfl) (by kernel_rfl) (by kernel_rfl) (by kernel_rfl) (fun _ _ _ h => h) (Or.inl ⟨by rfl, ?_⟩) hS ?_; rotate_left; focus ((intro w' hSw; clear hSw; go_simp) <;> with_reducible rfl)
        try simp only [Act.put, List.setIfInBounds_toArray, List.set_cons_zero, List.set_cons_succ]
        refine wpAnyH_take (i := 3) (v := ?_) (op_at rfl) (by kernel_rfl) (by kernel_rfl) (by kernel_rfl) (fun _ _ _ h => h) (Or.inl ⟨by rfl, ?_⟩) hS ?_; rotate_left; focus ((intro w' hSw; obtain ⟨q, -⟩ := hSw; have c0 : w'.cell? ⟨b, off + k * 8, none⟩ = some (.int .i64 x.par) := q.at_ (i := 0) (v := .int .i64 x.par) rfl; have c1 : w'.cell? ⟨b, off + k * 8 + 1, none⟩ = some (.int .i64 x.st) := q.at_ (i := 1) (v := .int .i64 x.st) rfl; have c2 : w'.cell? ⟨b, off + k * 8 + 2, none⟩ = some (.int .i64 x.cur.lv) := q.at_ (i := 2) (v := .int .i64 x.cur.lv) rfl; have c3 : w'.cell? ⟨b, off + k * 8 + 3, none⟩ = some (.int .u64 (u x.cur.c)) := q.at_ (i := 3) (v := .int .u64 (u x.cur.c)) rfl; have c4 : w'.cell? ⟨b, off + k * 8 + 4, none⟩ = some (.int .i64 x.cur.ig) := q.at_ (i := 4) (v := .int .i64 x.cur.ig) rfl; have c5 : w'.cell? ⟨b, off + k * 8 + 5, none⟩ = some (.int .i64 x.high.lv) := q.at_ (i := 5) (v := .int .i64 x.high.lv) rfl; have c6 : w'.cell? ⟨b, off + k * 8 + 6, none⟩ = some (.int .u64 (u x.high.c)) := q.at_ (i := 6) (v := .int .u64 (u x.high.c)) rfl; have c7 : w'.cell? ⟨b, off + k * 8 + 7, none⟩ = some (.int .i64 x.high.ig) := q.at_ (i := 7) (v := .int .i64 x.high.ig) rfl; clear q; go_simp) <;> with_reducible rfl)
        try simp only [Act.put, List.setIfInBounds_toArray, List.set_cons_zero, List.set_cons_succ]
        refine wpAnyH_take (i := 4) (v := ?_) (op_at rfl) (by kernel_rfl) (by kernel_rfl) (by kernel_rfl) (fun _ _ _ h => h) (Or.inl ⟨by rfl, ?_⟩) hS ?_; rotate_left; focus ((intro w' hSw; clear hSw; go_simp) <;> with_reducible rfl)
        try simp only [Act.put, List.setIfInBounds_toArray, List.set_cons_zero, List.set_cons_succ]
        refine wpAnyH_take (i := 5) (v := ?_) (op_at rfl) (by kernel_rfl) (by kernel_rfl) (by kernel_rfl) (fun _ _ _ h => h) (Or.inl ⟨by rfl, ?_⟩) hS ?_; rotate_left; focus ((intro w' hSw; clear hSw; go_simp) <;> with_reducible rfl)
        try simp only [Act.put, List.setIfInBounds_toArray, List.set_cons_zero, List.set_cons_succ]
        refine wpAnyH_take (i := 6) (v := ?_) (op_at rfl) (by kernel_rfl) (by kernel_rfl) (by kernel_rfl) (fun _ _ _ h => h) (Or.inl ⟨by rfl, ?_⟩) hS ?_; rotate_left; focus ((intro w' hSw; clear hSw; go_simp) <;> with_reducible rfl)
        try simp only [Act.put, List.setIfInBounds_toArray, List.set_cons_zero, List.set_cons_succ]
        refine wpAnyH_take (i := 7) (v := ?_) (op_at rfl) (by kernel_rfl) (by kernel_rfl) (by kernel_rfl) (fun _ _ _ h => h) (Or.inl ⟨by rfl, ?_⟩) hS ?_; rotate_left; focus ((intro w' hSw; obtain ⟨-, q, -⟩ := hSw; have c0 : w'.cell? ⟨sb, soff + k * 8, none⟩ = some (.int .i64 y.par) := q.at_ (i := 0) (v := .int .i64 y.par) rfl; have c1 : w'.cell? ⟨sb, soff + k * 8 + 1, none⟩ = some (.int .i64 y.st) := q.at_ (i := 1) (v := .int .i64 y.st) rfl; have c2 : w'.cell? ⟨sb, soff + k * 8 + 2, none⟩ = some (.int .i64 y.cur.lv) := q.at_ (i := 2) (v := .int .i64 y.cur.lv) rfl; have c3 : w'.cell? ⟨sb, soff + k * 8 + 3, none⟩ = some (.int .u64 (u y.cur.c)) := q.at_ (i := 3) (v := .int .u64 (u y.cur.c)) rfl; have c4 : w'.cell? ⟨sb, soff + k * 8 + 4, none⟩ = some (.int .i64 y.cur.ig) := q.at_ (i := 4) (v := .int .i64 y.cur.ig) rfl; have c5 : w'.cell? ⟨sb, soff + k * 8 + 5, none⟩ = some (.int .i64 y.high.lv) := q.at_ (i := 5) (v := .int .i64 y.high.lv) rfl; have c6 : w'.cell? ⟨sb, soff + k * 8 + 6, none⟩ = some (.int .u64 (u y.high.c)) := q.at_ (i := 6) (v := .int .u64 (u y.high.c)) rfl; have c7 : w'.cell? ⟨sb, soff + k * 8 + 7, none⟩ = some (.int .i64 y.high.ig) := q.at_ (i := 7) (v := .int .i64 y.high.ig) rfl; clear q; go_simp) <;> with_reducible rfl)
        try simp only [Act.put, List.setIfInBounds_toArray, List.set_cons_zero, List.set_cons_succ]
        refine wpAnyH_take (i := 8) (v := ?_) (op_at rfl) (by kernel_rfl) (by kernel_rfl) (by kernel_rfl) (fun _ _ _ h => h) (Or.inl ⟨by rfl, ?_⟩) hS ?_; rotate_left; focus ((intro w' hSw; clear hSw; go_simp) <;> with_reducible rfl)
        try simp only [Act.put, List.setIfInBounds_toArray, List.set_cons_zero, List.set_cons_succ]
        refine wpAnyH_done (by kernel_rfl) ?_ _
        obtain ⟨b0, b1, hb⟩ := hS
        replace B0 := Lib.hid b0
        clear b0
        replace B1 := Lib.hid b1
        clear b1
        replace HB := Lib.hid hb
        clear hb
        go_wp2_with fail
        go_roundw
        case rel => exact ⟨k + 1, by go_num, by omega, fun j hj => by
          by_cases e : j = k
          · subst e; rw [HX.out, HY.out, HQ.out]
          · exact HA.out j (by omega), HB.out⟩
        case measure => simp [intOf]; omega
    · have hke : k = l.length := by omega
      subst hke
      have hrt : r = true := HR.out.2 (List.ext_getElem? fun j => by
        by_cases h : j < l.length
        · exact HA.out j h
        · rw [List.getElem?_eq_none (by omega), List.getElem?_eq_none (by omega)])
      subst hrt
      go_wp2_with fail
      go_ret
      exact ⟨rfl, HB.out⟩
set_option maxRecDepth 100000 in
set_option maxHeartbeats 4000000 in
theorem same_any (l m : List Sub) (v v2 : Value) (r : Bool) (hr : r = true ↔ l = m) (w0 : World) (hl : SubsAt w0.heap.size w0 v l) (hm : SubsAt w0.heap.size w0 v2 m) :
    Calls Tryd.prog 28 #[v, v2] w0 fun e w' => e = .returned (.bool r) ∧ Below w0.heap.size w0 w' := by
  obtain ⟨sA, sc, rfl, hcap, hsc, _⟩ := hl.slice
  obtain ⟨sB, sd, rfl, hcap2, hsd, _⟩ := hm.slice
  have HL := Lib.hid hl
  have HM := Lib.hid hm
  have HR := Lib.hid hr
  clear hl hm hr
  by_cases hlen : l.length = m.length
  rotate_left
  · have hrf : r = false := by cases r; rfl; exact absurd (congrArg List.length (HR.out.1 rfl)) hlen
    subst hrf
    have hz : ¬ (l.length : Int) = (m.length : Int) := by omega
    have hz1 : ((l.length : Int) != (m.length : Int)) = true := bne_iff_ne.2 hz
    go_enter Tryd.func28, Tryd.ntmps28
    go_wp2_with fail
    go_ret
    exact ⟨rfl, Below.refl _ _⟩
  rw [← hlen]
  go_enter Tryd.func28, Tryd.ntmps28
  go_wp2_with fail
  go_loopw [14] (fun i wr => ∃ k : Nat, i = .int .i64 k ∧ k ≤ l.length ∧ (∀ j, j < k → l[j]? = m[j]?) ∧ Below w0.heap.size w0 wr) (fun i _ => l.length - (intOf i).toNat)
  case atStart => exact ⟨0, rfl, Nat.zero_le _, fun j hj => by omega, Below.refl _ _⟩
  case round =>
    obtain ⟨k, rfl, hk, hall, hB⟩ := hrel
    have HB := Lib.hid hB
    have HA := Lib.hid hall
    clear hB hall
    by_cases hkl : k < l.length
    · obtain ⟨x, hx⟩ : ∃ x, l[k]? = some x := ⟨_, List.getElem?_eq_getElem hkl⟩
      obtain ⟨y, hy⟩ : ∃ y, m[k]? = some y := ⟨_, List.getElem?_eq_getElem (by omega)⟩
      obtain ⟨b, off, hA, hlt, he⟩ := (HL.out.later HB.out HB.out.size).el hx (Nat.le_refl _)
      subst hA
      obtain ⟨sb, soff, hA2, hlt2, he2⟩ := (HM.out.later HB.out HB.out.size).el hy (Nat.le_refl _)
      subst hA2
      have B0 := Lib.hid (show Els wr b (off + k * 8) #[.int .i64 x.par, .int .i64 x.st, .int .i64 x.cur.lv, .int .u64 (u x.cur.c), .int .i64 x.cur.ig, .int .i64 x.high.lv, .int .u64 (u x.high.c), .int .i64 x.high.ig] from he)
      have B1 := Lib.hid (show Els wr sb (soff + k * 8) #[.int .i64 y.par, .int .i64 y.st, .int .i64 y.cur.lv, .int .u64 (u y.cur.c), .int .i64 y.cur.ig, .int .i64 y.high.lv, .int .u64 (u y.high.c), .int .i64 y.high.ig] from he2)
      have HX := Lib.hid hx
      have HY := Lib.hid hy
      have hkz : (0 : Int) ≤ (k : Int) := by omega
      have hkz2 : (k : Int) < (l.length : Int) := by omega
      clear he he2 hx hy
      cases hq : eqS x y
      · have HQ : Hid (x ≠ y) := Lib.hid (fun e => by rw [eqS_iff.2 e] at hq; cases hq)
        have hE : ∀ W, (binOp .neq 41 (.agg #[.int .i64 x.par, .int .i64 x.st, .int .i64 x.cur.lv, .int .u64 (u x.cur.c), .int .i64 x.cur.ig, .int .i64 x.high.lv, .int .u64 (u x.high.c), .int .i64 x.high.ig]) (.agg #[.int .i64 y.par, .int .i64 y.st, .int .i64 y.cur.lv, .int .u64 (u y.cur.c), .int .i64 y.cur.ig, .int .i64 y.high.lv, .int .u64 (u y.high.c), .int .i64 y.high.ig])).run Tryd.prog W = .ok (.bool true) W := fun W => by rw [neq_sub, hq]; rfl
        clear hq
        have p0_0 : wr.cell? ⟨b, off + k * 8, none⟩ = some (.int .i64 x.par) := B0.out.at_ (i := 0) (v := .int .i64 x.par) rfl
        have p0_1 : wr.cell? ⟨b, off + k * 8 + 1, none⟩ = some (.int .i64 x.st) := B0.out.at_ (i := 1) (v := .int .i64 x.st) rfl
        have p0_2 : wr.cell? ⟨b, off + k * 8 + 2, none⟩ = some (.int .i64 x.cur.lv) := B0.out.at_ (i := 2) (v := .int .i64 x.cur.lv) rfl
        have p0_3 : wr.cell? ⟨b, off + k * 8 + 3, none⟩ = some (.int .u64 (u x.cur.c)) := B0.out.at_ (i := 3) (v := .int .u64 (u x.cur.c)) rfl
        have p0_4 : wr.cell? ⟨b, off + k * 8 + 4, none⟩ = some (.int .i64 x.cur.ig) := B0.out.at_ (i := 4) (v := .int .i64 x.cur.ig) rfl
        have p0_5 : wr.cell? ⟨b, off + k * 8 + 5, none⟩ = some (.int .i64 x.high.lv) := B0.out.at_ (i := 5) (v := .int .i64 x.high.lv) rfl
        have p0_6 : wr.cell? ⟨b, off + k * 8 + 6, none⟩ = some (.int .u64 (u x.high.c)) := B0.out.at_ (i := 6) (v := .int .u64 (u x.high.c)) rfl
        have p0_7 : wr.cell? ⟨b, off + k * 8 + 7, none⟩ = some (.int .i64 x.high.ig) := B0.out.at_ (i := 7) (v := .int .i64 x.high.ig) rfl
        have k0_0 : b < wr.heap.size := by have := B0.out.lt; omega
        have k0_1 : b < wr.heap.size + 1 := by have := B0.out.lt; omega
        go_wp2_with fail
        refine wp_region_gen (S := (fun W' => Els W' (b) (off + k * 8) #[.int .i64 x.par, .int .i64 x.st, .int .i64 x.cur.lv, .int .u64 (u x.cur.c), .int .i64 x.cur.ig, .int .i64 x.high.lv, .int .u64 (u x.high.c), .int .i64 x.high.ig] ∧ Els W' (sb) (soff + k * 8) #[.int .i64 y.par, .int .i64 y.st, .int .i64 y.cur.lv, .int .u64 (u y.cur.c), .int .i64 y.cur.ig, .int .i64 y.high.lv, .int .u64 (u y.high.c), .int .i64 y.high.ig] ∧ Blk W' (wr.heap.size) 41 #[.int .i64 x.par, .int .i64 x.st, .int .i64 x.cur.lv, .int .u64 (u x.cur.c), .int .i64 x.cur.ig, .int .i64 x.high.lv, .int .u64 (u x.high.c), .int .i64 x.high.ig] ∧ Below w0.heap.size w0 W')) (by kernel_rfl) ⟨(by repeat (first | exact B0.out | refine Els.drew ?_ | refine Els.alloc ?_ _)), (by repeat (first | exact B1.out | refine Els.drew ?_ | refine Els.alloc ?_ _)), (by repeat (first | exact Blk.new' (by simp; done) | exact Blk.new' rfl | refine Blk.drew ?_ | refine Blk.alloc ?_ _)), (by repeat (first | exact HB.out | refine below_alloc ?_ _ | refine Below.drew ?_ | refine below_set ?_ (by omega) _))⟩ (fun w1 hS => ?_)
        clear p0_0 p0_1 p0_2 p0_3 p0_4 p0_5 p0_6 p0_7 k0_0 k0_1
        refine wpAnyH_take (i := 0) (v := ?_) (op_at rfl) (by kernel_rfl) (by kernel_rfl) (by kernel_rfl) (fun _ _ _ h => h) (Or.inl ⟨by rfl, ?_⟩) hS ?_; rotate_left; focus ((intro w' hSw; obtain ⟨-, -, q, -⟩ := hSw; have c0 := q.at_ (i := 0) (v := .int .i64 x.par) rfl; have c1 := q.at_ (i := 1) (v := .int .i64 x.st) rfl; have c2 := q.at_ (i := 2) (v := .int .i64 x.cur.lv) rfl; have c3 := q.at_ (i := 3) (v := .int .u64 (u x.cur.c)) rfl; have c4 := q.at_ (i := 4) (v := .int .i64 x.cur.ig) rfl; have c5 := q.at_ (i := 5) (v := .int .i64 x.high.lv) rfl; have c6 := q.at_ (i := 6) (v := .int .u64 (u x.high.c)) rfl; have c7 := q.at_ (i := 7) (v := .int .i64 x.high.ig) rfl; clear q; go_simp) <;> with_reducible rfl)
        try simp only [Act.put, List.setIfInBounds_toArray, List.set_cons_zero, List.set_cons_succ]
        refine wpAnyH_take (i := 1) (v := ?_) (op_at rfl) (by kernel_rfl) (by kernel_rfl) (by kernel_rfl) (fun _ _ _ h => h) (Or.inl ⟨by rfl, ?_⟩) hS ?_; rotate_left; focus ((intro w' hSw; clear hSw; go_simp) <;> with_reducible rfl)
        try simp only [Act.put, List.setIfInBounds_toArray, List.set_cons_zero, List.set_cons_succ]
        refine wpAnyH_take (i := 2) (v := ?_) (op_at rfl) (by kernel_rfl) (by kernel_rfl) (by kernel_rfl) (fun _ _ _ h => h) (Or.inl ⟨by rfl, ?_⟩) hS ?_; rotate_left; focus ((intro w' hSw; clear hSw; go_simp) <;> with_reducible rfl)
        try simp only [Act.put, List.setIfInBounds_toArray, List.set_cons_zero, List.set_cons_succ]
        refine wpAnyH_take (i := 3) (v := ?_) (op_at rfl) (by kernel_rfl) (by kernel_rfl) (by kernel_rfl) (fun _ _ _ h => h) (Or.inl ⟨by rfl, ?_⟩) hS ?_; rotate_left; focus ((intro w' hSw; clear hSw; go_simp) <;> with_reducible rfl)
        try simp only [Act.put, List.setIfInBounds_toArray, List.set_cons_zero, List.set_cons_succ]
        refine wpAnyH_take (i := 4) (v := ?_) (op_at rfl) (by kernel_rfl) (by kernel_rfl) (by kernel_rfl) (fun _ _ _ h => h) (Or.inl ⟨by rfl, ?_⟩) hS ?_; rotate_left; focus ((intro w' hSw; obtain ⟨-, q, -⟩ := hSw; have c0 : w'.cell? ⟨sb, soff + k * 8, none⟩ = some (.int .i64 y.par) := q.at_ (i := 0) (v := .int .i64 y.par) rfl; have c1 : w'.cell? ⟨sb, soff + k * 8 + 1, none⟩ = some (.int .i64 y.st) := q.at_ (i := 1) (v := .int .i64 y.st) rfl; have c2 : w'.cell? ⟨sb, soff + k * 8 + 2, none⟩ = some (.int .i64 y.cur.lv) := q.at_ (i := 2) (v := .int .i64 y.cur.lv) rfl; have c3 : w'.cell? ⟨sb, soff + k * 8 + 3, none⟩ = some (.int .u64 (u y.cur.c)) := q.at_ (i := 3) (v := .int .u64 (u y.cur.c)) rfl; have c4 : w'.cell? ⟨sb, soff + k * 8 + 4, none⟩ = some (.int .i64 y.cur.ig) := q.at_ (i := 4) (v := .int .i64 y.cur.ig) rfl; have c5 : w'.cell? ⟨sb, soff + k * 8 + 5, none⟩ = some (.int .i64 y.high.lv) := q.at_ (i := 5) (v := .int .i64 y.high.lv) rfl; have c6 : w'.cell? ⟨sb, soff + k * 8 + 6, none⟩ = some (.int .u64 (u y.high.c)) := q.at_ (i := 6) (v := .int .u64 (u y.high.c)) rfl; have c7 : w'.cell? ⟨sb, soff + k * 8 + 7, none⟩ = some (.int .i64 y.high.ig) := q.at_ (i := 7) (v := .int .i64 y.high.ig) rfl; clear q; go_simp) <;> with_reducible rfl)
        try simp only [Act.put, List.setIfInBounds_toArray, List.set_cons_zero, List.set_cons_succ]
        refine wpAnyH_take (i := 5) (v := ?_) (op_at rfl) (by kernel_rfl) (by kernel_rfl) (by kernel_rfl) (fun _ _ _ h => h) (Or.inl ⟨by rfl, ?_⟩) hS ?_; rotate_left; focus ((intro w' hSw; clear hSw; go_simp) <;> with_reducible rfl)
        try simp only [Act.put, List.setIfInBounds_toArray, List.set_cons_zero, List.set_cons_succ]
        refine wpAnyH_done (by kernel_rfl) ?_ _
        obtain ⟨b0, b1, b2, hb⟩ := hS
        replace B0 := Lib.hid b0
        clear b0
        replace B1 := Lib.hid b1
        clear b1
        replace B2 := Lib.hid b2
        clear b2
        replace HB := Lib.hid hb
        clear hb
        go_wp2_with fail
        go_ret
        exact ⟨by cases r; rfl; exact absurd (Option.some.inj (HX.out.symm.trans ((congrArg (fun t => t[k]?) (HR.out.1 rfl)).trans HY.out))) HQ.out, HB.out⟩
      · have HQ : Hid (x = y) := Lib.hid (eqS_iff.1 hq)
        have hE : ∀ W, (binOp .neq 41 (.agg #[.int .i64 x.par, .int .i64 x.st, .int .i64 x.cur.lv, .int .u64 (u x.cur.c), .int .i64 x.cur.ig, .int .i64 x.high.lv, .int .u64 (u x.high.c), .int .i64 x.high.ig]) (.agg #[.int .i64 y.par, .int .i64 y.st, .int .i64 y.cur.lv, .int .u64 (u y.cur.c), .int .i64 y.cur.ig, .int .i64 y.high.lv, .int .u64 (u y.high.c), .int .i64 y.high.ig])).run Tryd.prog W = .ok (.bool false) W := fun W => by rw [neq_sub, hq]; rfl
        clear hq
        have p0_0 : wr.cell? ⟨b, off + k * 8, none⟩ = some (.int .i64 x.par) := B0.out.at_ (i := 0) (v := .int .i64 x.par) rfl
        have p0_1 : wr.cell? ⟨b, off + k * 8 + 1, none⟩ = some (.int .i64 x.st) := B0.out.at_ (i := 1) (v := .int .i64 x.st) rfl
        have p0_2 : wr.cell? ⟨b, off + k * 8 + 2, none⟩ = some (.int .i64 x.cur.lv) := B0.out.at_ (i := 2) (v := .int .i64 x.cur.lv) rfl
        have p0_3 : wr.cell? ⟨b, off + k * 8 + 3, none⟩ = some (.int .u64 (u x.cur.c)) := B0.out.at_ (i := 3) (v := .int .u64 (u x.cur.c)) rfl
        have p0_4 : wr.cell? ⟨b, off + k * 8 + 4, none⟩ = some (.int .i64 x.cur.ig) := B0.out.at_ (i := 4) (v := .int .i64 x.cur.ig) rfl
        have p0_5 : wr.cell? ⟨b, off + k * 8 + 5, none⟩ = some (.int .i64 x.high.lv) := B0.out.at_ (i := 5) (v := .int .i64 x.high.lv) rfl
        have p0_6 : wr.cell? ⟨b, off + k * 8 + 6, none⟩ = some (.int .u64 (u x.high.c)) := B0.out.at_ (i := 6) (v := .int .u64 (u x.high.c)) rfl
        have p0_7 : wr.cell? ⟨b, off + k * 8 + 7, none⟩ = some (.int .i64 x.high.ig) := B0.out.at_ (i := 7) (v := .int .i64 x.high.ig) rfl
        have k0_0 : b < wr.heap.size := by have := B0.out.lt; omega
        have k0_1 : b < wr.heap.size + 1 := by have := B0.out.lt; omega
        go_wp2_with fail
        refine wp_region_gen (S := (fun W' => Els W' (b) (off + k * 8) #[.int .i64 x.par, .int .i64 x.st, .int .i64 x.cur.lv, .int .u64 (u x.cur.c), .int .i64 x.cur.ig, .int .i64 x.high.lv, .int .u64 (u x.high.c), .int .i64 x.high.ig] ∧ Els W' (sb) (soff + k * 8) #[.int .i64 y.par, .int .i64 y.st, .int .i64 y.cur.lv, .int .u64 (u y.cur.c), .int .i64 y.cur.ig, .int .i64 y.high.lv, .int .u64 (u y.high.c), .int .i64 y.high.ig] ∧ Blk W' (wr.heap.size) 41 #[.int .i64 x.par, .int .i64 x.st, .int .i64 x.cur.lv, .int .u64 (u x.cur.c), .int .i64 x.cur.ig, .int .i64 x.high.lv, .int .u64 (u x.high.c), .int .i64 x.high.ig] ∧ Below w0.heap.size w0 W')) (by kernel_rfl) ⟨(by repeat (first | exact B0.out | refine Els.drew ?_ | refine Els.alloc ?_ _)), (by repeat (first | exact B1.out | refine Els.drew ?_ | refine Els.alloc ?_ _)), (by repeat (first | exact Blk.new' (by simp; done) | exact Blk.new' rfl | refine Blk.drew ?_ | refine Blk.alloc ?_ _)), (by repeat (first | exact HB.out | refine below_alloc ?_ _ | refine Below.drew ?_ | refine below_set ?_ (by omega) _))⟩ (fun w1 hS => ?_)
        clear p0_0 p0_1 p0_2 p0_3 p0_4 p0_5 p0_6 p0_7 k0_0 k0_1
        refine wpAnyH_take (i := 0) (v := ?_) (op_at rfl) (by kernel_rfl) (by kernel_rfl) (by kernel_rfl) (fun _ _ _ h => h) (Or.inl ⟨by rfl, ?_⟩) hS ?_; rotate_left; focus ((intro w' hSw; obtain ⟨-, -, q, -⟩ := hSw; have c0 := q.at_ (i := 0) (v := .int .i64 x.par) rfl; have c1 := q.at_ (i := 1) (v := .int .i64 x.st) rfl; have c2 := q.at_ (i := 2) (v := .int .i64 x.cur.lv) rfl; have c3 := q.at_ (i := 3) (v := .int .u64 (u x.cur.c)) rfl; have c4 := q.at_ (i := 4) (v := .int .i64 x.cur.ig) rfl; have c5 := q.at_ (i := 5) (v := .int .i64 x.high.lv) rfl; have c6 := q.at_ (i := 6) (v := .int .u64 (u x.high.c)) rfl; have c7 := q.at_ (i := 7) (v := .int .i64 x.high.ig) rfl; clear q; go_simp) <;> with_reducible rfl)
        try simp only [Act.put, List.setIfInBounds_toArray, List.set_cons_zero, List.set_cons_succ]
        refine wpAnyH_take (i := 1) (v := ?_) (op_at rfl) (by kernel_rfl) (by kernel_rfl) (by kernel_rfl) (fun _ _ _ h => h) (Or.inl ⟨by rfl, ?_⟩) hS ?_; rotate_left; focus ((intro w' hSw; clear hSw; go_simp) <;> with_reducible rfl)
        try simp only [Act.put, List.setIfInBounds_toArray, List.set_cons_zero, List.set_cons_succ]
        refine wpAnyH_take (i := 2) (v := ?_) (op_at rfl) (by kernel_rfl) (by kernel_rfl) (by kernel_rfl) (fun _ _ _ h => h) (Or.inl ⟨by rfl, ?_⟩) hS ?_; rotate_left; focus ((intro w' hSw; clear hSw; go_simp) <;> with_reducible rfl)
        try simp only [Act.put, List.setIfInBounds_toArray, List.set_cons_zero, List.set_cons_succ]
        refine wpAnyH_take (i := 3) (v := ?_) (op_at rfl) (by kernel_rfl) (by kernel_rfl) (by kernel_rfl) (fun _ _ _ h => h) (Or.inl ⟨by rfl, ?_⟩) hS ?_; rotate_left; focus ((intro w' hSw; clear hSw; go_simp) <;> with_reducible rfl)
        try simp only [Act.put, List.setIfInBounds_toArray, List.set_cons_zero, List.set_cons_succ]
        refine wpAnyH_take (i := 4) (v := ?_) (op_at rfl) (by kernel_rfl) (by kernel_rfl) (by kernel_rfl) (fun _ _ _ h => h) (Or.inl ⟨by rfl, ?_⟩) hS ?_; rotate_left; focus ((intro w' hSw; obtain ⟨-, q, -⟩ := hSw; have c0 : w'.cell? ⟨sb, soff + k * 8, none⟩ = some (.int .i64 y.par) := q.at_ (i := 0) (v := .int .i64 y.par) rfl; have c1 : w'.cell? ⟨sb, soff + k * 8 + 1, none⟩ = some (.int .i64 y.st) := q.at_ (i := 1) (v := .int .i64 y.st) rfl; have c2 : w'.cell? ⟨sb, soff + k * 8 + 2, none⟩ = some (.int .i64 y.cur.lv) := q.at_ (i := 2) (v := .int .i64 y.cur.lv) rfl; have c3 : w'.cell? ⟨sb, soff + k * 8 + 3, none⟩ = some (.int .u64 (u y.cur.c)) := q.at_ (i := 3) (v := .int .u64 (u y.cur.c)) rfl; have c4 : w'.cell? ⟨sb, soff + k * 8 + 4, none⟩ = some (.int .i64 y.cur.ig) := q.at_ (i := 4) (v := .int .i64 y.cur.ig) rfl; have c5 : w'.cell? ⟨sb, soff + k * 8 + 5, none⟩ = some (.int .i64 y.high.lv) := q.at_ (i := 5) (v := .int .i64 y.high.lv) rfl; have c6 : w'.cell? ⟨sb, soff + k * 8 + 6, none⟩ = some (.int .u64 (u y.high.c)) := q.at_ (i := 6) (v := .int .u64 (u y.high.c)) rfl; have c7 : w'.cell? ⟨sb, soff + k * 8 + 7, none⟩ = some (.int .i64 y.high.ig) := q.at_ (i := 7) (v := .int .i64 y.high.ig) rfl; clear q; go_simp) <;> with_reducible rfl)
        try simp only [Act.put, List.setIfInBounds_toArray, List.set_cons_zero, List.set_cons_succ]
        refine wpAnyH_take (i := 5) (v := ?_) (op_at rfl) (by kernel_rfl) (by kernel_rfl) (by kernel_rfl) (fun _ _ _ h => h) (Or.inl ⟨by rfl, ?_⟩) hS ?_; rotate_left; focus ((intro w' hSw; clear hSw; go_simp) <;> with_reducible rfl)
        try simp only [Act.put, List.setIfInBounds_toArray, List.set_cons_zero, List.set_cons_succ]
        refine wpAnyH_done (by kernel_rfl) ?_ _
        obtain ⟨b0, b1, b2, hb⟩ := hS
        replace B0 := Lib.hid b0
        clear b0
        replace B1 := Lib.hid b1
        clear b1
        replace B2 := Lib.hid b2
        clear b2
        replace HB := Lib.hid hb
        clear hb
        go_wp2_with fail
        go_roundw
        case rel => exact ⟨k + 1, by go_num, by omega, fun j hj => by
          by_cases e : j = k
          · subst e; rw [HX.out, HY.out, HQ.out]
          · exact HA.out j (by omega), HB.out⟩
        case measure => simp [intOf]; omega
    · have hke : k = l.length := by omega
      subst hke
      have hrt : r = true := HR.out.2 (List.ext_getElem? fun j => by
        by_cases h : j < l.length
        · exact HA.out j h
        · rw [List.getElem?_eq_none (by omega), List.getElem?_eq_none (by omega)])
      subst hrt
      go_wp2_with fail
      go_ret
      exact ⟨rfl, HB.out⟩
end

section
open Go.RowKit

attribute [local go_sem] u_and u_or u_andNot u_add u_sub u_bit u_eq_zero u_beq

theorem floatIsS {o x h nx : Lab} {n : Int} (hn : floatL o x h = nx) (he : floatE o x h = n) (sa : Addr) (W : World) (hh : Env sa W) :
    Calls Tryd.prog 41 #[.agg #[.int .i64 o.lv, .int .u64 (u o.c), .int .i64 o.ig], .agg #[.int .i64 x.lv, .int .u64 (u x.c), .int .i64 x.ig], .agg #[.int .i64 h.lv, .int .u64 (u h.c), .int .i64 h.ig]] W fun e w' => e = .returned (.tuple #[.agg #[.int .i64 nx.lv, .int .u64 (u nx.c), .int .i64 nx.ig], .int .i64 n]) ∧ Below W.heap.size W w' := by
  subst hn he; exact Float_any o x h sa W hh
theorem rows_cur {l : List Sub} {k : Nat} {x : Sub} {cs : Array Value} {r : List Value} {z : Lab} (hc : cs.toList = (l.flatMap fun x => (encS x).toList) ++ r) (hx : l[k]? = some x) :
    (((cs.setIfInBounds (k * 8 + 2) (.int .i64 z.lv)).setIfInBounds (k * 8 + 3) (.int .u64 (u z.c))).setIfInBounds (k * 8 + 4) (.int .i64 z.ig)).toList = ((l.set k { x with cur := z }).flatMap fun x => (encS x).toList) ++ r := by
  have hk : k < l.length := (List.getElem?_eq_some_iff.1 hx).1
  have g : ∀ z : Sub, (l.set k z)[k]? = some z := fun z => by rw [List.getElem?_set_self hk]
  have ss : ∀ z z' : Sub, (l.set k z).set k z' = l.set k z' := fun z z' => List.set_set ..
  have h2 := rows_set (j := 2) (x' := { x with cur := ⟨z.lv, x.cur.c, x.cur.ig⟩ }) (v := .int .i64 z.lv) hc hx (by decide) rfl
  have h3 := rows_set (j := 3) (x' := { x with cur := ⟨z.lv, z.c, x.cur.ig⟩ }) (v := .int .u64 (u z.c)) h2 (g _) (by decide) rfl
  rw [ss] at h3
  have h4 := rows_set (j := 4) (x' := { x with cur := z }) (v := .int .i64 z.ig) h3 (g _) (by decide) rfl
  rw [ss] at h4
  exact h4
theorem rows_st_cur {l : List Sub} {k : Nat} {x : Sub} {cs : Array Value} {r : List Value} {z : Lab} (hc : cs.toList = (l.flatMap fun x => (encS x).toList) ++ r) (hx : l[k]? = some x) :
    ((((cs.setIfInBounds (k * 8 + 1) (.int .i64 1)).setIfInBounds (k * 8 + 2) (.int .i64 z.lv)).setIfInBounds (k * 8 + 3) (.int .u64 (u z.c))).setIfInBounds (k * 8 + 4) (.int .i64 z.ig)).toList = ((l.set k { x with st := 1, cur := z }).flatMap fun x => (encS x).toList) ++ r := by
  have hk : k < l.length := (List.getElem?_eq_some_iff.1 hx).1
  have h1 := rows_set (j := 1) (x' := { x with st := 1 }) (v := .int .i64 1) hc hx (by decide) rfl
  have h2 := rows_cur (z := z) h1 (by rw [List.getElem?_set_self hk])
  rw [List.set_set] at h2
  exact h2
theorem rows_cur_st {l : List Sub} {k : Nat} {x : Sub} {cs : Array Value} {r : List Value} {z : Lab} (hc : cs.toList = (l.flatMap fun x => (encS x).toList) ++ r) (hx : l[k]? = some x) :
    ((((cs.setIfInBounds (k * 8 + 2) (.int .i64 z.lv)).setIfInBounds (k * 8 + 3) (.int .u64 (u z.c))).setIfInBounds (k * 8 + 4) (.int .i64 z.ig)).setIfInBounds (k * 8 + 1) (.int .i64 1)).toList = ((l.set k { x with st := 1, cur := z }).flatMap fun x => (encS x).toList) ++ r := by
  have hk : k < l.length := (List.getElem?_eq_some_iff.1 hx).1
  have h1 := rows_cur (z := z) hc hx
  have h2 := rows_set (j := 1) (x := { x with cur := z }) (x' := { x with st := 1, cur := z }) (v := .int .i64 1) h1 (by rw [List.getElem?_set_self hk]) (by decide) rfl
  rw [List.set_set] at h2
  exact h2
set_option maxRecDepth 100000 in
set_option maxHeartbeats 4000000 in
theorem float_do_ok (pb wb ab eb g m cap k : Nat) (who : Int) (x : Sub) (nx a : Lab) (sa : Addr) (cs : Array Value) (w0 w : World) (hh : Env sa w0) (hbw : Below w0.heap.size w0 w) (hp : Blk w pb 54 #[.pointer (some ⟨eb, 0, none⟩)]) (hw : Blk w wb 3 #[.int .i64 k]) (ha : Blk w ab 25 #[.int .i64 a.lv, .int .u64 (u a.c), .int .i64 a.ig]) (he : Blk w eb 63 #[.slice (some ⟨g, 0, none⟩) m cap, .int .i64 who, .nilIface]) (hg : Blk w g 41 cs)
    (hk : k < m) (ho0 : cs[k * 8]? = some (.int .i64 x.par)) (ho1 : cs[k * 8 + 1]? = some (.int .i64 x.st)) (ho2 : cs[k * 8 + 2]? = some (.int .i64 x.cur.lv)) (ho3 : cs[k * 8 + 3]? = some (.int .u64 (u x.cur.c))) (ho4 : cs[k * 8 + 4]? = some (.int .i64 x.cur.ig)) (ho5 : cs[k * 8 + 5]? = some (.int .i64 x.high.lv)) (ho6 : cs[k * 8 + 6]? = some (.int .u64 (u x.high.c))) (ho7 : cs[k * 8 + 7]? = some (.int .i64 x.high.ig)) (hn : floatL x.cur a x.high = nx) (hex : floatE x.cur a x.high = 0) (n1 : w0.heap.size ≤ eb) (n2 : w0.heap.size ≤ g) (n3 : pb ≠ g) (n4 : wb ≠ g) (n5 : ab ≠ g) (n6 : eb ≠ g) (n7 : pb ≠ eb) (n8 : wb ≠ eb) (n9 : ab ≠ eb) :
    Calls Tryd.prog 40 #[.pointer (some ⟨pb, 0, none⟩), .pointer (some ⟨wb, 0, none⟩), .pointer (some ⟨ab, 0, none⟩)] w fun e w' => e = .returned (.tuple #[]) ∧ Blk w' eb 63 #[.slice (some ⟨g, 0, none⟩) m cap, .int .i64 who, .nilIface] ∧ Blk w' g 41 (((cs.setIfInBounds (k * 8 + 2) (.int .i64 nx.lv)).setIfInBounds (k * 8 + 3) (.int .u64 (u nx.c))).setIfInBounds (k * 8 + 4) (.int .i64 nx.ig)) ∧ Below w0.heap.size w0 w' := by
  have HH := Lib.hid hh
  have HB := Lib.hid hbw
  have B0 := Lib.hid hp
  have B1 := Lib.hid hw
  have B2 := Lib.hid ha
  have B3 := Lib.hid he
  have B4 := Lib.hid hg
  have HNX := Lib.hid hn
  have HEX := Lib.hid hex
  have HO0 := Lib.hid ho0
  have HO1 := Lib.hid ho1
  have HO2 := Lib.hid ho2
  have HO3 := Lib.hid ho3
  have HO4 := Lib.hid ho4
  have HO5 := Lib.hid ho5
  have HO6 := Lib.hid ho6
  have HO7 := Lib.hid ho7
  have hkz : (0 : Int) ≤ (k : Int) := by omega
  have hkz2 : (k : Int) < (m : Int) := by omega
  have l1 : pb < w.heap.size := hp.lt
  have l2 : wb < w.heap.size := hw.lt
  have l3 : ab < w.heap.size := ha.lt
  have l4 : eb < w.heap.size := he.lt
  have l5 : g < w.heap.size := hg.lt
  clear hh hbw hp hw ha he hg hn hex ho0 ho1 ho2 ho3 ho4 ho5 ho6 ho7
  go_enter Tryd.func40, Tryd.ntmps40
  go_upto_region 0 with fail
  go_cut [3, 4] (fun s3 s4 wx => ∃ g3 : Nat, s3 = .pointer (some ⟨g3, 0, none⟩) ∧ s4 = .int .i64 0 ∧ Blk wx (g3) 25 #[.int .i64 nx.lv, .int .u64 (u nx.c), .int .i64 nx.ig] ∧ Blk wx (pb) 54 #[.pointer (some ⟨eb, 0, none⟩)] ∧ Blk wx (wb) 3 #[.int .i64 k] ∧ Blk wx (ab) 25 #[.int .i64 a.lv, .int .u64 (u a.c), .int .i64 a.ig] ∧ Blk wx (eb) 63 #[.slice (some ⟨g, 0, none⟩) m cap, .int .i64 who, .nilIface] ∧ Blk wx (g) 41 cs ∧ Below w0.heap.size w0 wx ∧ pb ≠ g3 ∧ wb ≠ g3 ∧ ab ≠ g3 ∧ eb ≠ g3 ∧ g ≠ g3 ∧ w0.heap.size ≤ g3)
  case first =>
    refine wp_region_gen (S := (fun W' => Blk W' (pb) 54 #[.pointer (some ⟨eb, 0, none⟩)] ∧ Blk W' (wb) 3 #[.int .i64 k] ∧ Blk W' (ab) 25 #[.int .i64 a.lv, .int .u64 (u a.c), .int .i64 a.ig] ∧ Blk W' (eb) 63 #[.slice (some ⟨g, 0, none⟩) m cap, .int .i64 who, .nilIface] ∧ Blk W' (g) 41 cs ∧ Below w0.heap.size w0 W')) (by kernel_rfl) ⟨(by repeat (first | exact B0.out | exact Blk.new' (by simp; done) | exact Blk.new' rfl | refine Blk.drew ?_ | refine Blk.alloc ?_ _)), (by repeat (first | exact B1.out | exact Blk.new' (by simp; done) | exact Blk.new' rfl | refine Blk.drew ?_ | refine Blk.alloc ?_ _)), (by repeat (first | exact B2.out | exact Blk.new' (by simp; done) | exact Blk.new' rfl | refine Blk.drew ?_ | refine Blk.alloc ?_ _)), (by repeat (first | exact B3.out | exact Blk.new' (by simp; done) | exact Blk.new' rfl | refine Blk.drew ?_ | refine Blk.alloc ?_ _)), (by repeat (first | exact B4.out | exact Blk.new' (by simp; done) | exact Blk.new' rfl | refine Blk.drew ?_ | refine Blk.alloc ?_ _)), (by repeat (first | exact HB.out | refine below_alloc ?_ _ | refine Below.drew ?_ | refine below_set ?_ (by omega) _))⟩ (fun w1 hS => ?_)
    refine wpAnyH_take (i := 0) (v := ?_) (op_at rfl) (by kernel_rfl) (by kernel_rfl) (by kernel_rfl) (fun _ _ _ h => h) (Or.inl ⟨by rfl, ?_⟩) hS ?_; rotate_left; focus ((intro w' hSw; obtain ⟨q, -⟩ := hSw; have c0 := q.at_ (i := 0) (v := .pointer (some ⟨eb, 0, none⟩)) rfl; clear q; go_simp) <;> with_reducible rfl)
    try simp only [Act.put, List.setIfInBounds_toArray, List.set_cons_zero, List.set_cons_succ]
    refine wpAnyH_take (i := 1) (v := ?_) (op_at rfl) (by kernel_rfl) (by kernel_rfl) (by kernel_rfl) (fun _ _ _ h => h) (Or.inl ⟨by rfl, ?_⟩) hS ?_; rotate_left; focus ((intro w' hSw; clear hSw; go_simp) <;> with_reducible rfl)
    try simp only [Act.put, List.setIfInBounds_toArray, List.set_cons_zero, List.set_cons_succ]
    refine wpAnyH_take (i := 2) (v := ?_) (op_at rfl) (by kernel_rfl) (by kernel_rfl) (by kernel_rfl) (fun _ _ _ h => h) (Or.inl ⟨by rfl, ?_⟩) hS ?_; rotate_left; focus ((intro w' hSw; clear hSw; go_simp) <;> with_reducible rfl)
    try simp only [Act.put, List.setIfInBounds_toArray, List.set_cons_zero, List.set_cons_succ]
    refine wpAnyH_take (i := 3) (v := ?_) (op_at rfl) (by kernel_rfl) (by kernel_rfl) (by kernel_rfl) (fun _ _ _ h => h) (Or.inl ⟨by rfl, ?_⟩) hS ?_; rotate_left; focus ((intro w' hSw; clear hSw; go_simp) <;> with_reducible rfl)
    try simp only [Act.put, List.setIfInBounds_toArray, List.set_cons_zero, List.set_cons_succ]
    refine wpAnyH_take (i := 4) (v := ?_) (op_at rfl) (by kernel_rfl) (by kernel_rfl) (by kernel_rfl) (fun _ _ _ h => h) (Or.inl ⟨by rfl, ?_⟩) hS ?_; rotate_left; focus ((intro w' hSw; obtain ⟨-, -, -, q, -⟩ := hSw; have c0 := q.at_ (i := 0) (v := .slice (some ⟨g, 0, none⟩) m cap) rfl; clear q; go_simp) <;> with_reducible rfl)
    try simp only [Act.put, List.setIfInBounds_toArray, List.set_cons_zero, List.set_cons_succ]
    refine wpAnyH_take (i := 5) (v := ?_) (op_at rfl) (by kernel_rfl) (by kernel_rfl) (by kernel_rfl) (fun _ _ _ h => h) (Or.inl ⟨by rfl, ?_⟩) hS ?_; rotate_left; focus ((intro w' hSw; obtain ⟨-, q, -⟩ := hSw; have c0 := q.at_ (i := 0) (v := .int .i64 k) rfl; clear q; go_simp) <;> with_reducible rfl)
    try simp only [Act.put, List.setIfInBounds_toArray, List.set_cons_zero, List.set_cons_succ]
    refine wpAnyH_take (i := 6) (v := ?_) (op_at rfl) (by kernel_rfl) (by kernel_rfl) (by kernel_rfl) (fun _ _ _ h => h) (Or.inl ⟨by rfl, ?_⟩) hS ?_; rotate_left; focus ((intro w' hSw; clear hSw; go_simp) <;> with_reducible rfl)
    try simp only [Act.put, List.setIfInBounds_toArray, List.set_cons_zero, List.set_cons_succ]
    refine wpAnyH_take (i := 7) (v := ?_) (op_at rfl) (by kernel_rfl) (by kernel_rfl) (by kernel_rfl) (fun _ _ _ h => h) (Or.inl ⟨by rfl, ?_⟩) hS ?_; rotate_left; focus ((intro w' hSw; clear hSw; go_simp) <;> with_reducible rfl)
    try simp only [Act.put, List.setIfInBounds_toArray, List.set_cons_zero, List.set_cons_succ]
    refine wpAnyH_take (i := 8) (v := ?_) (op_at rfl) (by kernel_rfl) (by kernel_rfl) (by kernel_rfl) (fun _ _ _ h => h) (Or.inl ⟨by rfl, ?_⟩) hS ?_; rotate_left; focus ((intro w' hSw; obtain ⟨-, -, -, -, q, -⟩ := hSw; have c2 : w'.cell? ⟨g, k * 8 + 2, none⟩ = some (.int .i64 x.cur.lv) := q.at_ HO2.out; have c3 : w'.cell? ⟨g, k * 8 + 3, none⟩ = some (.int .u64 (u x.cur.c)) := q.at_ HO3.out; have c4 : w'.cell? ⟨g, k * 8 + 4, none⟩ = some (.int .i64 x.cur.ig) := q.at_ HO4.out; clear q; go_simp) <;> with_reducible rfl)
    try simp only [Act.put, List.setIfInBounds_toArray, List.set_cons_zero, List.set_cons_succ]
    refine wpAnyH_take (i := 9) (v := ?_) (op_at rfl) (by kernel_rfl) (by kernel_rfl) (by kernel_rfl) (fun _ _ _ h => h) (Or.inl ⟨by rfl, ?_⟩) hS ?_; rotate_left; focus ((intro w' hSw; obtain ⟨-, -, q, -⟩ := hSw; have c0 := q.at_ (i := 0) (v := .int .i64 a.lv) rfl; have c1 := q.at_ (i := 1) (v := .int .u64 (u a.c)) rfl; have c2 := q.at_ (i := 2) (v := .int .i64 a.ig) rfl; clear q; go_simp) <;> with_reducible rfl)
    try simp only [Act.put, List.setIfInBounds_toArray, List.set_cons_zero, List.set_cons_succ]
    refine wpAnyH_take (i := 10) (v := ?_) (op_at rfl) (by kernel_rfl) (by kernel_rfl) (by kernel_rfl) (fun _ _ _ h => h) (Or.inl ⟨by rfl, ?_⟩) hS ?_; rotate_left; focus ((intro w' hSw; obtain ⟨q, -⟩ := hSw; have c0 := q.at_ (i := 0) (v := .pointer (some ⟨eb, 0, none⟩)) rfl; clear q; go_simp) <;> with_reducible rfl)
    try simp only [Act.put, List.setIfInBounds_toArray, List.set_cons_zero, List.set_cons_succ]
    refine wpAnyH_take (i := 11) (v := ?_) (op_at rfl) (by kernel_rfl) (by kernel_rfl) (by kernel_rfl) (fun _ _ _ h => h) (Or.inl ⟨by rfl, ?_⟩) hS ?_; rotate_left; focus ((intro w' hSw; clear hSw; go_simp) <;> with_reducible rfl)
    try simp only [Act.put, List.setIfInBounds_toArray, List.set_cons_zero, List.set_cons_succ]
    refine wpAnyH_take (i := 12) (v := ?_) (op_at rfl) (by kernel_rfl) (by kernel_rfl) (by kernel_rfl) (fun _ _ _ h => h) (Or.inl ⟨by rfl, ?_⟩) hS ?_; rotate_left; focus ((intro w' hSw; clear hSw; go_simp) <;> with_reducible rfl)
    try simp only [Act.put, List.setIfInBounds_toArray, List.set_cons_zero, List.set_cons_succ]
    refine wpAnyH_take (i := 13) (v := ?_) (op_at rfl) (by kernel_rfl) (by kernel_rfl) (by kernel_rfl) (fun _ _ _ h => h) (Or.inl ⟨by rfl, ?_⟩) hS ?_; rotate_left; focus ((intro w' hSw; clear hSw; go_simp) <;> with_reducible rfl)
    try simp only [Act.put, List.setIfInBounds_toArray, List.set_cons_zero, List.set_cons_succ]
    refine wpAnyH_take (i := 14) (v := ?_) (op_at rfl) (by kernel_rfl) (by kernel_rfl) (by kernel_rfl) (fun _ _ _ h => h) (Or.inl ⟨by rfl, ?_⟩) hS ?_; rotate_left; focus ((intro w' hSw; obtain ⟨-, -, -, q, -⟩ := hSw; have c0 := q.at_ (i := 0) (v := .slice (some ⟨g, 0, none⟩) m cap) rfl; clear q; go_simp) <;> with_reducible rfl)
    try simp only [Act.put, List.setIfInBounds_toArray, List.set_cons_zero, List.set_cons_succ]
    refine wpAnyH_take (i := 15) (v := ?_) (op_at rfl) (by kernel_rfl) (by kernel_rfl) (by kernel_rfl) (fun _ _ _ h => h) (Or.inl ⟨by rfl, ?_⟩) hS ?_; rotate_left; focus ((intro w' hSw; obtain ⟨-, q, -⟩ := hSw; have c0 := q.at_ (i := 0) (v := .int .i64 k) rfl; clear q; go_simp) <;> with_reducible rfl)
    try simp only [Act.put, List.setIfInBounds_toArray, List.set_cons_zero, List.set_cons_succ]
    refine wpAnyH_take (i := 16) (v := ?_) (op_at rfl) (by kernel_rfl) (by kernel_rfl) (by kernel_rfl) (fun _ _ _ h => h) (Or.inl ⟨by rfl, ?_⟩) hS ?_; rotate_left; focus ((intro w' hSw; clear hSw; go_simp) <;> with_reducible rfl)
    try simp only [Act.put, List.setIfInBounds_toArray, List.set_cons_zero, List.set_cons_succ]
    refine wpAnyH_take (i := 17) (v := ?_) (op_at rfl) (by kernel_rfl) (by kernel_rfl) (by kernel_rfl) (fun _ _ _ h => h) (Or.inl ⟨by rfl, ?_⟩) hS ?_; rotate_left; focus ((intro w' hSw; clear hSw; go_simp) <;> with_reducible rfl)
    try simp only [Act.put, List.setIfInBounds_toArray, List.set_cons_zero, List.set_cons_succ]
    refine wpAnyH_take (i := 18) (v := ?_) (op_at rfl) (by kernel_rfl) (by kernel_rfl) (by kernel_rfl) (fun _ _ _ h => h) (Or.inl ⟨by rfl, ?_⟩) hS ?_; rotate_left; focus ((intro w' hSw; obtain ⟨-, -, -, -, q, -⟩ := hSw; have c5 : w'.cell? ⟨g, k * 8 + 5, none⟩ = some (.int .i64 x.high.lv) := q.at_ HO5.out; have c6 : w'.cell? ⟨g, k * 8 + 6, none⟩ = some (.int .u64 (u x.high.c)) := q.at_ HO6.out; have c7 : w'.cell? ⟨g, k * 8 + 7, none⟩ = some (.int .i64 x.high.ig) := q.at_ HO7.out; clear q; go_simp) <;> with_reducible rfl)
    try simp only [Act.put, List.setIfInBounds_toArray, List.set_cons_zero, List.set_cons_succ]
    refine wpAnyH_ready (rs := [19, 23]) (by kernel_rfl) (by simp) ?_
    refine (AllReadyH.cons (op_at rfl) (fun K hK => ?_) (AllReadyH.cons (op_at rfl) (fun K hK => ?_) AllReadyH.nil))
    ·
      go_simp
      obtain ⟨b0, b1, b2, b3, b4, hb⟩ := hS
      refine (floatIsS HNX.out HEX.out sa _ (HH.out.up (hb))).mono ?_
      rintro e w2 ⟨rfl, hB⟩
      refine hK.out _ _ ⟨b0.after hB, b1.after hB, b2.after hB, b3.after hB, b4.after hB, below_call hb hB⟩ (fun hS => ?_)
      clear hK K hB b0 b1 b2 b3 b4 hb
      try simp only [Act.put, List.setIfInBounds_toArray, List.set_cons_zero, List.set_cons_succ]
      refine wpAnyH_take (i := 20) (v := ?_) (op_at rfl) (by kernel_rfl) (by kernel_rfl) (by kernel_rfl) (fun _ _ _ h => h) (Or.inl ⟨by rfl, ?_⟩) hS ?_; rotate_left; focus ((intro w' hSw; clear hSw; go_simp) <;> with_reducible rfl)
      try simp only [Act.put, List.setIfInBounds_toArray, List.set_cons_zero, List.set_cons_succ]
      refine wpAnyH_take (i := 21) (v := ?_) (op_at rfl) (by kernel_rfl) (by kernel_rfl) (by kernel_rfl) (fun _ _ _ h => h) (Or.inl ⟨by rfl, ?_⟩) hS ?_; rotate_left; focus ((intro w' hSw; clear hSw; go_simp) <;> with_reducible rfl)
      try simp only [Act.put, List.setIfInBounds_toArray, List.set_cons_zero, List.set_cons_succ]
      refine wpAnyH_take (i := 22) (v := ?_) (op_at rfl) (by kernel_rfl) (by kernel_rfl) (by kernel_rfl) (fun _ _ _ h => h) (Or.inl ⟨by rfl, ?_⟩) hS ?_; rotate_left; focus ((intro w' hSw; clear hSw; go_simp) <;> with_reducible rfl)
      try simp only [Act.put, List.setIfInBounds_toArray, List.set_cons_zero, List.set_cons_succ]
      refine wpAnyH_ready (rs := [23]) (by kernel_rfl) (by simp) ?_
      refine (AllReadyH.cons (op_at rfl) (fun K hK => ?_) AllReadyH.nil)
      go_simp
      obtain ⟨b0, b1, b2, b3, b4, hb⟩ := hS
      have N0 : Hid (Blk (w2.alloc (.cells #[.int .i64 0, .int .u64 0, .int .i64 0] 25)) w2.heap.size 25 #[.int .i64 0, .int .u64 0, .int .i64 0]) := Lib.hid (Blk.new' rfl)
      have d0_N0 : pb ≠ w2.heap.size := Nat.ne_of_lt b0.lt
      have d1_N0 : wb ≠ w2.heap.size := Nat.ne_of_lt b1.lt
      have d2_N0 : ab ≠ w2.heap.size := Nat.ne_of_lt b2.lt
      have d3_N0 : eb ≠ w2.heap.size := Nat.ne_of_lt b3.lt
      have d4_N0 : g ≠ w2.heap.size := Nat.ne_of_lt b4.lt
      have dd_N0 : w0.heap.size ≤ w2.heap.size := hb.size
      refine hK.out _ _ ⟨b0.alloc _, b1.alloc _, b2.alloc _, b3.alloc _, b4.alloc _, below_alloc hb _⟩ (fun hS => ?_)
      clear hK K b0 b1 b2 b3 b4 hb
      try simp only [Act.put, List.setIfInBounds_toArray, List.set_cons_zero, List.set_cons_succ]
      refine wpAnyH_ready (rs := [24]) (by kernel_rfl) (by simp) ?_
      refine (AllReadyH.cons (op_at rfl) (fun K hK => ?_) AllReadyH.nil)
      go_simp
      obtain ⟨b0, b1, b2, b3, b4, hb⟩ := hS
      refine hK.out _ _ ⟨(Blk.realloc b0 d0_N0), (Blk.realloc b1 d1_N0), (Blk.realloc b2 d2_N0), (Blk.realloc b3 d3_N0), (Blk.realloc b4 d4_N0), (below_realloc hb dd_N0)⟩ (fun hS => ?_)
      replace N0 : Hid (Blk (w2.alloc (.cells #[.int .i64 nx.lv, .int .u64 (u nx.c), .int .i64 nx.ig] 25)) w2.heap.size 25 #[.int .i64 nx.lv, .int .u64 (u nx.c), .int .i64 nx.ig]) := Lib.hid (Blk.new' rfl)
      clear hK K b0 b1 b2 b3 b4 hb
      try simp only [Act.put, List.setIfInBounds_toArray, List.set_cons_zero, List.set_cons_succ]
      refine wpAnyH_take (i := 25) (v := ?_) (op_at rfl) (by kernel_rfl) (by kernel_rfl) (by kernel_rfl) (fun _ _ _ h => h) (Or.inl ⟨by rfl, ?_⟩) hS ?_; rotate_left; focus ((intro w' hSw; clear hSw; go_simp) <;> with_reducible rfl)
      try simp only [Act.put, List.setIfInBounds_toArray, List.set_cons_zero, List.set_cons_succ]
      refine wpAnyH_done (by kernel_rfl) ?_ _
      obtain ⟨b0, b1, b2, b3, b4, hb⟩ := hS
      go_wp2_with fail
      go_meet
      exact ⟨_, rfl, rfl, N0.out, b0, b1, b2, b3, b4, hb, d0_N0, d1_N0, d2_N0, d3_N0, d4_N0, dd_N0⟩
    ·
      go_simp
      obtain ⟨b0, b1, b2, b3, b4, hb⟩ := hS
      have N0 : Hid (Blk (w1.alloc (.cells #[.int .i64 0, .int .u64 0, .int .i64 0] 25)) w1.heap.size 25 #[.int .i64 0, .int .u64 0, .int .i64 0]) := Lib.hid (Blk.new' rfl)
      have d0_N0 : pb ≠ w1.heap.size := Nat.ne_of_lt b0.lt
      have d1_N0 : wb ≠ w1.heap.size := Nat.ne_of_lt b1.lt
      have d2_N0 : ab ≠ w1.heap.size := Nat.ne_of_lt b2.lt
      have d3_N0 : eb ≠ w1.heap.size := Nat.ne_of_lt b3.lt
      have d4_N0 : g ≠ w1.heap.size := Nat.ne_of_lt b4.lt
      have dd_N0 : w0.heap.size ≤ w1.heap.size := hb.size
      refine hK.out _ _ ⟨b0.alloc _, b1.alloc _, b2.alloc _, b3.alloc _, b4.alloc _, below_alloc hb _⟩ (fun hS => ?_)
      clear hK K b0 b1 b2 b3 b4 hb
      try simp only [Act.put, List.setIfInBounds_toArray, List.set_cons_zero, List.set_cons_succ]
      refine wpAnyH_ready (rs := [19]) (by kernel_rfl) (by simp) ?_
      refine (AllReadyH.cons (op_at rfl) (fun K hK => ?_) AllReadyH.nil)
      go_simp
      obtain ⟨b0, b1, b2, b3, b4, hb⟩ := hS
      refine (floatIsS HNX.out HEX.out sa _ (HH.out.up (hb))).mono ?_
      rintro e w3 ⟨rfl, hB⟩
      replace N0 := Lib.hid (N0.out.after hB)
      refine hK.out _ _ ⟨b0.after hB, b1.after hB, b2.after hB, b3.after hB, b4.after hB, below_call hb hB⟩ (fun hS => ?_)
      clear hK K hB b0 b1 b2 b3 b4 hb
      try simp only [Act.put, List.setIfInBounds_toArray, List.set_cons_zero, List.set_cons_succ]
      refine wpAnyH_take (i := 20) (v := ?_) (op_at rfl) (by kernel_rfl) (by kernel_rfl) (by kernel_rfl) (fun _ _ _ h => h) (Or.inl ⟨by rfl, ?_⟩) hS ?_; rotate_left; focus ((intro w' hSw; clear hSw; go_simp) <;> with_reducible rfl)
      try simp only [Act.put, List.setIfInBounds_toArray, List.set_cons_zero, List.set_cons_succ]
      refine wpAnyH_take (i := 21) (v := ?_) (op_at rfl) (by kernel_rfl) (by kernel_rfl) (by kernel_rfl) (fun _ _ _ h => h) (Or.inl ⟨by rfl, ?_⟩) hS ?_; rotate_left; focus ((intro w' hSw; clear hSw; go_simp) <;> with_reducible rfl)
      try simp only [Act.put, List.setIfInBounds_toArray, List.set_cons_zero, List.set_cons_succ]
      refine wpAnyH_take (i := 22) (v := ?_) (op_at rfl) (by kernel_rfl) (by kernel_rfl) (by kernel_rfl) (fun _ _ _ h => h) (Or.inl ⟨by rfl, ?_⟩) hS ?_; rotate_left; focus ((intro w' hSw; clear hSw; go_simp) <;> with_reducible rfl)
      try simp only [Act.put, List.setIfInBounds_toArray, List.set_cons_zero, List.set_cons_succ]
      refine wpAnyH_ready (rs := [24]) (by kernel_rfl) (by simp) ?_
      refine (AllReadyH.cons (op_at rfl) (fun K hK => ?_) AllReadyH.nil)
      have p_0 := N0.out.at_ (i := 0) (v := .int .i64 0) rfl
      have f_0 := N0.out.frozen 0
      have p_1 := N0.out.at_ (i := 1) (v := .int .u64 0) rfl
      have f_1 := N0.out.frozen 1
      have p_2 := N0.out.at_ (i := 2) (v := .int .i64 0) rfl
      have f_2 := N0.out.frozen 2
      go_simp
      clear p_0 f_0 p_1 f_1 p_2 f_2
      obtain ⟨b0, b1, b2, b3, b4, hb⟩ := hS
      refine hK.out _ _ ⟨(Blk.far (Blk.far (Blk.far b0 d0_N0 _) d0_N0 _) d0_N0 _), (Blk.far (Blk.far (Blk.far b1 d1_N0 _) d1_N0 _) d1_N0 _), (Blk.far (Blk.far (Blk.far b2 d2_N0 _) d2_N0 _) d2_N0 _), (Blk.far (Blk.far (Blk.far b3 d3_N0 _) d3_N0 _) d3_N0 _), (Blk.far (Blk.far (Blk.far b4 d4_N0 _) d4_N0 _) d4_N0 _), (below_set (below_set (below_set hb dd_N0 _) dd_N0 _) dd_N0 _)⟩ (fun hS => ?_)
      replace N0 := Lib.hid (Blk.set' (u := .int .i64 nx.ig) (i := 2) (cs' := #[.int .i64 nx.lv, .int .u64 (u nx.c), .int .i64 nx.ig]) (Blk.set' (u := .int .u64 (u nx.c)) (i := 1) (cs' := #[.int .i64 nx.lv, .int .u64 (u nx.c), .int .i64 0]) (Blk.set' (u := .int .i64 nx.lv) (i := 0) (cs' := #[.int .i64 nx.lv, .int .u64 0, .int .i64 0]) N0.out rfl) rfl) rfl)
      clear hK K b0 b1 b2 b3 b4 hb
      try simp only [Act.put, List.setIfInBounds_toArray, List.set_cons_zero, List.set_cons_succ]
      refine wpAnyH_take (i := 25) (v := ?_) (op_at rfl) (by kernel_rfl) (by kernel_rfl) (by kernel_rfl) (fun _ _ _ h => h) (Or.inl ⟨by rfl, ?_⟩) hS ?_; rotate_left; focus ((intro w' hSw; clear hSw; go_simp) <;> with_reducible rfl)
      try simp only [Act.put, List.setIfInBounds_toArray, List.set_cons_zero, List.set_cons_succ]
      refine wpAnyH_done (by kernel_rfl) ?_ _
      obtain ⟨b0, b1, b2, b3, b4, hb⟩ := hS
      go_wp2_with fail
      go_meet
      exact ⟨_, rfl, rfl, N0.out, b0, b1, b2, b3, b4, hb, d0_N0, d1_N0, d2_N0, d3_N0, d4_N0, dd_N0⟩
  case rest =>
    obtain ⟨g3, rfl, rfl, hn, h_0, h_1, h_2, h_3, h_4, hb, e0_g3, e1_g3, e2_g3, e3_g3, e4_g3, ee_g3⟩ := hcut
    replace B0 := Lib.hid h_0
    clear h_0
    replace B1 := Lib.hid h_1
    clear h_1
    replace B2 := Lib.hid h_2
    clear h_2
    replace B3 := Lib.hid h_3
    clear h_3
    replace B4 := Lib.hid h_4
    clear h_4
    have B5 := Lib.hid hn
    clear hn
    replace HB := Lib.hid hb
    clear hb
    have p0_0 := B0.out.at_ (i := 0) (v := .pointer (some ⟨eb, 0, none⟩)) rfl
    have k0_0 : pb < wc.heap.size := by have := B0.out.lt; omega
    have k0_1 : pb < wc.heap.size + 1 := by have := B0.out.lt; omega
    go_wp2_with fail
    refine (must_any who none [(true, 0)] eb (.slice (some ⟨g, 0, none⟩) m cap) _ _ (by repeat (first | exact B3.out | exact Blk.new' (by simp; done) | exact Blk.new' rfl | refine Blk.drew ?_ | refine Blk.alloc ?_ _)) (RowsAt.of_blk (cs := #[.bool true, .int .i64 0]) (l := [(true, 0)]) (cap := 1) encC_size (Blk.new' rfl) ⟨[], rfl⟩ (by simp) (by decide)) (fun b off m c h => by cases h; have := B3.out.lt; omega)).mono ?_
    rintro e w4 ⟨rfl, hT, hB⟩
    replace HB := Lib.hid (below_turns (w := w0) (by repeat (first | exact HB.out | refine below_alloc ?_ _ | refine Below.drew ?_ | refine below_set ?_ (by omega) _)) hB (by first | omega | simp))
    replace B0 : Hid (Blk w4 (pb) 54 #[.pointer (some ⟨eb, 0, none⟩)]) := Lib.hid (Blk.turned (by repeat (first | exact B0.out | exact Blk.new' (by simp; done) | exact Blk.new' rfl | refine Blk.drew ?_ | refine Blk.alloc ?_ _)) hB (by omega))
    replace B1 : Hid (Blk w4 (wb) 3 #[.int .i64 k]) := Lib.hid (Blk.turned (by repeat (first | exact B1.out | exact Blk.new' (by simp; done) | exact Blk.new' rfl | refine Blk.drew ?_ | refine Blk.alloc ?_ _)) hB (by omega))
    replace B2 : Hid (Blk w4 (ab) 25 #[.int .i64 a.lv, .int .u64 (u a.c), .int .i64 a.ig]) := Lib.hid (Blk.turned (by repeat (first | exact B2.out | exact Blk.new' (by simp; done) | exact Blk.new' rfl | refine Blk.drew ?_ | refine Blk.alloc ?_ _)) hB (by omega))
    replace B3 : Hid (Blk w4 (eb) 63 #[.slice (some ⟨g, 0, none⟩) m cap, .int .i64 who, .nilIface]) := Lib.hid hT
    replace B4 : Hid (Blk w4 (g) 41 cs) := Lib.hid (Blk.turned (by repeat (first | exact B4.out | exact Blk.new' (by simp; done) | exact Blk.new' rfl | refine Blk.drew ?_ | refine Blk.alloc ?_ _)) hB (by omega))
    replace B5 : Hid (Blk w4 (g3) 25 #[.int .i64 nx.lv, .int .u64 (u nx.c), .int .i64 nx.ig]) := Lib.hid (Blk.turned (by repeat (first | exact B5.out | exact Blk.new' (by simp; done) | exact Blk.new' rfl | refine Blk.drew ?_ | refine Blk.alloc ?_ _)) hB (by omega))
    clear hT
    clear p0_0 k0_0 k0_1
    clear hB
    go_wp2_with fail
    refine wp_region_gen2 (S := (fun W' => Blk W' (pb) 54 #[.pointer (some ⟨eb, 0, none⟩)] ∧ Blk W' (wb) 3 #[.int .i64 k] ∧ Blk W' (ab) 25 #[.int .i64 a.lv, .int .u64 (u a.c), .int .i64 a.ig] ∧ Blk W' (eb) 63 #[.slice (some ⟨g, 0, none⟩) m cap, .int .i64 who, .nilIface] ∧ Blk W' (g3) 25 #[.int .i64 nx.lv, .int .u64 (u nx.c), .int .i64 nx.ig] ∧ Below w0.heap.size w0 W')) (N := (fun W' => Blk W' (g) 41 cs)) (by kernel_rfl) ⟨(by repeat (first | exact B0.out | exact Blk.new' (by simp; done) | exact Blk.new' rfl | refine Blk.drew ?_ | refine Blk.alloc ?_ _)), (by repeat (first | exact B1.out | exact Blk.new' (by simp; done) | exact Blk.new' rfl | refine Blk.drew ?_ | refine Blk.alloc ?_ _)), (by repeat (first | exact B2.out | exact Blk.new' (by simp; done) | exact Blk.new' rfl | refine Blk.drew ?_ | refine Blk.alloc ?_ _)), (by repeat (first | exact B3.out | exact Blk.new' (by simp; done) | exact Blk.new' rfl | refine Blk.drew ?_ | refine Blk.alloc ?_ _)), (by repeat (first | exact B5.out | exact Blk.new' (by simp; done) | exact Blk.new' rfl | refine Blk.drew ?_ | refine Blk.alloc ?_ _)), (by repeat (first | exact HB.out | refine below_alloc ?_ _ | refine Below.drew ?_ | refine below_set ?_ (by omega) _))⟩ (by repeat (first | exact B4.out | exact Blk.new' (by simp; done) | exact Blk.new' rfl | refine Blk.drew ?_ | refine Blk.alloc ?_ _)) (fun w5 hS hN => ?_)
    have n0 := hN
    have N0 := Lib.hid n0
    have d0_N0 : pb ≠ g := by omega
    have d1_N0 : wb ≠ g := by omega
    have d2_N0 : ab ≠ g := by omega
    have d3_N0 : eb ≠ g := by omega
    have d4_N0 : g3 ≠ g := by omega
    have dd_N0 : w0.heap.size ≤ g := by omega
    clear n0 hN
    refine wpAnyH_take (i := 0) (v := ?_) (op_at rfl) (by kernel_rfl) (by kernel_rfl) (by kernel_rfl) (fun _ _ _ h => h) (Or.inl ⟨by rfl, ?_⟩) hS ?_; rotate_left; focus ((intro w' hSw; obtain ⟨q, -⟩ := hSw; have c0 := q.at_ (i := 0) (v := .pointer (some ⟨eb, 0, none⟩)) rfl; clear q; go_simp) <;> with_reducible rfl)
    try simp only [Act.put, List.setIfInBounds_toArray, List.set_cons_zero, List.set_cons_succ]
    refine wpAnyH_take (i := 1) (v := ?_) (op_at rfl) (by kernel_rfl) (by kernel_rfl) (by kernel_rfl) (fun _ _ _ h => h) (Or.inl ⟨by rfl, ?_⟩) hS ?_; rotate_left; focus ((intro w' hSw; clear hSw; go_simp) <;> with_reducible rfl)
    try simp only [Act.put, List.setIfInBounds_toArray, List.set_cons_zero, List.set_cons_succ]
    refine wpAnyH_take (i := 2) (v := ?_) (op_at rfl) (by kernel_rfl) (by kernel_rfl) (by kernel_rfl) (fun _ _ _ h => h) (Or.inl ⟨by rfl, ?_⟩) hS ?_; rotate_left; focus ((intro w' hSw; clear hSw; go_simp) <;> with_reducible rfl)
    try simp only [Act.put, List.setIfInBounds_toArray, List.set_cons_zero, List.set_cons_succ]
    refine wpAnyH_take (i := 3) (v := ?_) (op_at rfl) (by kernel_rfl) (by kernel_rfl) (by kernel_rfl) (fun _ _ _ h => h) (Or.inl ⟨by rfl, ?_⟩) hS ?_; rotate_left; focus ((intro w' hSw; clear hSw; go_simp) <;> with_reducible rfl)
    try simp only [Act.put, List.setIfInBounds_toArray, List.set_cons_zero, List.set_cons_succ]
    refine wpAnyH_take (i := 4) (v := ?_) (op_at rfl) (by kernel_rfl) (by kernel_rfl) (by kernel_rfl) (fun _ _ _ h => h) (Or.inl ⟨by rfl, ?_⟩) hS ?_; rotate_left; focus ((intro w' hSw; obtain ⟨-, -, -, q, -⟩ := hSw; have c0 := q.at_ (i := 0) (v := .slice (some ⟨g, 0, none⟩) m cap) rfl; clear q; go_simp) <;> with_reducible rfl)
    try simp only [Act.put, List.setIfInBounds_toArray, List.set_cons_zero, List.set_cons_succ]
    refine wpAnyH_take (i := 5) (v := ?_) (op_at rfl) (by kernel_rfl) (by kernel_rfl) (by kernel_rfl) (fun _ _ _ h => h) (Or.inl ⟨by rfl, ?_⟩) hS ?_; rotate_left; focus ((intro w' hSw; obtain ⟨-, q, -⟩ := hSw; have c0 := q.at_ (i := 0) (v := .int .i64 k) rfl; clear q; go_simp) <;> with_reducible rfl)
    try simp only [Act.put, List.setIfInBounds_toArray, List.set_cons_zero, List.set_cons_succ]
    refine wpAnyH_take (i := 6) (v := ?_) (op_at rfl) (by kernel_rfl) (by kernel_rfl) (by kernel_rfl) (fun _ _ _ h => h) (Or.inl ⟨by rfl, ?_⟩) hS ?_; rotate_left; focus ((intro w' hSw; obtain ⟨-, -, -, -, q, -⟩ := hSw; have c0 := q.at_ (i := 0) (v := .int .i64 nx.lv) rfl; have c1 := q.at_ (i := 1) (v := .int .u64 (u nx.c)) rfl; have c2 := q.at_ (i := 2) (v := .int .i64 nx.ig) rfl; clear q; go_simp) <;> with_reducible rfl)
    try simp only [Act.put, List.setIfInBounds_toArray, List.set_cons_zero, List.set_cons_succ]
    refine wpAnyH_take (i := 7) (v := ?_) (op_at rfl) (by kernel_rfl) (by kernel_rfl) (by kernel_rfl) (fun _ _ _ h => h) (Or.inl ⟨by rfl, ?_⟩) hS ?_; rotate_left; focus ((intro w' hSw; clear hSw; go_simp) <;> with_reducible rfl)
    try simp only [Act.put, List.setIfInBounds_toArray, List.set_cons_zero, List.set_cons_succ]
    refine wpAnyH_take (i := 8) (v := ?_) (op_at rfl) (by kernel_rfl) (by kernel_rfl) (by kernel_rfl) (fun _ _ _ h => h) (Or.inl ⟨by rfl, ?_⟩) hS ?_; rotate_left; focus ((intro w' hSw; clear hSw; go_simp) <;> with_reducible rfl)
    try simp only [Act.put, List.setIfInBounds_toArray, List.set_cons_zero, List.set_cons_succ]
    refine wpAnyH_ready (rs := [9]) (by kernel_rfl) (by simp) ?_
    refine (AllReadyH.cons (op_at rfl) (fun K hK => ?_) AllReadyH.nil)
    have p_0 : w5.cell? ⟨g, k * 8 + 2, none⟩ = some (.int .i64 x.cur.lv) := N0.out.at_ HO2.out
    have f_0 : w5.frozen? ⟨g, k * 8 + 2, none⟩ = false := N0.out.frozen _
    have p_1 : w5.cell? ⟨g, k * 8 + 3, none⟩ = some (.int .u64 (u x.cur.c)) := N0.out.at_ HO3.out
    have f_1 : w5.frozen? ⟨g, k * 8 + 3, none⟩ = false := N0.out.frozen _
    have p_2 : w5.cell? ⟨g, k * 8 + 4, none⟩ = some (.int .i64 x.cur.ig) := N0.out.at_ HO4.out
    have f_2 : w5.frozen? ⟨g, k * 8 + 4, none⟩ = false := N0.out.frozen _
    go_simp
    clear p_0 f_0 p_1 f_1 p_2 f_2
    obtain ⟨b0, b1, b2, b3, b4, hb⟩ := hS
    refine hK.out _ _ ⟨(Blk.far (Blk.far (Blk.far b0 d0_N0 _) d0_N0 _) d0_N0 _), (Blk.far (Blk.far (Blk.far b1 d1_N0 _) d1_N0 _) d1_N0 _), (Blk.far (Blk.far (Blk.far b2 d2_N0 _) d2_N0 _) d2_N0 _), (Blk.far (Blk.far (Blk.far b3 d3_N0 _) d3_N0 _) d3_N0 _), (Blk.far (Blk.far (Blk.far b4 d4_N0 _) d4_N0 _) d4_N0 _), (below_set (below_set (below_set hb dd_N0 _) dd_N0 _) dd_N0 _)⟩ (fun hS => ?_)
    replace N0 := Lib.hid (Blk.set' (u := .int .i64 nx.ig) (i := k * 8 + 4) (cs' := (((cs.setIfInBounds (k * 8 + 2) (.int .i64 nx.lv)).setIfInBounds (k * 8 + 3) (.int .u64 (u nx.c))).setIfInBounds (k * 8 + 4) (.int .i64 nx.ig))) (Blk.set' (u := .int .u64 (u nx.c)) (i := k * 8 + 3) (cs' := ((cs.setIfInBounds (k * 8 + 2) (.int .i64 nx.lv)).setIfInBounds (k * 8 + 3) (.int .u64 (u nx.c)))) (Blk.set' (u := .int .i64 nx.lv) (i := k * 8 + 2) (cs' := (cs.setIfInBounds (k * 8 + 2) (.int .i64 nx.lv))) N0.out rfl) rfl) rfl)
    clear hK K b0 b1 b2 b3 b4 hb
    try simp only [Act.put, List.setIfInBounds_toArray, List.set_cons_zero, List.set_cons_succ]
    refine wpAnyH_done (by kernel_rfl) ?_ _
    obtain ⟨b0, b1, b2, b3, b4, hb⟩ := hS
    replace B0 := Lib.hid b0
    clear b0
    replace B1 := Lib.hid b1
    clear b1
    replace B2 := Lib.hid b2
    clear b2
    replace B3 := Lib.hid b3
    clear b3
    replace B5 := Lib.hid b4
    clear b4
    replace B4 := N0
    clear N0
    replace HB := Lib.hid hb
    clear hb
    go_wp2_with fail
    go_end0
    exact ⟨rfl, B3.out, B4.out, HB.out⟩
set_option maxRecDepth 100000 in
set_option maxHeartbeats 4000000 in
theorem float_do_no (pb wb ab eb g m cap k : Nat) (who n : Int) (x : Sub) (nx a : Lab) (sa : Addr) (cs : Array Value) (w0 w : World) (hh : Env sa w0) (hbw : Below w0.heap.size w0 w) (hp : Blk w pb 54 #[.pointer (some ⟨eb, 0, none⟩)]) (hw : Blk w wb 3 #[.int .i64 k]) (ha : Blk w ab 25 #[.int .i64 a.lv, .int .u64 (u a.c), .int .i64 a.ig]) (he : Blk w eb 63 #[.slice (some ⟨g, 0, none⟩) m cap, .int .i64 who, .nilIface]) (hg : Blk w g 41 cs)
    (hk : k < m) (ho0 : cs[k * 8]? = some (.int .i64 x.par)) (ho1 : cs[k * 8 + 1]? = some (.int .i64 x.st)) (ho2 : cs[k * 8 + 2]? = some (.int .i64 x.cur.lv)) (ho3 : cs[k * 8 + 3]? = some (.int .u64 (u x.cur.c))) (ho4 : cs[k * 8 + 4]? = some (.int .i64 x.cur.ig)) (ho5 : cs[k * 8 + 5]? = some (.int .i64 x.high.lv)) (ho6 : cs[k * 8 + 6]? = some (.int .u64 (u x.high.c))) (ho7 : cs[k * 8 + 7]? = some (.int .i64 x.high.ig)) (hn : floatL x.cur a x.high = nx) (hex : floatE x.cur a x.high = n) (hy : (n == 0) = false) (n1 : w0.heap.size ≤ eb) (n2 : w0.heap.size ≤ g) (n3 : pb ≠ g) (n4 : wb ≠ g) (n5 : ab ≠ g) (n6 : eb ≠ g) (n7 : pb ≠ eb) (n8 : wb ≠ eb) (n9 : ab ≠ eb) :
    Calls Tryd.prog 40 #[.pointer (some ⟨pb, 0, none⟩), .pointer (some ⟨wb, 0, none⟩), .pointer (some ⟨ab, 0, none⟩)] w fun e w' => e = .returned (.tuple #[]) ∧ Blk w' eb 63 #[.slice (some ⟨g, 0, none⟩) m cap, .int .i64 who, .iface 85 (.agg #[.int .i64 who, .iface 83 (.agg #[.int .i64 n])])] ∧ Blk w' g 41 (((cs.setIfInBounds (k * 8 + 2) (.int .i64 nx.lv)).setIfInBounds (k * 8 + 3) (.int .u64 (u nx.c))).setIfInBounds (k * 8 + 4) (.int .i64 nx.ig)) ∧ Below w0.heap.size w0 w' := by
  have HH := Lib.hid hh
  have HB := Lib.hid hbw
  have B0 := Lib.hid hp
  have B1 := Lib.hid hw
  have B2 := Lib.hid ha
  have B3 := Lib.hid he
  have B4 := Lib.hid hg
  have HNX := Lib.hid hn
  have HEX := Lib.hid hex
  have HO0 := Lib.hid ho0
  have HO1 := Lib.hid ho1
  have HO2 := Lib.hid ho2
  have HO3 := Lib.hid ho3
  have HO4 := Lib.hid ho4
  have HO5 := Lib.hid ho5
  have HO6 := Lib.hid ho6
  have HO7 := Lib.hid ho7
  have hkz : (0 : Int) ≤ (k : Int) := by omega
  have hkz2 : (k : Int) < (m : Int) := by omega
  have l1 : pb < w.heap.size := hp.lt
  have l2 : wb < w.heap.size := hw.lt
  have l3 : ab < w.heap.size := ha.lt
  have l4 : eb < w.heap.size := he.lt
  have l5 : g < w.heap.size := hg.lt
  clear hh hbw hp hw ha he hg hn hex ho0 ho1 ho2 ho3 ho4 ho5 ho6 ho7
  go_enter Tryd.func40, Tryd.ntmps40
  go_upto_region 0 with fail
  go_cut [3, 4] (fun s3 s4 wx => ∃ g3 : Nat, s3 = .pointer (some ⟨g3, 0, none⟩) ∧ s4 = .int .i64 n ∧ Blk wx (g3) 25 #[.int .i64 nx.lv, .int .u64 (u nx.c), .int .i64 nx.ig] ∧ Blk wx (pb) 54 #[.pointer (some ⟨eb, 0, none⟩)] ∧ Blk wx (wb) 3 #[.int .i64 k] ∧ Blk wx (ab) 25 #[.int .i64 a.lv, .int .u64 (u a.c), .int .i64 a.ig] ∧ Blk wx (eb) 63 #[.slice (some ⟨g, 0, none⟩) m cap, .int .i64 who, .nilIface] ∧ Blk wx (g) 41 cs ∧ Below w0.heap.size w0 wx ∧ pb ≠ g3 ∧ wb ≠ g3 ∧ ab ≠ g3 ∧ eb ≠ g3 ∧ g ≠ g3 ∧ w0.heap.size ≤ g3)
  case first =>
    refine wp_region_gen (S := (fun W' => Blk W' (pb) 54 #[.pointer (some ⟨eb, 0, none⟩)] ∧ Blk W' (wb) 3 #[.int .i64 k] ∧ Blk W' (ab) 25 #[.int .i64 a.lv, .int .u64 (u a.c), .int .i64 a.ig] ∧ Blk W' (eb) 63 #[.slice (some ⟨g, 0, none⟩) m cap, .int .i64 who, .nilIface] ∧ Blk W' (g) 41 cs ∧ Below w0.heap.size w0 W')) (by kernel_rfl) ⟨(by repeat (first | exact B0.out | exact Blk.new' (by simp; done) | exact Blk.new' rfl | refine Blk.drew ?_ | refine Blk.alloc ?_ _)), (by repeat (first | exact B1.out | exact Blk.new' (by simp; done) | exact Blk.new' rfl | refine Blk.drew ?_ | refine Blk.alloc ?_ _)), (by repeat (first | exact B2.out | exact Blk.new' (by simp; done) | exact Blk.new' rfl | refine Blk.drew ?_ | refine Blk.alloc ?_ _)), (by repeat (first | exact B3.out | exact Blk.new' (by simp; done) | exact Blk.new' rfl | refine Blk.drew ?_ | refine Blk.alloc ?_ _)), (by repeat (first | exact B4.out | exact Blk.new' (by simp; done) | exact Blk.new' rfl | refine Blk.drew ?_ | refine Blk.alloc ?_ _)), (by repeat (first | exact HB.out | refine below_alloc ?_ _ | refine Below.drew ?_ | refine below_set ?_ (by omega) _))⟩ (fun w1 hS => ?_)
    refine wpAnyH_take (i := 0) (v := ?_) (op_at rfl) (by kernel_rfl) (by kernel_rfl) (by kernel_rfl) (fun _ _ _ h => h) (Or.inl ⟨by rfl, ?_⟩) hS ?_; rotate_left; focus ((intro w' hSw; obtain ⟨q, -⟩ := hSw; have c0 := q.at_ (i := 0) (v := .pointer (some ⟨eb, 0, none⟩)) rfl; clear q; go_simp) <;> with_reducible rfl)
    try simp only [Act.put, List.setIfInBounds_toArray, List.set_cons_zero, List.set_cons_succ]
    refine wpAnyH_take (i := 1) (v := ?_) (op_at rfl) (by kernel_rfl) (by kernel_rfl) (by kernel_rfl) (fun _ _ _ h => h) (Or.inl ⟨by rfl, ?_⟩) hS ?_; rotate_left; focus ((intro w' hSw; clear hSw; go_simp) <;> with_reducible rfl)
    try simp only [Act.put, List.setIfInBounds_toArray, List.set_cons_zero, List.set_cons_succ]
    refine wpAnyH_take (i := 2) (v := ?_) (op_at rfl) (by kernel_rfl) (by kernel_rfl) (by kernel_rfl) (fun _ _ _ h => h) (Or.inl ⟨by rfl, ?_⟩) hS ?_; rotate_left; focus ((intro w' hSw; clear hSw; go_simp) <;> with_reducible rfl)
    try simp only [Act.put, List.setIfInBounds_toArray, List.set_cons_zero, List.set_cons_succ]
    refine wpAnyH_take (i := 3) (v := ?_) (op_at rfl) (by kernel_rfl) (by kernel_rfl) (by kernel_rfl) (fun _ _ _ h => h) (Or.inl ⟨by rfl, ?_⟩) hS ?_; rotate_left; focus ((intro w' hSw; clear hSw; go_simp) <;> with_reducible rfl)
    try simp only [Act.put, List.setIfInBounds_toArray, List.set_cons_zero, List.set_cons_succ]
    refine wpAnyH_take (i := 4) (v := ?_) (op_at rfl) (by kernel_rfl) (by kernel_rfl) (by kernel_rfl) (fun _ _ _ h => h) (Or.inl ⟨by rfl, ?_⟩) hS ?_; rotate_left; focus ((intro w' hSw; obtain ⟨-, -, -, q, -⟩ := hSw; have c0 := q.at_ (i := 0) (v := .slice (some ⟨g, 0, none⟩) m cap) rfl; clear q; go_simp) <;> with_reducible rfl)
    try simp only [Act.put, List.setIfInBounds_toArray, List.set_cons_zero, List.set_cons_succ]
    refine wpAnyH_take (i := 5) (v := ?_) (op_at rfl) (by kernel_rfl) (by kernel_rfl) (by kernel_rfl) (fun _ _ _ h => h) (Or.inl ⟨by rfl, ?_⟩) hS ?_; rotate_left; focus ((intro w' hSw; obtain ⟨-, q, -⟩ := hSw; have c0 := q.at_ (i := 0) (v := .int .i64 k) rfl; clear q; go_simp) <;> with_reducible rfl)
    try simp only [Act.put, List.setIfInBounds_toArray, List.set_cons_zero, List.set_cons_succ]
    refine wpAnyH_take (i := 6) (v := ?_) (op_at rfl) (by kernel_rfl) (by kernel_rfl) (by kernel_rfl) (fun _ _ _ h => h) (Or.inl ⟨by rfl, ?_⟩) hS ?_; rotate_left; focus ((intro w' hSw; clear hSw; go_simp) <;> with_reducible rfl)
    try simp only [Act.put, List.setIfInBounds_toArray, List.set_cons_zero, List.set_cons_succ]
    refine wpAnyH_take (i := 7) (v := ?_) (op_at rfl) (by kernel_rfl) (by kernel_rfl) (by kernel_rfl) (fun _ _ _ h => h) (Or.inl ⟨by rfl, ?_⟩) hS ?_; rotate_left; focus ((intro w' hSw; clear hSw; go_simp) <;> with_reducible rfl)
    try simp only [Act.put, List.setIfInBounds_toArray, List.set_cons_zero, List.set_cons_succ]
    refine wpAnyH_take (i := 8) (v := ?_) (op_at rfl) (by kernel_rfl) (by kernel_rfl) (by kernel_rfl) (fun _ _ _ h => h) (Or.inl ⟨by rfl, ?_⟩) hS ?_; rotate_left; focus ((intro w' hSw; obtain ⟨-, -, -, -, q, -⟩ := hSw; have c2 : w'.cell? ⟨g, k * 8 + 2, none⟩ = some (.int .i64 x.cur.lv) := q.at_ HO2.out; have c3 : w'.cell? ⟨g, k * 8 + 3, none⟩ = some (.int .u64 (u x.cur.c)) := q.at_ HO3.out; have c4 : w'.cell? ⟨g, k * 8 + 4, none⟩ = some (.int .i64 x.cur.ig) := q.at_ HO4.out; clear q; go_simp) <;> with_reducible rfl)
    try simp only [Act.put, List.setIfInBounds_toArray, List.set_cons_zero, List.set_cons_succ]
    refine wpAnyH_take (i := 9) (v := ?_) (op_at rfl) (by kernel_rfl) (by kernel_rfl) (by kernel_rfl) (fun _ _ _ h => h) (Or.inl ⟨by rfl, ?_⟩) hS ?_; rotate_left; focus ((intro w' hSw; obtain ⟨-, -, q, -⟩ := hSw; have c0 := q.at_ (i := 0) (v := .int .i64 a.lv) rfl; have c1 := q.at_ (i := 1) (v := .int .u64 (u a.c)) rfl; have c2 := q.at_ (i := 2) (v := .int .i64 a.ig) rfl; clear q; go_simp) <;> with_reducible rfl)
    try simp only [Act.put, List.setIfInBounds_toArray, List.set_cons_zero, List.set_cons_succ]
    refine wpAnyH_take (i := 10) (v := ?_) (op_at rfl) (by kernel_rfl) (by kernel_rfl) (by kernel_rfl) (fun _ _ _ h => h) (Or.inl ⟨by rfl, ?_⟩) hS ?_; rotate_left; focus ((intro w' hSw; obtain ⟨q, -⟩ := hSw; have c0 := q.at_ (i := 0) (v := .pointer (some ⟨eb, 0, none⟩)) rfl; clear q; go_simp) <;> with_reducible rfl)
    try simp only [Act.put, List.setIfInBounds_toArray, List.set_cons_zero, List.set_cons_succ]
    refine wpAnyH_take (i := 11) (v := ?_) (op_at rfl) (by kernel_rfl) (by kernel_rfl) (by kernel_rfl) (fun _ _ _ h => h) (Or.inl ⟨by rfl, ?_⟩) hS ?_; rotate_left; focus ((intro w' hSw; clear hSw; go_simp) <;> with_reducible rfl)
    try simp only [Act.put, List.setIfInBounds_toArray, List.set_cons_zero, List.set_cons_succ]
    refine wpAnyH_take (i := 12) (v := ?_) (op_at rfl) (by kernel_rfl) (by kernel_rfl) (by kernel_rfl) (fun _ _ _ h => h) (Or.inl ⟨by rfl, ?_⟩) hS ?_; rotate_left; focus ((intro w' hSw; clear hSw; go_simp) <;> with_reducible rfl)
    try simp only [Act.put, List.setIfInBounds_toArray, List.set_cons_zero, List.set_cons_succ]
    refine wpAnyH_take (i := 13) (v := ?_) (op_at rfl) (by kernel_rfl) (by kernel_rfl) (by kernel_rfl) (fun _ _ _ h => h) (Or.inl ⟨by rfl, ?_⟩) hS ?_; rotate_left; focus ((intro w' hSw; clear hSw; go_simp) <;> with_reducible rfl)
    try simp only [Act.put, List.setIfInBounds_toArray, List.set_cons_zero, List.set_cons_succ]
    refine wpAnyH_take (i := 14) (v := ?_) (op_at rfl) (by kernel_rfl) (by kernel_rfl) (by kernel_rfl) (fun _ _ _ h => h) (Or.inl ⟨by rfl, ?_⟩) hS ?_; rotate_left; focus ((intro w' hSw; obtain ⟨-, -, -, q, -⟩ := hSw; have c0 := q.at_ (i := 0) (v := .slice (some ⟨g, 0, none⟩) m cap) rfl; clear q; go_simp) <;> with_reducible rfl)
    try simp only [Act.put, List.setIfInBounds_toArray, List.set_cons_zero, List.set_cons_succ]
    refine wpAnyH_take (i := 15) (v := ?_) (op_at rfl) (by kernel_rfl) (by kernel_rfl) (by kernel_rfl) (fun _ _ _ h => h) (Or.inl ⟨by rfl, ?_⟩) hS ?_; rotate_left; focus ((intro w' hSw; obtain ⟨-, q, -⟩ := hSw; have c0 := q.at_ (i := 0) (v := .int .i64 k) rfl; clear q; go_simp) <;> with_reducible rfl)
    try simp only [Act.put, List.setIfInBounds_toArray, List.set_cons_zero, List.set_cons_succ]
    refine wpAnyH_take (i := 16) (v := ?_) (op_at rfl) (by kernel_rfl) (by kernel_rfl) (by kernel_rfl) (fun _ _ _ h => h) (Or.inl ⟨by rfl, ?_⟩) hS ?_; rotate_left; focus ((intro w' hSw; clear hSw; go_simp) <;> with_reducible rfl)
    try simp only [Act.put, List.setIfInBounds_toArray, List.set_cons_zero, List.set_cons_succ]
    refine wpAnyH_take (i := 17) (v := ?_) (op_at rfl) (by kernel_rfl) (by kernel_rfl) (by kernel_rfl) (fun _ _ _ h => h) (Or.inl ⟨by rfl, ?_⟩) hS ?_; rotate_left; focus ((intro w' hSw; clear hSw; go_simp) <;> with_reducible rfl)
    try simp only [Act.put, List.setIfInBounds_toArray, List.set_cons_zero, List.set_cons_succ]
    refine wpAnyH_take (i := 18) (v := ?_) (op_at rfl) (by kernel_rfl) (by kernel_rfl) (by kernel_rfl) (fun _ _ _ h => h) (Or.inl ⟨by rfl, ?_⟩) hS ?_; rotate_left; focus ((intro w' hSw; obtain ⟨-, -, -, -, q, -⟩ := hSw; have c5 : w'.cell? ⟨g, k * 8 + 5, none⟩ = some (.int .i64 x.high.lv) := q.at_ HO5.out; have c6 : w'.cell? ⟨g, k * 8 + 6, none⟩ = some (.int .u64 (u x.high.c)) := q.at_ HO6.out; have c7 : w'.cell? ⟨g, k * 8 + 7, none⟩ = some (.int .i64 x.high.ig) := q.at_ HO7.out; clear q; go_simp) <;> with_reducible rfl)
    try simp only [Act.put, List.setIfInBounds_toArray, List.set_cons_zero, List.set_cons_succ]
    refine wpAnyH_ready (rs := [19, 23]) (by kernel_rfl) (by simp) ?_
    refine (AllReadyH.cons (op_at rfl) (fun K hK => ?_) (AllReadyH.cons (op_at rfl) (fun K hK => ?_) AllReadyH.nil))
    ·
      go_simp
      obtain ⟨b0, b1, b2, b3, b4, hb⟩ := hS
      refine (floatIsS HNX.out HEX.out sa _ (HH.out.up (hb))).mono ?_
      rintro e w2 ⟨rfl, hB⟩
      refine hK.out _ _ ⟨b0.after hB, b1.after hB, b2.after hB, b3.after hB, b4.after hB, below_call hb hB⟩ (fun hS => ?_)
      clear hK K hB b0 b1 b2 b3 b4 hb
      try simp only [Act.put, List.setIfInBounds_toArray, List.set_cons_zero, List.set_cons_succ]
      refine wpAnyH_take (i := 20) (v := ?_) (op_at rfl) (by kernel_rfl) (by kernel_rfl) (by kernel_rfl) (fun _ _ _ h => h) (Or.inl ⟨by rfl, ?_⟩) hS ?_; rotate_left; focus ((intro w' hSw; clear hSw; go_simp) <;> with_reducible rfl)
      try simp only [Act.put, List.setIfInBounds_toArray, List.set_cons_zero, List.set_cons_succ]
      refine wpAnyH_take (i := 21) (v := ?_) (op_at rfl) (by kernel_rfl) (by kernel_rfl) (by kernel_rfl) (fun _ _ _ h => h) (Or.inl ⟨by rfl, ?_⟩) hS ?_; rotate_left; focus ((intro w' hSw; clear hSw; go_simp) <;> with_reducible rfl)
      try simp only [Act.put, List.setIfInBounds_toArray, List.set_cons_zero, List.set_cons_succ]
      refine wpAnyH_take (i := 22) (v := ?_) (op_at rfl) (by kernel_rfl) (by kernel_rfl) (by kernel_rfl) (fun _ _ _ h => h) (Or.inl ⟨by rfl, ?_⟩) hS ?_; rotate_left; focus ((intro w' hSw; clear hSw; go_simp) <;> with_reducible rfl)
      try simp only [Act.put, List.setIfInBounds_toArray, List.set_cons_zero, List.set_cons_succ]
      refine wpAnyH_ready (rs := [23]) (by kernel_rfl) (by simp) ?_
      refine (AllReadyH.cons (op_at rfl) (fun K hK => ?_) AllReadyH.nil)
      go_simp
      obtain ⟨b0, b1, b2, b3, b4, hb⟩ := hS
      have N0 : Hid (Blk (w2.alloc (.cells #[.int .i64 0, .int .u64 0, .int .i64 0] 25)) w2.heap.size 25 #[.int .i64 0, .int .u64 0, .int .i64 0]) := Lib.hid (Blk.new' rfl)
      have d0_N0 : pb ≠ w2.heap.size := Nat.ne_of_lt b0.lt
      have d1_N0 : wb ≠ w2.heap.size := Nat.ne_of_lt b1.lt
      have d2_N0 : ab ≠ w2.heap.size := Nat.ne_of_lt b2.lt
      have d3_N0 : eb ≠ w2.heap.size := Nat.ne_of_lt b3.lt
      have d4_N0 : g ≠ w2.heap.size := Nat.ne_of_lt b4.lt
      have dd_N0 : w0.heap.size ≤ w2.heap.size := hb.size
      refine hK.out _ _ ⟨b0.alloc _, b1.alloc _, b2.alloc _, b3.alloc _, b4.alloc _, below_alloc hb _⟩ (fun hS => ?_)
      clear hK K b0 b1 b2 b3 b4 hb
      try simp only [Act.put, List.setIfInBounds_toArray, List.set_cons_zero, List.set_cons_succ]
      refine wpAnyH_ready (rs := [24]) (by kernel_rfl) (by simp) ?_
      refine (AllReadyH.cons (op_at rfl) (fun K hK => ?_) AllReadyH.nil)
      go_simp
      obtain ⟨b0, b1, b2, b3, b4, hb⟩ := hS
      refine hK.out _ _ ⟨(Blk.realloc b0 d0_N0), (Blk.realloc b1 d1_N0), (Blk.realloc b2 d2_N0), (Blk.realloc b3 d3_N0), (Blk.realloc b4 d4_N0), (below_realloc hb dd_N0)⟩ (fun hS => ?_)
      replace N0 : Hid (Blk (w2.alloc (.cells #[.int .i64 nx.lv, .int .u64 (u nx.c), .int .i64 nx.ig] 25)) w2.heap.size 25 #[.int .i64 nx.lv, .int .u64 (u nx.c), .int .i64 nx.ig]) := Lib.hid (Blk.new' rfl)
      clear hK K b0 b1 b2 b3 b4 hb
      try simp only [Act.put, List.setIfInBounds_toArray, List.set_cons_zero, List.set_cons_succ]
      refine wpAnyH_take (i := 25) (v := ?_) (op_at rfl) (by kernel_rfl) (by kernel_rfl) (by kernel_rfl) (fun _ _ _ h => h) (Or.inl ⟨by rfl, ?_⟩) hS ?_; rotate_left; focus ((intro w' hSw; clear hSw; go_simp) <;> with_reducible rfl)
      try simp only [Act.put, List.setIfInBounds_toArray, List.set_cons_zero, List.set_cons_succ]
      refine wpAnyH_done (by kernel_rfl) ?_ _
      obtain ⟨b0, b1, b2, b3, b4, hb⟩ := hS
      go_wp2_with fail
      go_meet
      exact ⟨_, rfl, rfl, N0.out, b0, b1, b2, b3, b4, hb, d0_N0, d1_N0, d2_N0, d3_N0, d4_N0, dd_N0⟩
    ·
      go_simp
      obtain ⟨b0, b1, b2, b3, b4, hb⟩ := hS
      have N0 : Hid (Blk (w1.alloc (.cells #[.int .i64 0, .int .u64 0, .int .i64 0] 25)) w1.heap.size 25 #[.int .i64 0, .int .u64 0, .int .i64 0]) := Lib.hid (Blk.new' rfl)
      have d0_N0 : pb ≠ w1.heap.size := Nat.ne_of_lt b0.lt
      have d1_N0 : wb ≠ w1.heap.size := Nat.ne_of_lt b1.lt
      have d2_N0 : ab ≠ w1.heap.size := Nat.ne_of_lt b2.lt
      have d3_N0 : eb ≠ w1.heap.size := Nat.ne_of_lt b3.lt
      have d4_N0 : g ≠ w1.heap.size := Nat.ne_of_lt b4.lt
      have dd_N0 : w0.heap.size ≤ w1.heap.size := hb.size
      refine hK.out _ _ ⟨b0.alloc _, b1.alloc _, b2.alloc _, b3.alloc _, b4.alloc _, below_alloc hb _⟩ (fun hS => ?_)
      clear hK K b0 b1 b2 b3 b4 hb
      try simp only [Act.put, List.setIfInBounds_toArray, List.set_cons_zero, List.set_cons_succ]
      refine wpAnyH_ready (rs := [19]) (by kernel_rfl) (by simp) ?_
      refine (AllReadyH.cons (op_at rfl) (fun K hK => ?_) AllReadyH.nil)
      go_simp
      obtain ⟨b0, b1, b2, b3, b4, hb⟩ := hS
      refine (floatIsS HNX.out HEX.out sa _ (HH.out.up (hb))).mono ?_
      rintro e w3 ⟨rfl, hB⟩
      replace N0 := Lib.hid (N0.out.after hB)
      refine hK.out _ _ ⟨b0.after hB, b1.after hB, b2.after hB, b3.after hB, b4.after hB, below_call hb hB⟩ (fun hS => ?_)
      clear hK K hB b0 b1 b2 b3 b4 hb
      try simp only [Act.put, List.setIfInBounds_toArray, List.set_cons_zero, List.set_cons_succ]
      refine wpAnyH_take (i := 20) (v := ?_) (op_at rfl) (by kernel_rfl) (by kernel_rfl) (by kernel_rfl) (fun _ _ _ h => h) (Or.inl ⟨by rfl, ?_⟩) hS ?_; rotate_left; focus ((intro w' hSw; clear hSw; go_simp) <;> with_reducible rfl)
      try simp only [Act.put, List.setIfInBounds_toArray, List.set_cons_zero, List.set_cons_succ]
      refine wpAnyH_take (i := 21) (v := ?_) (op_at rfl) (by kernel_rfl) (by kernel_rfl) (by kernel_rfl) (fun _ _ _ h => h) (Or.inl ⟨by rfl, ?_⟩) hS ?_; rotate_left; focus ((intro w' hSw; clear hSw; go_simp) <;> with_reducible rfl)
      try simp only [Act.put, List.setIfInBounds_toArray, List.set_cons_zero, List.set_cons_succ]
      refine wpAnyH_take (i := 22) (v := ?_) (op_at rfl) (by kernel_rfl) (by kernel_rfl) (by kernel_rfl) (fun _ _ _ h => h) (Or.inl ⟨by rfl, ?_⟩) hS ?_; rotate_left; focus ((intro w' hSw; clear hSw; go_simp) <;> with_reducible rfl)
      try simp only [Act.put, List.setIfInBounds_toArray, List.set_cons_zero, List.set_cons_succ]
      refine wpAnyH_ready (rs := [24]) (by kernel_rfl) (by simp) ?_
      refine (AllReadyH.cons (op_at rfl) (fun K hK => ?_) AllReadyH.nil)
      have p_0 := N0.out.at_ (i := 0) (v := .int .i64 0) rfl
      have f_0 := N0.out.frozen 0
      have p_1 := N0.out.at_ (i := 1) (v := .int .u64 0) rfl
      have f_1 := N0.out.frozen 1
      have p_2 := N0.out.at_ (i := 2) (v := .int .i64 0) rfl
      have f_2 := N0.out.frozen 2
      go_simp
      clear p_0 f_0 p_1 f_1 p_2 f_2
      obtain ⟨b0, b1, b2, b3, b4, hb⟩ := hS
      refine hK.out _ _ ⟨(Blk.far (Blk.far (Blk.far b0 d0_N0 _) d0_N0 _) d0_N0 _), (Blk.far (Blk.far (Blk.far b1 d1_N0 _) d1_N0 _) d1_N0 _), (Blk.far (Blk.far (Blk.far b2 d2_N0 _) d2_N0 _) d2_N0 _), (Blk.far (Blk.far (Blk.far b3 d3_N0 _) d3_N0 _) d3_N0 _), (Blk.far (Blk.far (Blk.far b4 d4_N0 _) d4_N0 _) d4_N0 _), (below_set (below_set (below_set hb dd_N0 _) dd_N0 _) dd_N0 _)⟩ (fun hS => ?_)
      replace N0 := Lib.hid (Blk.set' (u := .int .i64 nx.ig) (i := 2) (cs' := #[.int .i64 nx.lv, .int .u64 (u nx.c), .int .i64 nx.ig]) (Blk.set' (u := .int .u64 (u nx.c)) (i := 1) (cs' := #[.int .i64 nx.lv, .int .u64 (u nx.c), .int .i64 0]) (Blk.set' (u := .int .i64 nx.lv) (i := 0) (cs' := #[.int .i64 nx.lv, .int .u64 0, .int .i64 0]) N0.out rfl) rfl) rfl)
      clear hK K b0 b1 b2 b3 b4 hb
      try simp only [Act.put, List.setIfInBounds_toArray, List.set_cons_zero, List.set_cons_succ]
      refine wpAnyH_take (i := 25) (v := ?_) (op_at rfl) (by kernel_rfl) (by kernel_rfl) (by kernel_rfl) (fun _ _ _ h => h) (Or.inl ⟨by rfl, ?_⟩) hS ?_; rotate_left; focus ((intro w' hSw; clear hSw; go_simp) <;> with_reducible rfl)
      try simp only [Act.put, List.setIfInBounds_toArray, List.set_cons_zero, List.set_cons_succ]
      refine wpAnyH_done (by kernel_rfl) ?_ _
      obtain ⟨b0, b1, b2, b3, b4, hb⟩ := hS
      go_wp2_with fail
      go_meet
      exact ⟨_, rfl, rfl, N0.out, b0, b1, b2, b3, b4, hb, d0_N0, d1_N0, d2_N0, d3_N0, d4_N0, dd_N0⟩
  case rest =>
    obtain ⟨g3, rfl, rfl, hn, h_0, h_1, h_2, h_3, h_4, hb, e0_g3, e1_g3, e2_g3, e3_g3, e4_g3, ee_g3⟩ := hcut
    replace B0 := Lib.hid h_0
    clear h_0
    replace B1 := Lib.hid h_1
    clear h_1
    replace B2 := Lib.hid h_2
    clear h_2
    replace B3 := Lib.hid h_3
    clear h_3
    replace B4 := Lib.hid h_4
    clear h_4
    have B5 := Lib.hid hn
    clear hn
    replace HB := Lib.hid hb
    clear hb
    have p0_0 := B0.out.at_ (i := 0) (v := .pointer (some ⟨eb, 0, none⟩)) rfl
    have k0_0 : pb < wc.heap.size := by have := B0.out.lt; omega
    have k0_1 : pb < wc.heap.size + 1 := by have := B0.out.lt; omega
    go_wp2_with fail
    refine (must_any who none [(false, n)] eb (.slice (some ⟨g, 0, none⟩) m cap) _ _ (by repeat (first | exact B3.out | exact Blk.new' (by simp; done) | exact Blk.new' rfl | refine Blk.drew ?_ | refine Blk.alloc ?_ _)) (RowsAt.of_blk (cs := #[.bool false, .int .i64 n]) (l := [(false, n)]) (cap := 1) encC_size (Blk.new' rfl) ⟨[], rfl⟩ (by simp) (by decide)) (fun b off m c h => by cases h; have := B3.out.lt; omega)).mono ?_
    rintro e w4 ⟨rfl, hT, hB⟩
    replace HB := Lib.hid (below_turns (w := w0) (by repeat (first | exact HB.out | refine below_alloc ?_ _ | refine Below.drew ?_ | refine below_set ?_ (by omega) _)) hB (by first | omega | simp))
    replace B0 : Hid (Blk w4 (pb) 54 #[.pointer (some ⟨eb, 0, none⟩)]) := Lib.hid (Blk.turned (by repeat (first | exact B0.out | exact Blk.new' (by simp; done) | exact Blk.new' rfl | refine Blk.drew ?_ | refine Blk.alloc ?_ _)) hB (by omega))
    replace B1 : Hid (Blk w4 (wb) 3 #[.int .i64 k]) := Lib.hid (Blk.turned (by repeat (first | exact B1.out | exact Blk.new' (by simp; done) | exact Blk.new' rfl | refine Blk.drew ?_ | refine Blk.alloc ?_ _)) hB (by omega))
    replace B2 : Hid (Blk w4 (ab) 25 #[.int .i64 a.lv, .int .u64 (u a.c), .int .i64 a.ig]) := Lib.hid (Blk.turned (by repeat (first | exact B2.out | exact Blk.new' (by simp; done) | exact Blk.new' rfl | refine Blk.drew ?_ | refine Blk.alloc ?_ _)) hB (by omega))
    replace B3 : Hid (Blk w4 (eb) 63 #[.slice (some ⟨g, 0, none⟩) m cap, .int .i64 who, .iface 85 (.agg #[.int .i64 who, .iface 83 (.agg #[.int .i64 n])])]) := Lib.hid hT
    replace B4 : Hid (Blk w4 (g) 41 cs) := Lib.hid (Blk.turned (by repeat (first | exact B4.out | exact Blk.new' (by simp; done) | exact Blk.new' rfl | refine Blk.drew ?_ | refine Blk.alloc ?_ _)) hB (by omega))
    replace B5 : Hid (Blk w4 (g3) 25 #[.int .i64 nx.lv, .int .u64 (u nx.c), .int .i64 nx.ig]) := Lib.hid (Blk.turned (by repeat (first | exact B5.out | exact Blk.new' (by simp; done) | exact Blk.new' rfl | refine Blk.drew ?_ | refine Blk.alloc ?_ _)) hB (by omega))
    clear hT
    clear p0_0 k0_0 k0_1
    clear hB
    go_wp2_with fail
    refine wp_region_gen2 (S := (fun W' => Blk W' (pb) 54 #[.pointer (some ⟨eb, 0, none⟩)] ∧ Blk W' (wb) 3 #[.int .i64 k] ∧ Blk W' (ab) 25 #[.int .i64 a.lv, .int .u64 (u a.c), .int .i64 a.ig] ∧ Blk W' (eb) 63 #[.slice (some ⟨g, 0, none⟩) m cap, .int .i64 who, .iface 85 (.agg #[.int .i64 who, .iface 83 (.agg #[.int .i64 n])])] ∧ Blk W' (g3) 25 #[.int .i64 nx.lv, .int .u64 (u nx.c), .int .i64 nx.ig] ∧ Below w0.heap.size w0 W')) (N := (fun W' => Blk W' (g) 41 cs)) (by kernel_rfl) ⟨(by repeat (first | exact B0.out | exact Blk.new' (by simp; done) | exact Blk.new' rfl | refine Blk.drew ?_ | refine Blk.alloc ?_ _)), (by repeat (first | exact B1.out | exact Blk.new' (by simp; done) | exact Blk.new' rfl | refine Blk.drew ?_ | refine Blk.alloc ?_ _)), (by repeat (first | exact B2.out | exact Blk.new' (by simp; done) | exact Blk.new' rfl | refine Blk.drew ?_ | refine Blk.alloc ?_ _)), (by repeat (first | exact B3.out | exact Blk.new' (by simp; done) | exact Blk.new' rfl | refine Blk.drew ?_ | refine Blk.alloc ?_ _)), (by repeat (first | exact B5.out | exact Blk.new' (by simp; done) | exact Blk.new' rfl | refine Blk.drew ?_ | refine Blk.alloc ?_ _)), (by repeat (first | exact HB.out | refine below_alloc ?_ _ | refine Below.drew ?_ | refine below_set ?_ (by omega) _))⟩ (by repeat (first | exact B4.out | exact Blk.new' (by simp; done) | exact Blk.new' rfl | refine Blk.drew ?_ | refine Blk.alloc ?_ _)) (fun w5 hS hN => ?_)
    have n0 := hN
    have N0 := Lib.hid n0
    have d0_N0 : pb ≠ g := by omega
    have d1_N0 : wb ≠ g := by omega
    have d2_N0 : ab ≠ g := by omega
    have d3_N0 : eb ≠ g := by omega
    have d4_N0 : g3 ≠ g := by omega
    have dd_N0 : w0.heap.size ≤ g := by omega
    clear n0 hN
    refine wpAnyH_take (i := 0) (v := ?_) (op_at rfl) (by kernel_rfl) (by kernel_rfl) (by kernel_rfl) (fun _ _ _ h => h) (Or.inl ⟨by rfl, ?_⟩) hS ?_; rotate_left; focus ((intro w' hSw; obtain ⟨q, -⟩ := hSw; have c0 := q.at_ (i := 0) (v := .pointer (some ⟨eb, 0, none⟩)) rfl; clear q; go_simp) <;> with_reducible rfl)
    try simp only [Act.put, List.setIfInBounds_toArray, List.set_cons_zero, List.set_cons_succ]
    refine wpAnyH_take (i := 1) (v := ?_) (op_at rfl) (by kernel_rfl) (by kernel_rfl) (by kernel_rfl) (fun _ _ _ h => h) (Or.inl ⟨by rfl, ?_⟩) hS ?_; rotate_left; focus ((intro w' hSw; clear hSw; go_simp) <;> with_reducible rfl)
    try simp only [Act.put, List.setIfInBounds_toArray, List.set_cons_zero, List.set_cons_succ]
    refine wpAnyH_take (i := 2) (v := ?_) (op_at rfl) (by kernel_rfl) (by kernel_rfl) (by kernel_rfl) (fun _ _ _ h => h) (Or.inl ⟨by rfl, ?_⟩) hS ?_; rotate_left; focus ((intro w' hSw; clear hSw; go_simp) <;> with_reducible rfl)
    try simp only [Act.put, List.setIfInBounds_toArray, List.set_cons_zero, List.set_cons_succ]
    refine wpAnyH_take (i := 3) (v := ?_) (op_at rfl) (by kernel_rfl) (by kernel_rfl) (by kernel_rfl) (fun _ _ _ h => h) (Or.inl ⟨by rfl, ?_⟩) hS ?_; rotate_left; focus ((intro w' hSw; clear hSw; go_simp) <;> with_reducible rfl)
    try simp only [Act.put, List.setIfInBounds_toArray, List.set_cons_zero, List.set_cons_succ]
    refine wpAnyH_take (i := 4) (v := ?_) (op_at rfl) (by kernel_rfl) (by kernel_rfl) (by kernel_rfl) (fun _ _ _ h => h) (Or.inl ⟨by rfl, ?_⟩) hS ?_; rotate_left; focus ((intro w' hSw; obtain ⟨-, -, -, q, -⟩ := hSw; have c0 := q.at_ (i := 0) (v := .slice (some ⟨g, 0, none⟩) m cap) rfl; clear q; go_simp) <;> with_reducible rfl)
    try simp only [Act.put, List.setIfInBounds_toArray, List.set_cons_zero, List.set_cons_succ]
    refine wpAnyH_take (i := 5) (v := ?_) (op_at rfl) (by kernel_rfl) (by kernel_rfl) (by kernel_rfl) (fun _ _ _ h => h) (Or.inl ⟨by rfl, ?_⟩) hS ?_; rotate_left; focus ((intro w' hSw; obtain ⟨-, q, -⟩ := hSw; have c0 := q.at_ (i := 0) (v := .int .i64 k) rfl; clear q; go_simp) <;> with_reducible rfl)
    try simp only [Act.put, List.setIfInBounds_toArray, List.set_cons_zero, List.set_cons_succ]
    refine wpAnyH_take (i := 6) (v := ?_) (op_at rfl) (by kernel_rfl) (by kernel_rfl) (by kernel_rfl) (fun _ _ _ h => h) (Or.inl ⟨by rfl, ?_⟩) hS ?_; rotate_left; focus ((intro w' hSw; obtain ⟨-, -, -, -, q, -⟩ := hSw; have c0 := q.at_ (i := 0) (v := .int .i64 nx.lv) rfl; have c1 := q.at_ (i := 1) (v := .int .u64 (u nx.c)) rfl; have c2 := q.at_ (i := 2) (v := .int .i64 nx.ig) rfl; clear q; go_simp) <;> with_reducible rfl)
    try simp only [Act.put, List.setIfInBounds_toArray, List.set_cons_zero, List.set_cons_succ]
    refine wpAnyH_take (i := 7) (v := ?_) (op_at rfl) (by kernel_rfl) (by kernel_rfl) (by kernel_rfl) (fun _ _ _ h => h) (Or.inl ⟨by rfl, ?_⟩) hS ?_; rotate_left; focus ((intro w' hSw; clear hSw; go_simp) <;> with_reducible rfl)
    try simp only [Act.put, List.setIfInBounds_toArray, List.set_cons_zero, List.set_cons_succ]
    refine wpAnyH_take (i := 8) (v := ?_) (op_at rfl) (by kernel_rfl) (by kernel_rfl) (by kernel_rfl) (fun _ _ _ h => h) (Or.inl ⟨by rfl, ?_⟩) hS ?_; rotate_left; focus ((intro w' hSw; clear hSw; go_simp) <;> with_reducible rfl)
    try simp only [Act.put, List.setIfInBounds_toArray, List.set_cons_zero, List.set_cons_succ]
    refine wpAnyH_ready (rs := [9]) (by kernel_rfl) (by simp) ?_
    refine (AllReadyH.cons (op_at rfl) (fun K hK => ?_) AllReadyH.nil)
    have p_0 : w5.cell? ⟨g, k * 8 + 2, none⟩ = some (.int .i64 x.cur.lv) := N0.out.at_ HO2.out
    have f_0 : w5.frozen? ⟨g, k * 8 + 2, none⟩ = false := N0.out.frozen _
    have p_1 : w5.cell? ⟨g, k * 8 + 3, none⟩ = some (.int .u64 (u x.cur.c)) := N0.out.at_ HO3.out
    have f_1 : w5.frozen? ⟨g, k * 8 + 3, none⟩ = false := N0.out.frozen _
    have p_2 : w5.cell? ⟨g, k * 8 + 4, none⟩ = some (.int .i64 x.cur.ig) := N0.out.at_ HO4.out
    have f_2 : w5.frozen? ⟨g, k * 8 + 4, none⟩ = false := N0.out.frozen _
    go_simp
    clear p_0 f_0 p_1 f_1 p_2 f_2
    obtain ⟨b0, b1, b2, b3, b4, hb⟩ := hS
    refine hK.out _ _ ⟨(Blk.far (Blk.far (Blk.far b0 d0_N0 _) d0_N0 _) d0_N0 _), (Blk.far (Blk.far (Blk.far b1 d1_N0 _) d1_N0 _) d1_N0 _), (Blk.far (Blk.far (Blk.far b2 d2_N0 _) d2_N0 _) d2_N0 _), (Blk.far (Blk.far (Blk.far b3 d3_N0 _) d3_N0 _) d3_N0 _), (Blk.far (Blk.far (Blk.far b4 d4_N0 _) d4_N0 _) d4_N0 _), (below_set (below_set (below_set hb dd_N0 _) dd_N0 _) dd_N0 _)⟩ (fun hS => ?_)
    replace N0 := Lib.hid (Blk.set' (u := .int .i64 nx.ig) (i := k * 8 + 4) (cs' := (((cs.setIfInBounds (k * 8 + 2) (.int .i64 nx.lv)).setIfInBounds (k * 8 + 3) (.int .u64 (u nx.c))).setIfInBounds (k * 8 + 4) (.int .i64 nx.ig))) (Blk.set' (u := .int .u64 (u nx.c)) (i := k * 8 + 3) (cs' := ((cs.setIfInBounds (k * 8 + 2) (.int .i64 nx.lv)).setIfInBounds (k * 8 + 3) (.int .u64 (u nx.c)))) (Blk.set' (u := .int .i64 nx.lv) (i := k * 8 + 2) (cs' := (cs.setIfInBounds (k * 8 + 2) (.int .i64 nx.lv))) N0.out rfl) rfl) rfl)
    clear hK K b0 b1 b2 b3 b4 hb
    try simp only [Act.put, List.setIfInBounds_toArray, List.set_cons_zero, List.set_cons_succ]
    refine wpAnyH_done (by kernel_rfl) ?_ _
    obtain ⟨b0, b1, b2, b3, b4, hb⟩ := hS
    replace B0 := Lib.hid b0
    clear b0
    replace B1 := Lib.hid b1
    clear b1
    replace B2 := Lib.hid b2
    clear b2
    replace B3 := Lib.hid b3
    clear b3
    replace B5 := Lib.hid b4
    clear b4
    replace B4 := N0
    clear N0
    replace HB := Lib.hid hb
    clear hb
    go_wp2_with fail
    go_end0
    exact ⟨rfl, B3.out, B4.out, HB.out⟩
end

end Go.Proofs.YteepgbkblgcegaaDoor
