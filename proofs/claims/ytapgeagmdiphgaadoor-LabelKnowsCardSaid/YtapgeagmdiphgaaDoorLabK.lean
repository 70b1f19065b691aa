/-
  THE WALK OF THE STATEMENT LabelKnows (printed by wip/genknows.py).
-/
import Derived.Test.YtapgeagmdiphgaaDoorRefC
namespace Go.Proofs.YtapgeagmdiphgaaDoor
open Go.RowKit

attribute [local go_sem] u_and u_or u_andNot u_add u_sub u_bit u_eq_zero u_beq

def RJoinIs (a b x : Lab) (n : Int) : Prop := ∀ W, Calls Tryd.prog 21 #[.agg #[.int .i64 a.lv, .int .u64 (u a.c), .int .i64 a.ig], .agg #[.int .i64 b.lv, .int .u64 (u b.c), .int .i64 b.ig]] W fun e w' => e = .returned (.tuple #[.agg #[.int .i64 x.lv, .int .u64 (u x.c), .int .i64 x.ig], .int .i64 n]) ∧ Below W.heap.size W w'
def RMeetIs (a b x : Lab) (n : Int) : Prop := ∀ W, Calls Tryd.prog 22 #[.agg #[.int .i64 a.lv, .int .u64 (u a.c), .int .i64 a.ig], .agg #[.int .i64 b.lv, .int .u64 (u b.c), .int .i64 b.ig]] W fun e w' => e = .returned (.tuple #[.agg #[.int .i64 x.lv, .int .u64 (u x.c), .int .i64 x.ig], .int .i64 n]) ∧ Below W.heap.size W w'
def RUnderIs (a b : Lab) (r : Bool) : Prop := ∀ W, Calls Tryd.prog 24 #[.agg #[.int .i64 a.lv, .int .u64 (u a.c), .int .i64 a.ig], .agg #[.int .i64 b.lv, .int .u64 (u b.c), .int .i64 b.ig]] W fun e w' => e = .returned (.bool r) ∧ Below W.heap.size W w'
def RCmpIs (a b : Lab) (r : Int) : Prop := ∀ W, Calls Tryd.prog 25 #[.agg #[.int .i64 a.lv, .int .u64 (u a.c), .int .i64 a.ig], .agg #[.int .i64 b.lv, .int .u64 (u b.c), .int .i64 b.ig]] W fun e w' => e = .returned (.int .i64 r) ∧ Below W.heap.size W w'
def LabIs (f : FuncId) (x : Lab) : Prop := ∀ W, Calls Tryd.prog f #[] W fun e w' => e = .returned (.agg #[.int .i64 x.lv, .int .u64 (u x.c), .int .i64 x.ig]) ∧ Below W.heap.size W w'
set_option maxRecDepth 100000 in
set_option maxHeartbeats 8000000 in
theorem knows_core (a b x y bo tp : Lab) (n m t : Int) (r s : Bool) (w : World) (hh : Handle w) (h0 : JoinIs a b x n) (h1 : RJoinIs a b x n) (h2 : MeetIs a b y m) (h3 : RMeetIs a b y m) (h4 : RightIs a r) (h5 : RRightIs a r) (h6 : UnderIs a b s) (h7 : RUnderIs a b s) (h8 : CmpIs a b t) (h9 : RCmpIs a b t) (h10 : LabIs 16 bo) (h11 : LabIs 26 bo) (h12 : LabIs 17 tp) (h13 : LabIs 27 tp) :
    Calls Tryd.prog 10 #[.agg #[.int .i64 a.lv, .int .u64 (u a.c), .int .i64 a.ig], .agg #[.int .i64 b.lv, .int .u64 (u b.c), .int .i64 b.ig]] w (Yes w) := by
  have hEx := eqlIs (eqL_self x)
  have hEy := eqlIs (eqL_self y)
  have hEbo := eqlIs (eqL_self bo)
  have hEtp := eqlIs (eqL_self tp)
  have H0 := Lib.hid h0
  clear h0
  have H1 := Lib.hid h1
  clear h1
  have H2 := Lib.hid h2
  clear h2
  have H3 := Lib.hid h3
  clear h3
  have H4 := Lib.hid h4
  clear h4
  have H5 := Lib.hid h5
  clear h5
  have H6 := Lib.hid h6
  clear h6
  have H7 := Lib.hid h7
  clear h7
  have H8 := Lib.hid h8
  clear h8
  have H9 := Lib.hid h9
  clear h9
  have H10 := Lib.hid h10
  clear h10
  have H11 := Lib.hid h11
  clear h11
  have H12 := Lib.hid h12
  clear h12
  have H13 := Lib.hid h13
  clear h13
  have HH := Lib.hid hh
  clear hh
  have HB := Lib.hid (Below.refl w.heap.size w)
  go_enter Tryd.func10, Tryd.ntmps10
  go_wp2_with fail
  refine (shown_any _ (HH.out.up (by (first | exact HB.out | exact HB.out.drew | exact HB.out.alloc HB.out.size _ | exact (HB.out.alloc HB.out.size _).drew | exact (HB.out.alloc HB.out.size _).alloc (Nat.le_trans HB.out.size (by simp)) _ | exact ((HB.out.alloc HB.out.size _).alloc (Nat.le_trans HB.out.size (by simp)) _).alloc (Nat.le_trans HB.out.size (by simp; omega)) _)))).mono ?_
  rintro e w1 ⟨rfl, hB⟩
  (have HBn : Below w.heap.size w w1 := below_lift (by (first | exact HB.out | exact HB.out.drew | exact HB.out.alloc HB.out.size _ | exact (HB.out.alloc HB.out.size _).drew | exact (HB.out.alloc HB.out.size _).alloc (Nat.le_trans HB.out.size (by simp)) _ | exact ((HB.out.alloc HB.out.size _).alloc (Nat.le_trans HB.out.size (by simp)) _).alloc (Nat.le_trans HB.out.size (by simp; omega)) _)) hB; obtain ⟨hc, hf⟩ := below_cell hB; have zz := hB.size; (try simp at zz); have HB := Lib.hid HBn; clear HBn hB)
  have k0 : w.heap.size < w1.heap.size := by omega
  have m0 : w.heap.size < w1.heap.size + 1 := by omega
  have k1 : w.heap.size + 1 < w1.heap.size := by omega
  have m1 : w.heap.size + 1 < w1.heap.size + 1 := by omega
  go_wp2_with fail
  refine (H0.out _ (HH.out.up (by (first | exact HB.out | exact HB.out.drew | exact HB.out.alloc HB.out.size _ | exact (HB.out.alloc HB.out.size _).drew | exact (HB.out.alloc HB.out.size _).alloc (Nat.le_trans HB.out.size (by simp)) _ | exact ((HB.out.alloc HB.out.size _).alloc (Nat.le_trans HB.out.size (by simp)) _).alloc (Nat.le_trans HB.out.size (by simp; omega)) _)))).mono ?_
  rintro e w2 ⟨rfl, hB⟩
  (have HBn : Below w.heap.size w w2 := below_lift (by (first | exact HB.out | exact HB.out.drew | exact HB.out.alloc HB.out.size _ | exact (HB.out.alloc HB.out.size _).drew | exact (HB.out.alloc HB.out.size _).alloc (Nat.le_trans HB.out.size (by simp)) _ | exact ((HB.out.alloc HB.out.size _).alloc (Nat.le_trans HB.out.size (by simp)) _).alloc (Nat.le_trans HB.out.size (by simp; omega)) _)) hB; obtain ⟨hc, hf⟩ := below_cell hB; have zz := hB.size; (try simp at zz); have HB := Lib.hid HBn; clear HBn hB)
  have k0 : w.heap.size < w2.heap.size := by omega
  have m0 : w.heap.size < w2.heap.size + 1 := by omega
  have k1 : w.heap.size + 1 < w2.heap.size := by omega
  have m1 : w.heap.size + 1 < w2.heap.size + 1 := by omega
  go_wp2_with fail
  refine (H1.out _).mono ?_
  rintro e w3 ⟨rfl, hB⟩
  (have HBn : Below w.heap.size w w3 := below_lift (by (first | exact HB.out | exact HB.out.drew | exact HB.out.alloc HB.out.size _ | exact (HB.out.alloc HB.out.size _).drew | exact (HB.out.alloc HB.out.size _).alloc (Nat.le_trans HB.out.size (by simp)) _ | exact ((HB.out.alloc HB.out.size _).alloc (Nat.le_trans HB.out.size (by simp)) _).alloc (Nat.le_trans HB.out.size (by simp; omega)) _)) hB; obtain ⟨hc, hf⟩ := below_cell hB; have zz := hB.size; (try simp at zz); have HB := Lib.hid HBn; clear HBn hB)
  have k0 : w.heap.size < w3.heap.size := by omega
  have m0 : w.heap.size < w3.heap.size + 1 := by omega
  have k1 : w.heap.size + 1 < w3.heap.size := by omega
  have m1 : w.heap.size + 1 < w3.heap.size + 1 := by omega
  have k2 : w2.heap.size < w3.heap.size := by omega
  have m2 : w2.heap.size < w3.heap.size + 1 := by omega
  go_wp2_with fail
  refine (H2.out _ (HH.out.up (by (first | exact HB.out | exact HB.out.drew | exact HB.out.alloc HB.out.size _ | exact (HB.out.alloc HB.out.size _).drew | exact (HB.out.alloc HB.out.size _).alloc (Nat.le_trans HB.out.size (by simp)) _ | exact ((HB.out.alloc HB.out.size _).alloc (Nat.le_trans HB.out.size (by simp)) _).alloc (Nat.le_trans HB.out.size (by simp; omega)) _)))).mono ?_
  rintro e w4 ⟨rfl, hB⟩
  (have HBn : Below w.heap.size w w4 := below_lift (by (first | exact HB.out | exact HB.out.drew | exact HB.out.alloc HB.out.size _ | exact (HB.out.alloc HB.out.size _).drew | exact (HB.out.alloc HB.out.size _).alloc (Nat.le_trans HB.out.size (by simp)) _ | exact ((HB.out.alloc HB.out.size _).alloc (Nat.le_trans HB.out.size (by simp)) _).alloc (Nat.le_trans HB.out.size (by simp; omega)) _)) hB; obtain ⟨hc, hf⟩ := below_cell hB; have zz := hB.size; (try simp at zz); have HB := Lib.hid HBn; clear HBn hB)
  have k0 : w.heap.size < w4.heap.size := by omega
  have m0 : w.heap.size < w4.heap.size + 1 := by omega
  have k1 : w.heap.size + 1 < w4.heap.size := by omega
  have m1 : w.heap.size + 1 < w4.heap.size + 1 := by omega
  have k2 : w2.heap.size < w4.heap.size := by omega
  have m2 : w2.heap.size < w4.heap.size + 1 := by omega
  have k3 : w3.heap.size < w4.heap.size := by omega
  have m3 : w3.heap.size < w4.heap.size + 1 := by omega
  go_wp2_with fail
  refine (H3.out _).mono ?_
  rintro e w5 ⟨rfl, hB⟩
  (have HBn : Below w.heap.size w w5 := below_lift (by (first | exact HB.out | exact HB.out.drew | exact HB.out.alloc HB.out.size _ | exact (HB.out.alloc HB.out.size _).drew | exact (HB.out.alloc HB.out.size _).alloc (Nat.le_trans HB.out.size (by simp)) _ | exact ((HB.out.alloc HB.out.size _).alloc (Nat.le_trans HB.out.size (by simp)) _).alloc (Nat.le_trans HB.out.size (by simp; omega)) _)) hB; obtain ⟨hc, hf⟩ := below_cell hB; have zz := hB.size; (try simp at zz); have HB := Lib.hid HBn; clear HBn hB)
  have k0 : w.heap.size < w5.heap.size := by omega
  have m0 : w.heap.size < w5.heap.size + 1 := by omega
  have k1 : w.heap.size + 1 < w5.heap.size := by omega
  have m1 : w.heap.size + 1 < w5.heap.size + 1 := by omega
  have k2 : w2.heap.size < w5.heap.size := by omega
  have m2 : w2.heap.size < w5.heap.size + 1 := by omega
  have k3 : w3.heap.size < w5.heap.size := by omega
  have m3 : w3.heap.size < w5.heap.size + 1 := by omega
  have k4 : w4.heap.size < w5.heap.size := by omega
  have m4 : w4.heap.size < w5.heap.size + 1 := by omega
  go_wp2_with fail
  have p0 : (w5.alloc (.cells #[.int .i64 y.lv, .int .u64 (u y.c), .int .i64 y.ig] 24)).cell? ⟨w.heap.size, 0, none⟩ = some (.int .i64 a.lv) := by go_simp
  have p1 : (w5.alloc (.cells #[.int .i64 y.lv, .int .u64 (u y.c), .int .i64 y.ig] 24)).cell? ⟨w.heap.size, 1, none⟩ = some (.int .u64 (u a.c)) := by go_simp
  have p2 : (w5.alloc (.cells #[.int .i64 y.lv, .int .u64 (u y.c), .int .i64 y.ig] 24)).cell? ⟨w.heap.size, 2, none⟩ = some (.int .i64 a.ig) := by go_simp
  have p3 : (w5.alloc (.cells #[.int .i64 y.lv, .int .u64 (u y.c), .int .i64 y.ig] 24)).cell? ⟨w.heap.size + 1, 0, none⟩ = some (.int .i64 b.lv) := by go_simp
  have p4 : (w5.alloc (.cells #[.int .i64 y.lv, .int .u64 (u y.c), .int .i64 y.ig] 24)).cell? ⟨w.heap.size + 1, 1, none⟩ = some (.int .u64 (u b.c)) := by go_simp
  have p5 : (w5.alloc (.cells #[.int .i64 y.lv, .int .u64 (u y.c), .int .i64 y.ig] 24)).cell? ⟨w.heap.size + 1, 2, none⟩ = some (.int .i64 b.ig) := by go_simp
  have p6 : (w5.alloc (.cells #[.int .i64 y.lv, .int .u64 (u y.c), .int .i64 y.ig] 24)).cell? ⟨w2.heap.size, 0, none⟩ = some (.int .i64 x.lv) := by go_simp
  have p7 : (w5.alloc (.cells #[.int .i64 y.lv, .int .u64 (u y.c), .int .i64 y.ig] 24)).cell? ⟨w2.heap.size, 1, none⟩ = some (.int .u64 (u x.c)) := by go_simp
  have p8 : (w5.alloc (.cells #[.int .i64 y.lv, .int .u64 (u y.c), .int .i64 y.ig] 24)).cell? ⟨w2.heap.size, 2, none⟩ = some (.int .i64 x.ig) := by go_simp
  have p9 : (w5.alloc (.cells #[.int .i64 y.lv, .int .u64 (u y.c), .int .i64 y.ig] 24)).cell? ⟨w3.heap.size, 0, none⟩ = some (.int .i64 x.lv) := by go_simp
  have p10 : (w5.alloc (.cells #[.int .i64 y.lv, .int .u64 (u y.c), .int .i64 y.ig] 24)).cell? ⟨w3.heap.size, 1, none⟩ = some (.int .u64 (u x.c)) := by go_simp
  have p11 : (w5.alloc (.cells #[.int .i64 y.lv, .int .u64 (u y.c), .int .i64 y.ig] 24)).cell? ⟨w3.heap.size, 2, none⟩ = some (.int .i64 x.ig) := by go_simp
  have p12 : (w5.alloc (.cells #[.int .i64 y.lv, .int .u64 (u y.c), .int .i64 y.ig] 24)).cell? ⟨w4.heap.size, 0, none⟩ = some (.int .i64 y.lv) := by go_simp
  have p13 : (w5.alloc (.cells #[.int .i64 y.lv, .int .u64 (u y.c), .int .i64 y.ig] 24)).cell? ⟨w4.heap.size, 1, none⟩ = some (.int .u64 (u y.c)) := by go_simp
  have p14 : (w5.alloc (.cells #[.int .i64 y.lv, .int .u64 (u y.c), .int .i64 y.ig] 24)).cell? ⟨w4.heap.size, 2, none⟩ = some (.int .i64 y.ig) := by go_simp
  have p15 : (w5.alloc (.cells #[.int .i64 y.lv, .int .u64 (u y.c), .int .i64 y.ig] 24)).cell? ⟨w5.heap.size, 0, none⟩ = some (.int .i64 y.lv) := by go_simp
  have p16 : (w5.alloc (.cells #[.int .i64 y.lv, .int .u64 (u y.c), .int .i64 y.ig] 24)).cell? ⟨w5.heap.size, 1, none⟩ = some (.int .u64 (u y.c)) := by go_simp
  have p17 : (w5.alloc (.cells #[.int .i64 y.lv, .int .u64 (u y.c), .int .i64 y.ig] 24)).cell? ⟨w5.heap.size, 2, none⟩ = some (.int .i64 y.ig) := by go_simp
  have z0 : w.heap.size < (w5.alloc (.cells #[.int .i64 y.lv, .int .u64 (u y.c), .int .i64 y.ig] 24)).heap.size := by simp <;> omega
  have z1 : w.heap.size + 1 < (w5.alloc (.cells #[.int .i64 y.lv, .int .u64 (u y.c), .int .i64 y.ig] 24)).heap.size := by simp <;> omega
  have z2 : w2.heap.size < (w5.alloc (.cells #[.int .i64 y.lv, .int .u64 (u y.c), .int .i64 y.ig] 24)).heap.size := by simp <;> omega
  have z3 : w3.heap.size < (w5.alloc (.cells #[.int .i64 y.lv, .int .u64 (u y.c), .int .i64 y.ig] 24)).heap.size := by simp <;> omega
  have z4 : w4.heap.size < (w5.alloc (.cells #[.int .i64 y.lv, .int .u64 (u y.c), .int .i64 y.ig] 24)).heap.size := by simp <;> omega
  have z5 : w5.heap.size < (w5.alloc (.cells #[.int .i64 y.lv, .int .u64 (u y.c), .int .i64 y.ig] 24)).heap.size := by simp <;> omega
  have HBn : Below w.heap.size w (w5.alloc (.cells #[.int .i64 y.lv, .int .u64 (u y.c), .int .i64 y.ig] 24)) := by (first | exact HB.out | exact HB.out.drew | exact HB.out.alloc HB.out.size _ | exact (HB.out.alloc HB.out.size _).drew | exact (HB.out.alloc HB.out.size _).alloc (Nat.le_trans HB.out.size (by simp)) _ | exact ((HB.out.alloc HB.out.size _).alloc (Nat.le_trans HB.out.size (by simp)) _).alloc (Nat.le_trans HB.out.size (by simp; omega)) _)
  generalize (w5.alloc (.cells #[.int .i64 y.lv, .int .u64 (u y.c), .int .i64 y.ig] 24)) = w6 at *
  have HB := Lib.hid HBn
--REGION
  refine wp_region_held_drew (S := (fun w' => w'.cell? ⟨w.heap.size, 0, none⟩ = some (.int .i64 a.lv) ∧ w'.cell? ⟨w.heap.size, 1, none⟩ = some (.int .u64 (u a.c)) ∧ w'.cell? ⟨w.heap.size, 2, none⟩ = some (.int .i64 a.ig) ∧ w'.cell? ⟨w.heap.size + 1, 0, none⟩ = some (.int .i64 b.lv) ∧ w'.cell? ⟨w.heap.size + 1, 1, none⟩ = some (.int .u64 (u b.c)) ∧ w'.cell? ⟨w.heap.size + 1, 2, none⟩ = some (.int .i64 b.ig) ∧ w'.cell? ⟨w2.heap.size, 0, none⟩ = some (.int .i64 x.lv) ∧ w'.cell? ⟨w2.heap.size, 1, none⟩ = some (.int .u64 (u x.c)) ∧ w'.cell? ⟨w2.heap.size, 2, none⟩ = some (.int .i64 x.ig) ∧ w'.cell? ⟨w3.heap.size, 0, none⟩ = some (.int .i64 x.lv) ∧ w'.cell? ⟨w3.heap.size, 1, none⟩ = some (.int .u64 (u x.c)) ∧ w'.cell? ⟨w3.heap.size, 2, none⟩ = some (.int .i64 x.ig) ∧ w'.cell? ⟨w4.heap.size, 0, none⟩ = some (.int .i64 y.lv) ∧ w'.cell? ⟨w4.heap.size, 1, none⟩ = some (.int .u64 (u y.c)) ∧ w'.cell? ⟨w4.heap.size, 2, none⟩ = some (.int .i64 y.ig) ∧ w'.cell? ⟨w5.heap.size, 0, none⟩ = some (.int .i64 y.lv) ∧ w'.cell? ⟨w5.heap.size, 1, none⟩ = some (.int .u64 (u y.c)) ∧ w'.cell? ⟨w5.heap.size, 2, none⟩ = some (.int .i64 y.ig))) (by kernel_rfl) (⟨p0, p1, p2, p3, p4, p5, p6, p7, p8, p9, p10, p11, p12, p13, p14, p15, p16, p17⟩) (fun hHeld => ?_)
  (refine wpAnyH_take (i := 0) (v := ?_) (at_drop rfl) (by kernel_rfl) (by kernel_rfl) (by kernel_rfl) (fun _ _ _ h => h) (Or.inl ⟨by rfl, ?_⟩) (by assumption) ?_; rotate_left; focus ((intro w' hSw; (try dsimp only at hSw); go_simp) <;> with_reducible rfl))
  try simp only [Act.put, List.setIfInBounds_toArray, List.set_cons_zero, List.set_cons_succ]
  (refine wpAnyH_take (i := 1) (v := ?_) (at_drop rfl) (by kernel_rfl) (by kernel_rfl) (by kernel_rfl) (fun _ _ _ h => h) (Or.inl ⟨by rfl, ?_⟩) (by assumption) ?_; rotate_left; focus ((intro w' hSw; (try dsimp only at hSw); go_simp) <;> with_reducible rfl))
  try simp only [Act.put, List.setIfInBounds_toArray, List.set_cons_zero, List.set_cons_succ]
  (refine wpAnyH_take (i := 2) (v := ?_) (at_drop rfl) (by kernel_rfl) (by kernel_rfl) (by kernel_rfl) (fun _ _ _ h => h) (Or.inl ⟨by rfl, ?_⟩) (by assumption) ?_; rotate_left; focus ((intro w' hSw; (try dsimp only at hSw); go_simp) <;> with_reducible rfl))
  try simp only [Act.put, List.setIfInBounds_toArray, List.set_cons_zero, List.set_cons_succ]
  (refine wpAnyH_take (i := 4) (v := ?_) (at_drop rfl) (by kernel_rfl) (by kernel_rfl) (by kernel_rfl) (fun _ _ _ h => h) (Or.inl ⟨by rfl, ?_⟩) (by assumption) ?_; rotate_left; focus ((intro w' hSw; (try dsimp only at hSw); go_simp) <;> with_reducible rfl))
  try simp only [Act.put, List.setIfInBounds_toArray, List.set_cons_zero, List.set_cons_succ]
  refine wpAnyH_ready (rs := [3]) (by kernel_rfl) (by simp) ?_
  refine AllReadyH.cons (at_drop rfl) (fun K hK => ?_) AllReadyH.nil
  go_simp
  refine (H4.out _).mono ?_
  rintro e wn ⟨rfl, hB⟩
  (have HBn : Below w.heap.size w wn := below_lift (by (first | exact HB.out | exact HB.out.drew | exact HB.out.alloc HB.out.size _ | exact (HB.out.alloc HB.out.size _).drew | exact (HB.out.alloc HB.out.size _).alloc (Nat.le_trans HB.out.size (by simp)) _ | exact ((HB.out.alloc HB.out.size _).alloc (Nat.le_trans HB.out.size (by simp)) _).alloc (Nat.le_trans HB.out.size (by simp; omega)) _)) hB; obtain ⟨hc, hf⟩ := below_cell hB; have zz := hB.size; (try simp at zz); have HB := Lib.hid HBn; clear HBn hB)
  have p0 := (hc (w.heap.size) 0 (by first | omega | (simp; omega))).trans p0
  have p1 := (hc (w.heap.size) 1 (by first | omega | (simp; omega))).trans p1
  have p2 := (hc (w.heap.size) 2 (by first | omega | (simp; omega))).trans p2
  have p3 := (hc (w.heap.size + 1) 0 (by first | omega | (simp; omega))).trans p3
  have p4 := (hc (w.heap.size + 1) 1 (by first | omega | (simp; omega))).trans p4
  have p5 := (hc (w.heap.size + 1) 2 (by first | omega | (simp; omega))).trans p5
  have p6 := (hc (w2.heap.size) 0 (by first | omega | (simp; omega))).trans p6
  have p7 := (hc (w2.heap.size) 1 (by first | omega | (simp; omega))).trans p7
  have p8 := (hc (w2.heap.size) 2 (by first | omega | (simp; omega))).trans p8
  have p9 := (hc (w3.heap.size) 0 (by first | omega | (simp; omega))).trans p9
  have p10 := (hc (w3.heap.size) 1 (by first | omega | (simp; omega))).trans p10
  have p11 := (hc (w3.heap.size) 2 (by first | omega | (simp; omega))).trans p11
  have p12 := (hc (w4.heap.size) 0 (by first | omega | (simp; omega))).trans p12
  have p13 := (hc (w4.heap.size) 1 (by first | omega | (simp; omega))).trans p13
  have p14 := (hc (w4.heap.size) 2 (by first | omega | (simp; omega))).trans p14
  have p15 := (hc (w5.heap.size) 0 (by first | omega | (simp; omega))).trans p15
  have p16 := (hc (w5.heap.size) 1 (by first | omega | (simp; omega))).trans p16
  have p17 := (hc (w5.heap.size) 2 (by first | omega | (simp; omega))).trans p17
  clear hc hf
  have z0 : w.heap.size < wn.heap.size := by omega
  have z1 : w.heap.size + 1 < wn.heap.size := by omega
  have z2 : w2.heap.size < wn.heap.size := by omega
  have z3 : w3.heap.size < wn.heap.size := by omega
  have z4 : w4.heap.size < wn.heap.size := by omega
  have z5 : w5.heap.size < wn.heap.size := by omega
  refine hK.out _ _ (⟨p0, p1, p2, p3, p4, p5, p6, p7, p8, p9, p10, p11, p12, p13, p14, p15, p16, p17⟩) (fun hHeld => ?_)
  clear hK K
  try simp only [Act.put, List.setIfInBounds_toArray, List.set_cons_zero, List.set_cons_succ]
  refine wpAnyH_ready (rs := [5]) (by kernel_rfl) (by simp) ?_
  refine AllReadyH.cons (at_drop rfl) (fun K hK => ?_) AllReadyH.nil
  go_simp
  refine (H5.out _).mono ?_
  rintro e wn ⟨rfl, hB⟩
  (have HBn : Below w.heap.size w wn := below_lift (by (first | exact HB.out | exact HB.out.drew | exact HB.out.alloc HB.out.size _ | exact (HB.out.alloc HB.out.size _).drew | exact (HB.out.alloc HB.out.size _).alloc (Nat.le_trans HB.out.size (by simp)) _ | exact ((HB.out.alloc HB.out.size _).alloc (Nat.le_trans HB.out.size (by simp)) _).alloc (Nat.le_trans HB.out.size (by simp; omega)) _)) hB; obtain ⟨hc, hf⟩ := below_cell hB; have zz := hB.size; (try simp at zz); have HB := Lib.hid HBn; clear HBn hB)
  have p0 := (hc (w.heap.size) 0 (by first | omega | (simp; omega))).trans p0
  have p1 := (hc (w.heap.size) 1 (by first | omega | (simp; omega))).trans p1
  have p2 := (hc (w.heap.size) 2 (by first | omega | (simp; omega))).trans p2
  have p3 := (hc (w.heap.size + 1) 0 (by first | omega | (simp; omega))).trans p3
  have p4 := (hc (w.heap.size + 1) 1 (by first | omega | (simp; omega))).trans p4
  have p5 := (hc (w.heap.size + 1) 2 (by first | omega | (simp; omega))).trans p5
  have p6 := (hc (w2.heap.size) 0 (by first | omega | (simp; omega))).trans p6
  have p7 := (hc (w2.heap.size) 1 (by first | omega | (simp; omega))).trans p7
  have p8 := (hc (w2.heap.size) 2 (by first | omega | (simp; omega))).trans p8
  have p9 := (hc (w3.heap.size) 0 (by first | omega | (simp; omega))).trans p9
  have p10 := (hc (w3.heap.size) 1 (by first | omega | (simp; omega))).trans p10
  have p11 := (hc (w3.heap.size) 2 (by first | omega | (simp; omega))).trans p11
  have p12 := (hc (w4.heap.size) 0 (by first | omega | (simp; omega))).trans p12
  have p13 := (hc (w4.heap.size) 1 (by first | omega | (simp; omega))).trans p13
  have p14 := (hc (w4.heap.size) 2 (by first | omega | (simp; omega))).trans p14
  have p15 := (hc (w5.heap.size) 0 (by first | omega | (simp; omega))).trans p15
  have p16 := (hc (w5.heap.size) 1 (by first | omega | (simp; omega))).trans p16
  have p17 := (hc (w5.heap.size) 2 (by first | omega | (simp; omega))).trans p17
  clear hc hf
  have z0 : w.heap.size < wn.heap.size := by omega
  have z1 : w.heap.size + 1 < wn.heap.size := by omega
  have z2 : w2.heap.size < wn.heap.size := by omega
  have z3 : w3.heap.size < wn.heap.size := by omega
  have z4 : w4.heap.size < wn.heap.size := by omega
  have z5 : w5.heap.size < wn.heap.size := by omega
  refine hK.out _ _ (⟨p0, p1, p2, p3, p4, p5, p6, p7, p8, p9, p10, p11, p12, p13, p14, p15, p16, p17⟩) (fun hHeld => ?_)
  clear hK K
  try simp only [Act.put, List.setIfInBounds_toArray, List.set_cons_zero, List.set_cons_succ]
  (refine wpAnyH_take (i := 6) (v := ?_) (at_drop rfl) (by kernel_rfl) (by kernel_rfl) (by kernel_rfl) (fun _ _ _ h => h) (Or.inl ⟨by rfl, ?_⟩) (by assumption) ?_; rotate_left; focus ((intro w' hSw; (try dsimp only at hSw); go_simp) <;> with_reducible rfl))
  try simp only [Act.put, List.setIfInBounds_toArray, List.set_cons_zero, List.set_cons_succ]
  (refine wpAnyH_take (i := 7) (v := ?_) (at_drop rfl) (by kernel_rfl) (by kernel_rfl) (by kernel_rfl) (fun _ _ _ h => h) (Or.inl ⟨by rfl, ?_⟩) (by assumption) ?_; rotate_left; focus ((intro w' hSw; (try dsimp only at hSw); go_simp) <;> with_reducible rfl))
  try simp only [Act.put, List.setIfInBounds_toArray, List.set_cons_zero, List.set_cons_succ]
  (refine wpAnyH_take (i := 8) (v := ?_) (at_drop rfl) (by kernel_rfl) (by kernel_rfl) (by kernel_rfl) (fun _ _ _ h => h) (Or.inl ⟨by rfl, ?_⟩) (by assumption) ?_; rotate_left; focus ((intro w' hSw; (try dsimp only at hSw); go_simp) <;> with_reducible rfl))
  try simp only [Act.put, List.setIfInBounds_toArray, List.set_cons_zero, List.set_cons_succ]
  (refine wpAnyH_take (i := 9) (v := ?_) (at_drop rfl) (by kernel_rfl) (by kernel_rfl) (by kernel_rfl) (fun _ _ _ h => h) (Or.inl ⟨by rfl, ?_⟩) (by assumption) ?_; rotate_left; focus ((intro w' hSw; (try dsimp only at hSw); go_simp) <;> with_reducible rfl))
  try simp only [Act.put, List.setIfInBounds_toArray, List.set_cons_zero, List.set_cons_succ]
  (refine wpAnyH_take (i := 10) (v := ?_) (at_drop rfl) (by kernel_rfl) (by kernel_rfl) (by kernel_rfl) (fun _ _ _ h => h) (Or.inl ⟨by rfl, ?_⟩) (by assumption) ?_; rotate_left; focus ((intro w' hSw; (try dsimp only at hSw); go_simp) <;> with_reducible rfl))
  try simp only [Act.put, List.setIfInBounds_toArray, List.set_cons_zero, List.set_cons_succ]
  (refine wpAnyH_take (i := 12) (v := ?_) (at_drop rfl) (by kernel_rfl) (by kernel_rfl) (by kernel_rfl) (fun _ _ _ h => h) (Or.inl ⟨by rfl, ?_⟩) (by assumption) ?_; rotate_left; focus ((intro w' hSw; (try dsimp only at hSw); go_simp) <;> with_reducible rfl))
  try simp only [Act.put, List.setIfInBounds_toArray, List.set_cons_zero, List.set_cons_succ]
  (refine wpAnyH_take (i := 13) (v := ?_) (at_drop rfl) (by kernel_rfl) (by kernel_rfl) (by kernel_rfl) (fun _ _ _ h => h) (Or.inl ⟨by rfl, ?_⟩) (by assumption) ?_; rotate_left; focus ((intro w' hSw; (try dsimp only at hSw); go_simp) <;> with_reducible rfl))
  try simp only [Act.put, List.setIfInBounds_toArray, List.set_cons_zero, List.set_cons_succ]
  refine wpAnyH_ready (rs := [11]) (by kernel_rfl) (by simp) ?_
  refine AllReadyH.cons (at_drop rfl) (fun K hK => ?_) AllReadyH.nil
  go_simp
  refine (H6.out _).mono ?_
  rintro e wn ⟨rfl, hB⟩
  (have HBn : Below w.heap.size w wn := below_lift (by (first | exact HB.out | exact HB.out.drew | exact HB.out.alloc HB.out.size _ | exact (HB.out.alloc HB.out.size _).drew | exact (HB.out.alloc HB.out.size _).alloc (Nat.le_trans HB.out.size (by simp)) _ | exact ((HB.out.alloc HB.out.size _).alloc (Nat.le_trans HB.out.size (by simp)) _).alloc (Nat.le_trans HB.out.size (by simp; omega)) _)) hB; obtain ⟨hc, hf⟩ := below_cell hB; have zz := hB.size; (try simp at zz); have HB := Lib.hid HBn; clear HBn hB)
  have p0 := (hc (w.heap.size) 0 (by first | omega | (simp; omega))).trans p0
  have p1 := (hc (w.heap.size) 1 (by first | omega | (simp; omega))).trans p1
  have p2 := (hc (w.heap.size) 2 (by first | omega | (simp; omega))).trans p2
  have p3 := (hc (w.heap.size + 1) 0 (by first | omega | (simp; omega))).trans p3
  have p4 := (hc (w.heap.size + 1) 1 (by first | omega | (simp; omega))).trans p4
  have p5 := (hc (w.heap.size + 1) 2 (by first | omega | (simp; omega))).trans p5
  have p6 := (hc (w2.heap.size) 0 (by first | omega | (simp; omega))).trans p6
  have p7 := (hc (w2.heap.size) 1 (by first | omega | (simp; omega))).trans p7
  have p8 := (hc (w2.heap.size) 2 (by first | omega | (simp; omega))).trans p8
  have p9 := (hc (w3.heap.size) 0 (by first | omega | (simp; omega))).trans p9
  have p10 := (hc (w3.heap.size) 1 (by first | omega | (simp; omega))).trans p10
  have p11 := (hc (w3.heap.size) 2 (by first | omega | (simp; omega))).trans p11
  have p12 := (hc (w4.heap.size) 0 (by first | omega | (simp; omega))).trans p12
  have p13 := (hc (w4.heap.size) 1 (by first | omega | (simp; omega))).trans p13
  have p14 := (hc (w4.heap.size) 2 (by first | omega | (simp; omega))).trans p14
  have p15 := (hc (w5.heap.size) 0 (by first | omega | (simp; omega))).trans p15
  have p16 := (hc (w5.heap.size) 1 (by first | omega | (simp; omega))).trans p16
  have p17 := (hc (w5.heap.size) 2 (by first | omega | (simp; omega))).trans p17
  clear hc hf
  have z0 : w.heap.size < wn.heap.size := by omega
  have z1 : w.heap.size + 1 < wn.heap.size := by omega
  have z2 : w2.heap.size < wn.heap.size := by omega
  have z3 : w3.heap.size < wn.heap.size := by omega
  have z4 : w4.heap.size < wn.heap.size := by omega
  have z5 : w5.heap.size < wn.heap.size := by omega
  refine hK.out _ _ (⟨p0, p1, p2, p3, p4, p5, p6, p7, p8, p9, p10, p11, p12, p13, p14, p15, p16, p17⟩) (fun hHeld => ?_)
  clear hK K
  try simp only [Act.put, List.setIfInBounds_toArray, List.set_cons_zero, List.set_cons_succ]
  refine wpAnyH_ready (rs := [14]) (by kernel_rfl) (by simp) ?_
  refine AllReadyH.cons (at_drop rfl) (fun K hK => ?_) AllReadyH.nil
  go_simp
  refine (H7.out _).mono ?_
  rintro e wn ⟨rfl, hB⟩
  (have HBn : Below w.heap.size w wn := below_lift (by (first | exact HB.out | exact HB.out.drew | exact HB.out.alloc HB.out.size _ | exact (HB.out.alloc HB.out.size _).drew | exact (HB.out.alloc HB.out.size _).alloc (Nat.le_trans HB.out.size (by simp)) _ | exact ((HB.out.alloc HB.out.size _).alloc (Nat.le_trans HB.out.size (by simp)) _).alloc (Nat.le_trans HB.out.size (by simp; omega)) _)) hB; obtain ⟨hc, hf⟩ := below_cell hB; have zz := hB.size; (try simp at zz); have HB := Lib.hid HBn; clear HBn hB)
  have p0 := (hc (w.heap.size) 0 (by first | omega | (simp; omega))).trans p0
  have p1 := (hc (w.heap.size) 1 (by first | omega | (simp; omega))).trans p1
  have p2 := (hc (w.heap.size) 2 (by first | omega | (simp; omega))).trans p2
  have p3 := (hc (w.heap.size + 1) 0 (by first | omega | (simp; omega))).trans p3
  have p4 := (hc (w.heap.size + 1) 1 (by first | omega | (simp; omega))).trans p4
  have p5 := (hc (w.heap.size + 1) 2 (by first | omega | (simp; omega))).trans p5
  have p6 := (hc (w2.heap.size) 0 (by first | omega | (simp; omega))).trans p6
  have p7 := (hc (w2.heap.size) 1 (by first | omega | (simp; omega))).trans p7
  have p8 := (hc (w2.heap.size) 2 (by first | omega | (simp; omega))).trans p8
  have p9 := (hc (w3.heap.size) 0 (by first | omega | (simp; omega))).trans p9
  have p10 := (hc (w3.heap.size) 1 (by first | omega | (simp; omega))).trans p10
  have p11 := (hc (w3.heap.size) 2 (by first | omega | (simp; omega))).trans p11
  have p12 := (hc (w4.heap.size) 0 (by first | omega | (simp; omega))).trans p12
  have p13 := (hc (w4.heap.size) 1 (by first | omega | (simp; omega))).trans p13
  have p14 := (hc (w4.heap.size) 2 (by first | omega | (simp; omega))).trans p14
  have p15 := (hc (w5.heap.size) 0 (by first | omega | (simp; omega))).trans p15
  have p16 := (hc (w5.heap.size) 1 (by first | omega | (simp; omega))).trans p16
  have p17 := (hc (w5.heap.size) 2 (by first | omega | (simp; omega))).trans p17
  clear hc hf
  have z0 : w.heap.size < wn.heap.size := by omega
  have z1 : w.heap.size + 1 < wn.heap.size := by omega
  have z2 : w2.heap.size < wn.heap.size := by omega
  have z3 : w3.heap.size < wn.heap.size := by omega
  have z4 : w4.heap.size < wn.heap.size := by omega
  have z5 : w5.heap.size < wn.heap.size := by omega
  refine hK.out _ _ (⟨p0, p1, p2, p3, p4, p5, p6, p7, p8, p9, p10, p11, p12, p13, p14, p15, p16, p17⟩) (fun hHeld => ?_)
  clear hK K
  try simp only [Act.put, List.setIfInBounds_toArray, List.set_cons_zero, List.set_cons_succ]
  (refine wpAnyH_take (i := 15) (v := ?_) (at_drop rfl) (by kernel_rfl) (by kernel_rfl) (by kernel_rfl) (fun _ _ _ h => h) (Or.inl ⟨by rfl, ?_⟩) (by assumption) ?_; rotate_left; focus ((intro w' hSw; (try dsimp only at hSw); go_simp) <;> with_reducible rfl))
  try simp only [Act.put, List.setIfInBounds_toArray, List.set_cons_zero, List.set_cons_succ]
  (refine wpAnyH_take (i := 16) (v := ?_) (at_drop rfl) (by kernel_rfl) (by kernel_rfl) (by kernel_rfl) (fun _ _ _ h => h) (Or.inl ⟨by rfl, ?_⟩) (by assumption) ?_; rotate_left; focus ((intro w' hSw; (try dsimp only at hSw); go_simp) <;> with_reducible rfl))
  try simp only [Act.put, List.setIfInBounds_toArray, List.set_cons_zero, List.set_cons_succ]
  (refine wpAnyH_take (i := 17) (v := ?_) (at_drop rfl) (by kernel_rfl) (by kernel_rfl) (by kernel_rfl) (fun _ _ _ h => h) (Or.inl ⟨by rfl, ?_⟩) (by assumption) ?_; rotate_left; focus ((intro w' hSw; (try dsimp only at hSw); go_simp) <;> with_reducible rfl))
  try simp only [Act.put, List.setIfInBounds_toArray, List.set_cons_zero, List.set_cons_succ]
  (refine wpAnyH_take (i := 18) (v := ?_) (at_drop rfl) (by kernel_rfl) (by kernel_rfl) (by kernel_rfl) (fun _ _ _ h => h) (Or.inl ⟨by rfl, ?_⟩) (by assumption) ?_; rotate_left; focus ((intro w' hSw; (try dsimp only at hSw); go_simp) <;> with_reducible rfl))
  try simp only [Act.put, List.setIfInBounds_toArray, List.set_cons_zero, List.set_cons_succ]
  (refine wpAnyH_take (i := 19) (v := ?_) (at_drop rfl) (by kernel_rfl) (by kernel_rfl) (by kernel_rfl) (fun _ _ _ h => h) (Or.inl ⟨by rfl, ?_⟩) (by assumption) ?_; rotate_left; focus ((intro w' hSw; (try dsimp only at hSw); go_simp) <;> with_reducible rfl))
  try simp only [Act.put, List.setIfInBounds_toArray, List.set_cons_zero, List.set_cons_succ]
  (refine wpAnyH_take (i := 20) (v := ?_) (at_drop rfl) (by kernel_rfl) (by kernel_rfl) (by kernel_rfl) (fun _ _ _ h => h) (Or.inl ⟨by rfl, ?_⟩) (by assumption) ?_; rotate_left; focus ((intro w' hSw; (try dsimp only at hSw); go_simp) <;> with_reducible rfl))
  try simp only [Act.put, List.setIfInBounds_toArray, List.set_cons_zero, List.set_cons_succ]
  (refine wpAnyH_take (i := 21) (v := ?_) (at_drop rfl) (by kernel_rfl) (by kernel_rfl) (by kernel_rfl) (fun _ _ _ h => h) (Or.inl ⟨by rfl, ?_⟩) (by assumption) ?_; rotate_left; focus ((intro w' hSw; (try dsimp only at hSw); go_simp) <;> with_reducible rfl))
  try simp only [Act.put, List.setIfInBounds_toArray, List.set_cons_zero, List.set_cons_succ]
  (refine wpAnyH_take (i := 22) (v := ?_) (at_drop rfl) (by kernel_rfl) (by kernel_rfl) (by kernel_rfl) (fun _ _ _ h => h) (Or.inl ⟨by rfl, ?_⟩) (by assumption) ?_; rotate_left; focus ((intro w' hSw; (try dsimp only at hSw); go_simp) <;> with_reducible rfl))
  try simp only [Act.put, List.setIfInBounds_toArray, List.set_cons_zero, List.set_cons_succ]
  (refine wpAnyH_take (i := 23) (v := ?_) (at_drop rfl) (by kernel_rfl) (by kernel_rfl) (by kernel_rfl) (fun _ _ _ h => h) (Or.inl ⟨by rfl, ?_⟩) (by assumption) ?_; rotate_left; focus ((intro w' hSw; (try dsimp only at hSw); go_simp) <;> with_reducible rfl))
  try simp only [Act.put, List.setIfInBounds_toArray, List.set_cons_zero, List.set_cons_succ]
  (refine wpAnyH_take (i := 24) (v := ?_) (at_drop rfl) (by kernel_rfl) (by kernel_rfl) (by kernel_rfl) (fun _ _ _ h => h) (Or.inl ⟨by rfl, ?_⟩) (by assumption) ?_; rotate_left; focus ((intro w' hSw; (try dsimp only at hSw); go_simp) <;> with_reducible rfl))
  try simp only [Act.put, List.setIfInBounds_toArray, List.set_cons_zero, List.set_cons_succ]
  (refine wpAnyH_take (i := 25) (v := ?_) (at_drop rfl) (by kernel_rfl) (by kernel_rfl) (by kernel_rfl) (fun _ _ _ h => h) (Or.inl ⟨by rfl, ?_⟩) (by assumption) ?_; rotate_left; focus ((intro w' hSw; (try dsimp only at hSw); go_simp) <;> with_reducible rfl))
  try simp only [Act.put, List.setIfInBounds_toArray, List.set_cons_zero, List.set_cons_succ]
  (refine wpAnyH_take (i := 26) (v := ?_) (at_drop rfl) (by kernel_rfl) (by kernel_rfl) (by kernel_rfl) (fun _ _ _ h => h) (Or.inl ⟨by rfl, ?_⟩) (by assumption) ?_; rotate_left; focus ((intro w' hSw; (try dsimp only at hSw); go_simp) <;> with_reducible rfl))
  try simp only [Act.put, List.setIfInBounds_toArray, List.set_cons_zero, List.set_cons_succ]
  (refine wpAnyH_take (i := 27) (v := ?_) (at_drop rfl) (by kernel_rfl) (by kernel_rfl) (by kernel_rfl) (fun _ _ _ h => h) (Or.inl ⟨by rfl, ?_⟩) (by assumption) ?_; rotate_left; focus ((intro w' hSw; (try dsimp only at hSw); go_simp) <;> with_reducible rfl))
  try simp only [Act.put, List.setIfInBounds_toArray, List.set_cons_zero, List.set_cons_succ]
  (refine wpAnyH_take (i := 28) (v := ?_) (at_drop rfl) (by kernel_rfl) (by kernel_rfl) (by kernel_rfl) (fun _ _ _ h => h) (Or.inl ⟨by rfl, ?_⟩) (by assumption) ?_; rotate_left; focus ((intro w' hSw; (try dsimp only at hSw); go_simp) <;> with_reducible rfl))
  try simp only [Act.put, List.setIfInBounds_toArray, List.set_cons_zero, List.set_cons_succ]
  (refine wpAnyH_take (i := 29) (v := ?_) (at_drop rfl) (by kernel_rfl) (by kernel_rfl) (by kernel_rfl) (fun _ _ _ h => h) (Or.inl ⟨by rfl, ?_⟩) (by assumption) ?_; rotate_left; focus ((intro w' hSw; (try dsimp only at hSw); go_simp) <;> with_reducible rfl))
  try simp only [Act.put, List.setIfInBounds_toArray, List.set_cons_zero, List.set_cons_succ]
  (refine wpAnyH_take (i := 30) (v := ?_) (at_drop rfl) (by kernel_rfl) (by kernel_rfl) (by kernel_rfl) (fun _ _ _ h => h) (Or.inl ⟨by rfl, ?_⟩) (by assumption) ?_; rotate_left; focus ((intro w' hSw; (try dsimp only at hSw); go_simp) <;> with_reducible rfl))
  try simp only [Act.put, List.setIfInBounds_toArray, List.set_cons_zero, List.set_cons_succ]
  (refine wpAnyH_take (i := 31) (v := ?_) (at_drop rfl) (by kernel_rfl) (by kernel_rfl) (by kernel_rfl) (fun _ _ _ h => h) (Or.inl ⟨by rfl, ?_⟩) (by assumption) ?_; rotate_left; focus ((intro w' hSw; (try dsimp only at hSw); go_simp) <;> with_reducible rfl))
  try simp only [Act.put, List.setIfInBounds_toArray, List.set_cons_zero, List.set_cons_succ]
  (refine wpAnyH_take (i := 32) (v := ?_) (at_drop rfl) (by kernel_rfl) (by kernel_rfl) (by kernel_rfl) (fun _ _ _ h => h) (Or.inl ⟨by rfl, ?_⟩) (by assumption) ?_; rotate_left; focus ((intro w' hSw; (try dsimp only at hSw); go_simp) <;> with_reducible rfl))
  try simp only [Act.put, List.setIfInBounds_toArray, List.set_cons_zero, List.set_cons_succ]
  (refine wpAnyH_take (i := 33) (v := ?_) (at_drop rfl) (by kernel_rfl) (by kernel_rfl) (by kernel_rfl) (fun _ _ _ h => h) (Or.inl ⟨by rfl, ?_⟩) (by assumption) ?_; rotate_left; focus ((intro w' hSw; (try dsimp only at hSw); go_simp) <;> with_reducible rfl))
  try simp only [Act.put, List.setIfInBounds_toArray, List.set_cons_zero, List.set_cons_succ]
  (refine wpAnyH_take (i := 34) (v := ?_) (at_drop rfl) (by kernel_rfl) (by kernel_rfl) (by kernel_rfl) (fun _ _ _ h => h) (Or.inl ⟨by rfl, ?_⟩) (by assumption) ?_; rotate_left; focus ((intro w' hSw; (try dsimp only at hSw); go_simp) <;> with_reducible rfl))
  try simp only [Act.put, List.setIfInBounds_toArray, List.set_cons_zero, List.set_cons_succ]
  (refine wpAnyH_take (i := 35) (v := ?_) (at_drop rfl) (by kernel_rfl) (by kernel_rfl) (by kernel_rfl) (fun _ _ _ h => h) (Or.inl ⟨by rfl, ?_⟩) (by assumption) ?_; rotate_left; focus ((intro w' hSw; (try dsimp only at hSw); go_simp) <;> with_reducible rfl))
  try simp only [Act.put, List.setIfInBounds_toArray, List.set_cons_zero, List.set_cons_succ]
  (refine wpAnyH_take (i := 36) (v := ?_) (at_drop rfl) (by kernel_rfl) (by kernel_rfl) (by kernel_rfl) (fun _ _ _ h => h) (Or.inl ⟨by rfl, ?_⟩) (by assumption) ?_; rotate_left; focus ((intro w' hSw; (try dsimp only at hSw); go_simp) <;> with_reducible rfl))
  try simp only [Act.put, List.setIfInBounds_toArray, List.set_cons_zero, List.set_cons_succ]
  (refine wpAnyH_take (i := 37) (v := ?_) (at_drop rfl) (by kernel_rfl) (by kernel_rfl) (by kernel_rfl) (fun _ _ _ h => h) (Or.inl ⟨by rfl, ?_⟩) (by assumption) ?_; rotate_left; focus ((intro w' hSw; (try dsimp only at hSw); go_simp) <;> with_reducible rfl))
  try simp only [Act.put, List.setIfInBounds_toArray, List.set_cons_zero, List.set_cons_succ]
  (refine wpAnyH_take (i := 38) (v := ?_) (at_drop rfl) (by kernel_rfl) (by kernel_rfl) (by kernel_rfl) (fun _ _ _ h => h) (Or.inl ⟨by rfl, ?_⟩) (by assumption) ?_; rotate_left; focus ((intro w' hSw; (try dsimp only at hSw); go_simp) <;> with_reducible rfl))
  try simp only [Act.put, List.setIfInBounds_toArray, List.set_cons_zero, List.set_cons_succ]
  (refine wpAnyH_take (i := 39) (v := ?_) (at_drop rfl) (by kernel_rfl) (by kernel_rfl) (by kernel_rfl) (fun _ _ _ h => h) (Or.inl ⟨by rfl, ?_⟩) (by assumption) ?_; rotate_left; focus ((intro w' hSw; (try dsimp only at hSw); go_simp) <;> with_reducible rfl))
  try simp only [Act.put, List.setIfInBounds_toArray, List.set_cons_zero, List.set_cons_succ]
  (refine wpAnyH_take (i := 41) (v := ?_) (at_drop rfl) (by kernel_rfl) (by kernel_rfl) (by kernel_rfl) (fun _ _ _ h => h) (Or.inl ⟨by rfl, ?_⟩) (by assumption) ?_; rotate_left; focus ((intro w' hSw; (try dsimp only at hSw); go_simp) <;> with_reducible rfl))
  try simp only [Act.put, List.setIfInBounds_toArray, List.set_cons_zero, List.set_cons_succ]
  (refine wpAnyH_take (i := 42) (v := ?_) (at_drop rfl) (by kernel_rfl) (by kernel_rfl) (by kernel_rfl) (fun _ _ _ h => h) (Or.inl ⟨by rfl, ?_⟩) (by assumption) ?_; rotate_left; focus ((intro w' hSw; (try dsimp only at hSw); go_simp) <;> with_reducible rfl))
  try simp only [Act.put, List.setIfInBounds_toArray, List.set_cons_zero, List.set_cons_succ]
  refine wpAnyH_ready (rs := [40]) (by kernel_rfl) (by simp) ?_
  refine AllReadyH.cons (at_drop rfl) (fun K hK => ?_) AllReadyH.nil
  go_simp
  refine (H8.out _).mono ?_
  rintro e wn ⟨rfl, hB⟩
  (have HBn : Below w.heap.size w wn := below_lift (by (first | exact HB.out | exact HB.out.drew | exact HB.out.alloc HB.out.size _ | exact (HB.out.alloc HB.out.size _).drew | exact (HB.out.alloc HB.out.size _).alloc (Nat.le_trans HB.out.size (by simp)) _ | exact ((HB.out.alloc HB.out.size _).alloc (Nat.le_trans HB.out.size (by simp)) _).alloc (Nat.le_trans HB.out.size (by simp; omega)) _)) hB; obtain ⟨hc, hf⟩ := below_cell hB; have zz := hB.size; (try simp at zz); have HB := Lib.hid HBn; clear HBn hB)
  have p0 := (hc (w.heap.size) 0 (by first | omega | (simp; omega))).trans p0
  have p1 := (hc (w.heap.size) 1 (by first | omega | (simp; omega))).trans p1
  have p2 := (hc (w.heap.size) 2 (by first | omega | (simp; omega))).trans p2
  have p3 := (hc (w.heap.size + 1) 0 (by first | omega | (simp; omega))).trans p3
  have p4 := (hc (w.heap.size + 1) 1 (by first | omega | (simp; omega))).trans p4
  have p5 := (hc (w.heap.size + 1) 2 (by first | omega | (simp; omega))).trans p5
  have p6 := (hc (w2.heap.size) 0 (by first | omega | (simp; omega))).trans p6
  have p7 := (hc (w2.heap.size) 1 (by first | omega | (simp; omega))).trans p7
  have p8 := (hc (w2.heap.size) 2 (by first | omega | (simp; omega))).trans p8
  have p9 := (hc (w3.heap.size) 0 (by first | omega | (simp; omega))).trans p9
  have p10 := (hc (w3.heap.size) 1 (by first | omega | (simp; omega))).trans p10
  have p11 := (hc (w3.heap.size) 2 (by first | omega | (simp; omega))).trans p11
  have p12 := (hc (w4.heap.size) 0 (by first | omega | (simp; omega))).trans p12
  have p13 := (hc (w4.heap.size) 1 (by first | omega | (simp; omega))).trans p13
  have p14 := (hc (w4.heap.size) 2 (by first | omega | (simp; omega))).trans p14
  have p15 := (hc (w5.heap.size) 0 (by first | omega | (simp; omega))).trans p15
  have p16 := (hc (w5.heap.size) 1 (by first | omega | (simp; omega))).trans p16
  have p17 := (hc (w5.heap.size) 2 (by first | omega | (simp; omega))).trans p17
  clear hc hf
  have z0 : w.heap.size < wn.heap.size := by omega
  have z1 : w.heap.size + 1 < wn.heap.size := by omega
  have z2 : w2.heap.size < wn.heap.size := by omega
  have z3 : w3.heap.size < wn.heap.size := by omega
  have z4 : w4.heap.size < wn.heap.size := by omega
  have z5 : w5.heap.size < wn.heap.size := by omega
  refine hK.out _ _ (⟨p0, p1, p2, p3, p4, p5, p6, p7, p8, p9, p10, p11, p12, p13, p14, p15, p16, p17⟩) (fun hHeld => ?_)
  clear hK K
  try simp only [Act.put, List.setIfInBounds_toArray, List.set_cons_zero, List.set_cons_succ]
  refine wpAnyH_ready (rs := [43]) (by kernel_rfl) (by simp) ?_
  refine AllReadyH.cons (at_drop rfl) (fun K hK => ?_) AllReadyH.nil
  go_simp
  refine (H9.out _).mono ?_
  rintro e wn ⟨rfl, hB⟩
  (have HBn : Below w.heap.size w wn := below_lift (by (first | exact HB.out | exact HB.out.drew | exact HB.out.alloc HB.out.size _ | exact (HB.out.alloc HB.out.size _).drew | exact (HB.out.alloc HB.out.size _).alloc (Nat.le_trans HB.out.size (by simp)) _ | exact ((HB.out.alloc HB.out.size _).alloc (Nat.le_trans HB.out.size (by simp)) _).alloc (Nat.le_trans HB.out.size (by simp; omega)) _)) hB; obtain ⟨hc, hf⟩ := below_cell hB; have zz := hB.size; (try simp at zz); have HB := Lib.hid HBn; clear HBn hB)
  have p0 := (hc (w.heap.size) 0 (by first | omega | (simp; omega))).trans p0
  have p1 := (hc (w.heap.size) 1 (by first | omega | (simp; omega))).trans p1
  have p2 := (hc (w.heap.size) 2 (by first | omega | (simp; omega))).trans p2
  have p3 := (hc (w.heap.size + 1) 0 (by first | omega | (simp; omega))).trans p3
  have p4 := (hc (w.heap.size + 1) 1 (by first | omega | (simp; omega))).trans p4
  have p5 := (hc (w.heap.size + 1) 2 (by first | omega | (simp; omega))).trans p5
  have p6 := (hc (w2.heap.size) 0 (by first | omega | (simp; omega))).trans p6
  have p7 := (hc (w2.heap.size) 1 (by first | omega | (simp; omega))).trans p7
  have p8 := (hc (w2.heap.size) 2 (by first | omega | (simp; omega))).trans p8
  have p9 := (hc (w3.heap.size) 0 (by first | omega | (simp; omega))).trans p9
  have p10 := (hc (w3.heap.size) 1 (by first | omega | (simp; omega))).trans p10
  have p11 := (hc (w3.heap.size) 2 (by first | omega | (simp; omega))).trans p11
  have p12 := (hc (w4.heap.size) 0 (by first | omega | (simp; omega))).trans p12
  have p13 := (hc (w4.heap.size) 1 (by first | omega | (simp; omega))).trans p13
  have p14 := (hc (w4.heap.size) 2 (by first | omega | (simp; omega))).trans p14
  have p15 := (hc (w5.heap.size) 0 (by first | omega | (simp; omega))).trans p15
  have p16 := (hc (w5.heap.size) 1 (by first | omega | (simp; omega))).trans p16
  have p17 := (hc (w5.heap.size) 2 (by first | omega | (simp; omega))).trans p17
  clear hc hf
  have z0 : w.heap.size < wn.heap.size := by omega
  have z1 : w.heap.size + 1 < wn.heap.size := by omega
  have z2 : w2.heap.size < wn.heap.size := by omega
  have z3 : w3.heap.size < wn.heap.size := by omega
  have z4 : w4.heap.size < wn.heap.size := by omega
  have z5 : w5.heap.size < wn.heap.size := by omega
  refine hK.out _ _ (⟨p0, p1, p2, p3, p4, p5, p6, p7, p8, p9, p10, p11, p12, p13, p14, p15, p16, p17⟩) (fun hHeld => ?_)
  clear hK K
  try simp only [Act.put, List.setIfInBounds_toArray, List.set_cons_zero, List.set_cons_succ]
  (refine wpAnyH_take (i := 44) (v := ?_) (at_drop rfl) (by kernel_rfl) (by kernel_rfl) (by kernel_rfl) (fun _ _ _ h => h) (Or.inl ⟨by rfl, ?_⟩) (by assumption) ?_; rotate_left; focus ((intro w' hSw; (try dsimp only at hSw); go_simp) <;> with_reducible rfl))
  try simp only [Act.put, List.setIfInBounds_toArray, List.set_cons_zero, List.set_cons_succ]
  (refine wpAnyH_take (i := 45) (v := ?_) (at_drop rfl) (by kernel_rfl) (by kernel_rfl) (by kernel_rfl) (fun _ _ _ h => h) (Or.inl ⟨by rfl, ?_⟩) (by assumption) ?_; rotate_left; focus ((intro w' hSw; (try dsimp only at hSw); go_simp) <;> with_reducible rfl))
  try simp only [Act.put, List.setIfInBounds_toArray, List.set_cons_zero, List.set_cons_succ]
  (refine wpAnyH_take (i := 46) (v := ?_) (at_drop rfl) (by kernel_rfl) (by kernel_rfl) (by kernel_rfl) (fun _ _ _ h => h) (Or.inl ⟨by rfl, ?_⟩) (by assumption) ?_; rotate_left; focus ((intro w' hSw; (try dsimp only at hSw); go_simp) <;> with_reducible rfl))
  try simp only [Act.put, List.setIfInBounds_toArray, List.set_cons_zero, List.set_cons_succ]
  refine wpAnyH_ready (rs := [47]) (by kernel_rfl) (by simp) ?_
  refine AllReadyH.cons (at_drop rfl) (fun K hK => ?_) AllReadyH.nil
  go_simp
  refine (H10.out _).mono ?_
  rintro e wn ⟨rfl, hB⟩
  (have HBn : Below w.heap.size w wn := below_lift (by (first | exact HB.out | exact HB.out.drew | exact HB.out.alloc HB.out.size _ | exact (HB.out.alloc HB.out.size _).drew | exact (HB.out.alloc HB.out.size _).alloc (Nat.le_trans HB.out.size (by simp)) _ | exact ((HB.out.alloc HB.out.size _).alloc (Nat.le_trans HB.out.size (by simp)) _).alloc (Nat.le_trans HB.out.size (by simp; omega)) _)) hB; obtain ⟨hc, hf⟩ := below_cell hB; have zz := hB.size; (try simp at zz); have HB := Lib.hid HBn; clear HBn hB)
  have p0 := (hc (w.heap.size) 0 (by first | omega | (simp; omega))).trans p0
  have p1 := (hc (w.heap.size) 1 (by first | omega | (simp; omega))).trans p1
  have p2 := (hc (w.heap.size) 2 (by first | omega | (simp; omega))).trans p2
  have p3 := (hc (w.heap.size + 1) 0 (by first | omega | (simp; omega))).trans p3
  have p4 := (hc (w.heap.size + 1) 1 (by first | omega | (simp; omega))).trans p4
  have p5 := (hc (w.heap.size + 1) 2 (by first | omega | (simp; omega))).trans p5
  have p6 := (hc (w2.heap.size) 0 (by first | omega | (simp; omega))).trans p6
  have p7 := (hc (w2.heap.size) 1 (by first | omega | (simp; omega))).trans p7
  have p8 := (hc (w2.heap.size) 2 (by first | omega | (simp; omega))).trans p8
  have p9 := (hc (w3.heap.size) 0 (by first | omega | (simp; omega))).trans p9
  have p10 := (hc (w3.heap.size) 1 (by first | omega | (simp; omega))).trans p10
  have p11 := (hc (w3.heap.size) 2 (by first | omega | (simp; omega))).trans p11
  have p12 := (hc (w4.heap.size) 0 (by first | omega | (simp; omega))).trans p12
  have p13 := (hc (w4.heap.size) 1 (by first | omega | (simp; omega))).trans p13
  have p14 := (hc (w4.heap.size) 2 (by first | omega | (simp; omega))).trans p14
  have p15 := (hc (w5.heap.size) 0 (by first | omega | (simp; omega))).trans p15
  have p16 := (hc (w5.heap.size) 1 (by first | omega | (simp; omega))).trans p16
  have p17 := (hc (w5.heap.size) 2 (by first | omega | (simp; omega))).trans p17
  clear hc hf
  have z0 : w.heap.size < wn.heap.size := by omega
  have z1 : w.heap.size + 1 < wn.heap.size := by omega
  have z2 : w2.heap.size < wn.heap.size := by omega
  have z3 : w3.heap.size < wn.heap.size := by omega
  have z4 : w4.heap.size < wn.heap.size := by omega
  have z5 : w5.heap.size < wn.heap.size := by omega
  refine hK.out _ _ (⟨p0, p1, p2, p3, p4, p5, p6, p7, p8, p9, p10, p11, p12, p13, p14, p15, p16, p17⟩) (fun hHeld => ?_)
  clear hK K
  try simp only [Act.put, List.setIfInBounds_toArray, List.set_cons_zero, List.set_cons_succ]
  refine wpAnyH_ready (rs := [48]) (by kernel_rfl) (by simp) ?_
  refine AllReadyH.cons (at_drop rfl) (fun K hK => ?_) AllReadyH.nil
  go_simp
  refine (H11.out _).mono ?_
  rintro e wn ⟨rfl, hB⟩
  (have HBn : Below w.heap.size w wn := below_lift (by (first | exact HB.out | exact HB.out.drew | exact HB.out.alloc HB.out.size _ | exact (HB.out.alloc HB.out.size _).drew | exact (HB.out.alloc HB.out.size _).alloc (Nat.le_trans HB.out.size (by simp)) _ | exact ((HB.out.alloc HB.out.size _).alloc (Nat.le_trans HB.out.size (by simp)) _).alloc (Nat.le_trans HB.out.size (by simp; omega)) _)) hB; obtain ⟨hc, hf⟩ := below_cell hB; have zz := hB.size; (try simp at zz); have HB := Lib.hid HBn; clear HBn hB)
  have p0 := (hc (w.heap.size) 0 (by first | omega | (simp; omega))).trans p0
  have p1 := (hc (w.heap.size) 1 (by first | omega | (simp; omega))).trans p1
  have p2 := (hc (w.heap.size) 2 (by first | omega | (simp; omega))).trans p2
  have p3 := (hc (w.heap.size + 1) 0 (by first | omega | (simp; omega))).trans p3
  have p4 := (hc (w.heap.size + 1) 1 (by first | omega | (simp; omega))).trans p4
  have p5 := (hc (w.heap.size + 1) 2 (by first | omega | (simp; omega))).trans p5
  have p6 := (hc (w2.heap.size) 0 (by first | omega | (simp; omega))).trans p6
  have p7 := (hc (w2.heap.size) 1 (by first | omega | (simp; omega))).trans p7
  have p8 := (hc (w2.heap.size) 2 (by first | omega | (simp; omega))).trans p8
  have p9 := (hc (w3.heap.size) 0 (by first | omega | (simp; omega))).trans p9
  have p10 := (hc (w3.heap.size) 1 (by first | omega | (simp; omega))).trans p10
  have p11 := (hc (w3.heap.size) 2 (by first | omega | (simp; omega))).trans p11
  have p12 := (hc (w4.heap.size) 0 (by first | omega | (simp; omega))).trans p12
  have p13 := (hc (w4.heap.size) 1 (by first | omega | (simp; omega))).trans p13
  have p14 := (hc (w4.heap.size) 2 (by first | omega | (simp; omega))).trans p14
  have p15 := (hc (w5.heap.size) 0 (by first | omega | (simp; omega))).trans p15
  have p16 := (hc (w5.heap.size) 1 (by first | omega | (simp; omega))).trans p16
  have p17 := (hc (w5.heap.size) 2 (by first | omega | (simp; omega))).trans p17
  clear hc hf
  have z0 : w.heap.size < wn.heap.size := by omega
  have z1 : w.heap.size + 1 < wn.heap.size := by omega
  have z2 : w2.heap.size < wn.heap.size := by omega
  have z3 : w3.heap.size < wn.heap.size := by omega
  have z4 : w4.heap.size < wn.heap.size := by omega
  have z5 : w5.heap.size < wn.heap.size := by omega
  refine hK.out _ _ (⟨p0, p1, p2, p3, p4, p5, p6, p7, p8, p9, p10, p11, p12, p13, p14, p15, p16, p17⟩) (fun hHeld => ?_)
  clear hK K
  try simp only [Act.put, List.setIfInBounds_toArray, List.set_cons_zero, List.set_cons_succ]
  (refine wpAnyH_take (i := 49) (v := ?_) (at_drop rfl) (by kernel_rfl) (by kernel_rfl) (by kernel_rfl) (fun _ _ _ h => h) (Or.inl ⟨by rfl, ?_⟩) (by assumption) ?_; rotate_left; focus ((intro w' hSw; (try dsimp only at hSw); go_simp) <;> with_reducible rfl))
  try simp only [Act.put, List.setIfInBounds_toArray, List.set_cons_zero, List.set_cons_succ]
  (refine wpAnyH_take (i := 50) (v := ?_) (at_drop rfl) (by kernel_rfl) (by kernel_rfl) (by kernel_rfl) (fun _ _ _ h => h) (Or.inl ⟨by rfl, ?_⟩) (by assumption) ?_; rotate_left; focus ((intro w' hSw; (try dsimp only at hSw); go_simp) <;> with_reducible rfl))
  try simp only [Act.put, List.setIfInBounds_toArray, List.set_cons_zero, List.set_cons_succ]
  (refine wpAnyH_take (i := 51) (v := ?_) (at_drop rfl) (by kernel_rfl) (by kernel_rfl) (by kernel_rfl) (fun _ _ _ h => h) (Or.inl ⟨by rfl, ?_⟩) (by assumption) ?_; rotate_left; focus ((intro w' hSw; (try dsimp only at hSw); go_simp) <;> with_reducible rfl))
  try simp only [Act.put, List.setIfInBounds_toArray, List.set_cons_zero, List.set_cons_succ]
  refine wpAnyH_ready (rs := [52]) (by kernel_rfl) (by simp) ?_
  refine AllReadyH.cons (at_drop rfl) (fun K hK => ?_) AllReadyH.nil
  go_simp
  refine (H12.out _).mono ?_
  rintro e wn ⟨rfl, hB⟩
  (have HBn : Below w.heap.size w wn := below_lift (by (first | exact HB.out | exact HB.out.drew | exact HB.out.alloc HB.out.size _ | exact (HB.out.alloc HB.out.size _).drew | exact (HB.out.alloc HB.out.size _).alloc (Nat.le_trans HB.out.size (by simp)) _ | exact ((HB.out.alloc HB.out.size _).alloc (Nat.le_trans HB.out.size (by simp)) _).alloc (Nat.le_trans HB.out.size (by simp; omega)) _)) hB; obtain ⟨hc, hf⟩ := below_cell hB; have zz := hB.size; (try simp at zz); have HB := Lib.hid HBn; clear HBn hB)
  have p0 := (hc (w.heap.size) 0 (by first | omega | (simp; omega))).trans p0
  have p1 := (hc (w.heap.size) 1 (by first | omega | (simp; omega))).trans p1
  have p2 := (hc (w.heap.size) 2 (by first | omega | (simp; omega))).trans p2
  have p3 := (hc (w.heap.size + 1) 0 (by first | omega | (simp; omega))).trans p3
  have p4 := (hc (w.heap.size + 1) 1 (by first | omega | (simp; omega))).trans p4
  have p5 := (hc (w.heap.size + 1) 2 (by first | omega | (simp; omega))).trans p5
  have p6 := (hc (w2.heap.size) 0 (by first | omega | (simp; omega))).trans p6
  have p7 := (hc (w2.heap.size) 1 (by first | omega | (simp; omega))).trans p7
  have p8 := (hc (w2.heap.size) 2 (by first | omega | (simp; omega))).trans p8
  have p9 := (hc (w3.heap.size) 0 (by first | omega | (simp; omega))).trans p9
  have p10 := (hc (w3.heap.size) 1 (by first | omega | (simp; omega))).trans p10
  have p11 := (hc (w3.heap.size) 2 (by first | omega | (simp; omega))).trans p11
  have p12 := (hc (w4.heap.size) 0 (by first | omega | (simp; omega))).trans p12
  have p13 := (hc (w4.heap.size) 1 (by first | omega | (simp; omega))).trans p13
  have p14 := (hc (w4.heap.size) 2 (by first | omega | (simp; omega))).trans p14
  have p15 := (hc (w5.heap.size) 0 (by first | omega | (simp; omega))).trans p15
  have p16 := (hc (w5.heap.size) 1 (by first | omega | (simp; omega))).trans p16
  have p17 := (hc (w5.heap.size) 2 (by first | omega | (simp; omega))).trans p17
  clear hc hf
  have z0 : w.heap.size < wn.heap.size := by omega
  have z1 : w.heap.size + 1 < wn.heap.size := by omega
  have z2 : w2.heap.size < wn.heap.size := by omega
  have z3 : w3.heap.size < wn.heap.size := by omega
  have z4 : w4.heap.size < wn.heap.size := by omega
  have z5 : w5.heap.size < wn.heap.size := by omega
  refine hK.out _ _ (⟨p0, p1, p2, p3, p4, p5, p6, p7, p8, p9, p10, p11, p12, p13, p14, p15, p16, p17⟩) (fun hHeld => ?_)
  clear hK K
  try simp only [Act.put, List.setIfInBounds_toArray, List.set_cons_zero, List.set_cons_succ]
  refine wpAnyH_ready (rs := [53]) (by kernel_rfl) (by simp) ?_
  refine AllReadyH.cons (at_drop rfl) (fun K hK => ?_) AllReadyH.nil
  go_simp
  refine (H13.out _).mono ?_
  rintro e wn ⟨rfl, hB⟩
  (have HBn : Below w.heap.size w wn := below_lift (by (first | exact HB.out | exact HB.out.drew | exact HB.out.alloc HB.out.size _ | exact (HB.out.alloc HB.out.size _).drew | exact (HB.out.alloc HB.out.size _).alloc (Nat.le_trans HB.out.size (by simp)) _ | exact ((HB.out.alloc HB.out.size _).alloc (Nat.le_trans HB.out.size (by simp)) _).alloc (Nat.le_trans HB.out.size (by simp; omega)) _)) hB; obtain ⟨hc, hf⟩ := below_cell hB; have zz := hB.size; (try simp at zz); have HB := Lib.hid HBn; clear HBn hB)
  have p0 := (hc (w.heap.size) 0 (by first | omega | (simp; omega))).trans p0
  have p1 := (hc (w.heap.size) 1 (by first | omega | (simp; omega))).trans p1
  have p2 := (hc (w.heap.size) 2 (by first | omega | (simp; omega))).trans p2
  have p3 := (hc (w.heap.size + 1) 0 (by first | omega | (simp; omega))).trans p3
  have p4 := (hc (w.heap.size + 1) 1 (by first | omega | (simp; omega))).trans p4
  have p5 := (hc (w.heap.size + 1) 2 (by first | omega | (simp; omega))).trans p5
  have p6 := (hc (w2.heap.size) 0 (by first | omega | (simp; omega))).trans p6
  have p7 := (hc (w2.heap.size) 1 (by first | omega | (simp; omega))).trans p7
  have p8 := (hc (w2.heap.size) 2 (by first | omega | (simp; omega))).trans p8
  have p9 := (hc (w3.heap.size) 0 (by first | omega | (simp; omega))).trans p9
  have p10 := (hc (w3.heap.size) 1 (by first | omega | (simp; omega))).trans p10
  have p11 := (hc (w3.heap.size) 2 (by first | omega | (simp; omega))).trans p11
  have p12 := (hc (w4.heap.size) 0 (by first | omega | (simp; omega))).trans p12
  have p13 := (hc (w4.heap.size) 1 (by first | omega | (simp; omega))).trans p13
  have p14 := (hc (w4.heap.size) 2 (by first | omega | (simp; omega))).trans p14
  have p15 := (hc (w5.heap.size) 0 (by first | omega | (simp; omega))).trans p15
  have p16 := (hc (w5.heap.size) 1 (by first | omega | (simp; omega))).trans p16
  have p17 := (hc (w5.heap.size) 2 (by first | omega | (simp; omega))).trans p17
  clear hc hf
  have z0 : w.heap.size < wn.heap.size := by omega
  have z1 : w.heap.size + 1 < wn.heap.size := by omega
  have z2 : w2.heap.size < wn.heap.size := by omega
  have z3 : w3.heap.size < wn.heap.size := by omega
  have z4 : w4.heap.size < wn.heap.size := by omega
  have z5 : w5.heap.size < wn.heap.size := by omega
  refine hK.out _ _ (⟨p0, p1, p2, p3, p4, p5, p6, p7, p8, p9, p10, p11, p12, p13, p14, p15, p16, p17⟩) (fun hHeld => ?_)
  clear hK K
  try simp only [Act.put, List.setIfInBounds_toArray, List.set_cons_zero, List.set_cons_succ]
  (refine wpAnyH_take (i := 54) (v := ?_) (at_drop rfl) (by kernel_rfl) (by kernel_rfl) (by kernel_rfl) (fun _ _ _ h => h) (Or.inl ⟨by rfl, ?_⟩) (by assumption) ?_; rotate_left; focus ((intro w' hSw; (try dsimp only at hSw); go_simp) <;> with_reducible rfl))
  try simp only [Act.put, List.setIfInBounds_toArray, List.set_cons_zero, List.set_cons_succ]
  (refine wpAnyH_take (i := 55) (v := ?_) (at_drop rfl) (by kernel_rfl) (by kernel_rfl) (by kernel_rfl) (fun _ _ _ h => h) (Or.inl ⟨by rfl, ?_⟩) (by assumption) ?_; rotate_left; focus ((intro w' hSw; (try dsimp only at hSw); go_simp) <;> with_reducible rfl))
  try simp only [Act.put, List.setIfInBounds_toArray, List.set_cons_zero, List.set_cons_succ]
  (refine wpAnyH_take (i := 56) (v := ?_) (at_drop rfl) (by kernel_rfl) (by kernel_rfl) (by kernel_rfl) (fun _ _ _ h => h) (Or.inl ⟨by rfl, ?_⟩) (by assumption) ?_; rotate_left; focus ((intro w' hSw; (try dsimp only at hSw); go_simp) <;> with_reducible rfl))
  try simp only [Act.put, List.setIfInBounds_toArray, List.set_cons_zero, List.set_cons_succ]
  refine wpAnyH_done (by kernel_rfl) ?_ _
  go_wp2_with fail
  go_ret
  exact ⟨rfl, HB.out⟩

theorem knows_walk (a b : Lab) (w : World) (hh : Handle w) : Calls Tryd.prog 10 #[.agg #[.int .i64 a.lv, .int .u64 (u a.c), .int .i64 a.ig], .agg #[.int .i64 b.lv, .int .u64 (u b.c), .int .i64 b.ig]] w (Yes w) := by
  have go := fun x y n m j1 j2 j3 j4 => knows_core a b x y botL topL n m (cmpL a b) (okL a) (underL a b) w hh j1 j2 j3 j4 (rightIs rfl) (rRightIs rfl) (underIs rfl) (fun W => rUnder_any a b W) (cmpIs rfl) (fun W => rCompare_any a b W) Bottom_any rBottom_any Top_any rTop_any
  by_cases h : okL a = true ∧ okL b = true
  · exact go _ _ _ _ (joinIs h.1 h.2) (fun W => rJoin_ok a b W h.1 h.2) (meetIs h.1 h.2) (fun W => rMeet_ok a b W h.1 h.2)
  · exact go zeroL zeroL _ _ (joinNo h) (fun W => rJoin_bad a b W h) (meetNo h) (fun W => rMeet_bad a b W h)
end Go.Proofs.YtapgeagmdiphgaaDoor
