/-
  PACKAGE slots: take, Take where nothing can be taken (printed by wip/gensl3.py).
-/
import Derived.Test.YtgjnmpbahekbfaaDoorSlH
namespace Go.Proofs.YtgjnmpbahekbfaaDoor
open Go.RowKit

set_option maxRecDepth 100000 in
set_option maxHeartbeats 4000000 in
theorem Take_nil (w : World) :
    Calls Tryd.prog 11 #[.pointer none] w fun e w' => e = .returned (.tuple #[.agg #[.int .i64 0, .int .i64 0], .int .i64 1]) ∧ Below w.heap.size w w' := by
  have HB := Lib.hid (Below.refl w.heap.size w)
  go_enter Tryd.func11, Tryd.ntmps11
  go_wp2_with fail
  have R0 : Blk (w.alloc (.cells #[.int .i64 0, .int .i64 0] 28)) (w.heap.size) 28 #[.int .i64 0, .int .i64 0] := (Blk.new' rfl)
  have k0_0 := R0.at_ (i := 0) (v := .int .i64 0) rfl
  have k0_1 := R0.at_ (i := 1) (v := .int .i64 0) rfl
  have HZ : Below w.heap.size w (w.alloc (.cells #[.int .i64 0, .int .i64 0] 28)) := (below_alloc HB.out _)
  refine bodyPost_ret (v := .tuple #[.agg #[.int .i64 0, .int .i64 0], .int .i64 1]) (by simp [results, Tryd.results11, go_sem, k0_0, k0_1]) rfl ⟨rfl, HZ⟩
set_option maxRecDepth 100000 in
set_option maxHeartbeats 4000000 in
theorem take_full (sb c : Nat) (A : Option Addr) (gv tv : Value) (un : Int) (ea eb : Addr) (w : World) (hs : Blk w sb 57 (slotsC (.slice A 0 c) gv tv un)) (he : SentS w ea eb) :
    Calls Tryd.prog 23 #[.pointer (some ⟨sb, 0, none⟩)] w fun e w' => e = .returned (.tuple #[.agg #[.int .i64 0, .int .i64 0], errE ea]) ∧ Below w.heap.size w w' := by
  have HS := Lib.hid hs
  have HG0 : Hid (Els w 0 0 #[errE ea]) := Lib.hid he.e0
  have sl := hs.lt
  have gl := he.lt.1
  have HB := Lib.hid (Below.refl w.heap.size w)
  clear hs he
  go_enter Tryd.func23, Tryd.ntmps23
  go_wp2_with fail
  refine (Len_any sb 0 c A _ (Blk.at_ (i := 0) (t := 57) (cs := slotsC (.slice A 0 c) gv tv un) (by repeat (first | exact HS.out | exact Blk.new' (by simp; done) | exact Blk.new' rfl | refine Blk.drew ?_ | refine Blk.alloc ?_ _)) rfl)).mono ?_
  rintro e w' ⟨rfl, rfl⟩
  go_wp2_with fail
  refine wp_region_gen2 (S := (fun W' => Blk W' (sb) 57 #[.slice A 0 c, gv, tv, .int .i64 un] ∧ Els W' (0) (0) #[errE ea] ∧ Below w.heap.size w W')) (N := (fun W' => Blk W' (w.heap.size) 28 #[.int .i64 0, .int .i64 0])) (by kernel_rfl) ⟨(by repeat (first | exact HS.out | exact Blk.new' (by simp; done) | exact Blk.new' rfl | refine Blk.drew ?_ | refine Blk.alloc ?_ _)), (by repeat (first | exact HG0.out | refine Els.drew ?_ | refine Els.alloc ?_ _)), (by repeat (first | exact HB.out | refine below_alloc ?_ _ | refine Below.drew ?_ | refine below_set ?_ (by omega) _))⟩ (by repeat (first | exact Blk.new' (by simp; done) | exact Blk.new' rfl | refine Blk.drew ?_ | refine Blk.alloc ?_ _)) (fun w1 hS hN => ?_)
  have n0 := hN
  have N0 := Lib.hid n0
  have d0_N0 : sb ≠ w.heap.size := by omega
  have d1_N0 : 0 ≠ w.heap.size := by omega
  have dd_N0 : w.heap.size ≤ w.heap.size := by omega
  clear n0 hN
  refine wpAnyH_take (i := 0) (v := ?_) (op_at rfl) (by kernel_rfl) (by kernel_rfl) (by kernel_rfl) (fun _ _ _ h => h) (Or.inl ⟨by rfl, ?_⟩) hS ?_; rotate_left; focus ((intro w' hSw; clear hSw; go_simp) <;> with_reducible rfl)
  try simp only [Act.put, List.setIfInBounds_toArray, List.set_cons_zero, List.set_cons_succ]
  refine wpAnyH_take (i := 1) (v := ?_) (op_at rfl) (by kernel_rfl) (by kernel_rfl) (by kernel_rfl) (fun _ _ _ h => h) (Or.inl ⟨by rfl, ?_⟩) hS ?_; rotate_left; focus ((intro w' hSw; obtain ⟨-, q, -⟩ := hSw; have c0 : w'.cell? ⟨0, 0, none⟩ = some (errE ea) := q.at_ (i := 0) (v := errE ea) rfl; clear q; go_simp) <;> with_reducible rfl)
  try simp only [Act.put, List.setIfInBounds_toArray, List.set_cons_zero, List.set_cons_succ]
  refine wpAnyH_ready (rs := [2]) (by kernel_rfl) (by simp) ?_
  refine (AllReadyH.cons (op_at rfl) (fun K hK => ?_) AllReadyH.nil)
  have p_0 := N0.out.at_ (i := 0) (v := .int .i64 0) rfl
  have f_0 := N0.out.frozen 0
  have p_1 := N0.out.at_ (i := 1) (v := .int .i64 0) rfl
  have f_1 := N0.out.frozen 1
  go_simp
  clear p_0 f_0 p_1 f_1
  obtain ⟨b0, b1, hb⟩ := hS
  refine hK.out _ _ ⟨(Blk.far (Blk.far b0 d0_N0 _) d0_N0 _), (Els.far (Els.far b1 d1_N0 _) d1_N0 _), (below_set (below_set hb dd_N0 _) dd_N0 _)⟩ (fun hS => ?_)
  replace N0 := Lib.hid (Blk.set' (u := .int .i64 0) (i := 1) (cs' := #[.int .i64 0, .int .i64 0]) (Blk.set' (u := .int .i64 0) (i := 0) (cs' := #[.int .i64 0, .int .i64 0]) N0.out rfl) rfl)
  clear hK K b0 b1 hb
  try simp only [Act.put, List.setIfInBounds_toArray, List.set_cons_zero, List.set_cons_succ]
  refine wpAnyH_take (i := 3) (v := ?_) (op_at rfl) (by kernel_rfl) (by kernel_rfl) (by kernel_rfl) (fun _ _ _ h => h) (Or.inl ⟨by rfl, ?_⟩) hS ?_; rotate_left; focus ((intro w' hSw; clear hSw; go_simp) <;> with_reducible rfl)
  try simp only [Act.put, List.setIfInBounds_toArray, List.set_cons_zero, List.set_cons_succ]
  refine wpAnyH_done (by kernel_rfl) ?_ _
  obtain ⟨b0, b1, hb⟩ := hS
  replace HS := Lib.hid b0
  clear b0
  replace HG0 := Lib.hid b1
  clear b1
  replace B2 := N0
  clear N0
  replace HB := Lib.hid hb
  clear hb
  go_wp2_with fail
  have R2 : Blk ((w1.setCell ⟨w.heap.size, 0, none⟩ (.int .i64 0)).setCell ⟨w.heap.size, 1, none⟩ (.int .i64 0)) (w.heap.size) 28 #[.int .i64 0, .int .i64 0] := B2.out
  have k2_0 := R2.at_ (i := 0) (v := .int .i64 0) rfl
  have k2_1 := R2.at_ (i := 1) (v := .int .i64 0) rfl
  have HZ : Below w.heap.size w ((w1.setCell ⟨w.heap.size, 0, none⟩ (.int .i64 0)).setCell ⟨w.heap.size, 1, none⟩ (.int .i64 0)) := HB.out
  refine bodyPost_ret (v := .tuple #[.agg #[.int .i64 0, .int .i64 0], errE ea]) (by simp [results, Tryd.results23, go_sem, k2_0, k2_1]) rfl ⟨rfl, HZ⟩
end Go.Proofs.YtgjnmpbahekbfaaDoor
