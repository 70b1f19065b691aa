/-
  THE METHODS OF slots.numbers, slots.free, as container/heap calls them (printed by wip/gensl1.py).
-/
import Derived.Test.YtgjnmpbahekbfaaDoorTabs
import Derived.Test.YtgjnmpbahekbfaaDoorProg
import Derived.WalkKit
import Derived.WalkMore
namespace Go.Proofs.YtgjnmpbahekbfaaDoor
open Go.RowKit

abbrev heapV (b : Nat) : Value := .iface 59 (.pointer (some ⟨b, 0, none⟩))
theorem mPush (b : Nat) (x : Value) (w : World) : (callMethod (.iface 59 (.pointer (some ⟨b, 0, none⟩))) "Push" #[x]).run Tryd.prog w = .ok (.enter 58 #[.pointer (some ⟨b, 0, none⟩), x]) w := by kernel_rfl
theorem mPop (b : Nat) (w : World) : (callMethod (.iface 59 (.pointer (some ⟨b, 0, none⟩))) "Pop" #[]).run Tryd.prog w = .ok (.enter 57 #[.pointer (some ⟨b, 0, none⟩)]) w := by kernel_rfl
theorem mLen (b : Nat) (w : World) : (callMethod (.iface 59 (.pointer (some ⟨b, 0, none⟩))) "Len" #[]).run Tryd.prog w = .ok (.enter 30 #[.pointer (some ⟨b, 0, none⟩)]) w := by kernel_rfl
theorem mLess (b : Nat) (x y : Value) (w : World) : (callMethod (.iface 59 (.pointer (some ⟨b, 0, none⟩))) "Less" #[x, y]).run Tryd.prog w = .ok (.enter 56 #[.pointer (some ⟨b, 0, none⟩), x, y]) w := by kernel_rfl
theorem mSwap (b : Nat) (x y : Value) (w : World) : (callMethod (.iface 59 (.pointer (some ⟨b, 0, none⟩))) "Swap" #[x, y]).run Tryd.prog w = .ok (.enter 59 #[.pointer (some ⟨b, 0, none⟩), x, y]) w := by kernel_rfl
theorem Len_any (sb n c : Nat) (A : Option Addr) (w : World) (hs : w.cell? ⟨sb, 0, none⟩ = some (.slice A n c)) :
    Calls Tryd.prog 30 #[.pointer (some ⟨sb, 0, none⟩)] w fun e w' => e = .returned (.int .i64 n) ∧ w = w' := by
  go_enter Tryd.func30, Tryd.ntmps30
  go_wp2
  go_ret
  exact ⟨rfl, rfl⟩
set_option maxRecDepth 100000 in
set_option maxHeartbeats 4000000 in
theorem Less_any (sb g n cap i j : Nat) (a b : Int) (cs : Array Value) (w : World) (hs : w.cell? ⟨sb, 0, none⟩ = some (.slice (some ⟨g, 0, none⟩) n cap)) (hg : Blk w g 3 cs) (hi : cs[i]? = some (.int .i64 a)) (hj : cs[j]? = some (.int .i64 b)) (hin : i < n) (hjn : j < n) :
    Calls Tryd.prog 56 #[.pointer (some ⟨sb, 0, none⟩), .int .i64 i, .int .i64 j] w fun e w' => e = .returned (.bool (decide (a < b))) ∧ Below w.heap.size w w' := by
  have hsl : sb < w.heap.size := World.block_lt_of_cell? _ _ hs
  have E0 : Hid (Els w sb 0 #[.slice (some ⟨g, 0, none⟩) n cap]) := Lib.hid ⟨hsl, fun k v hv => by
    match k with
    | 0 => cases hv; exact hs
    | k + 1 => simp at hv⟩
  have E1 : Hid (Els w g i #[.int .i64 a]) := Lib.hid ⟨hg.lt, fun k v hv => by
    match k with
    | 0 => cases hv; exact hg.at_ hi
    | k + 1 => simp at hv⟩
  have E2 : Hid (Els w g j #[.int .i64 b]) := Lib.hid ⟨hg.lt, fun k v hv => by
    match k with
    | 0 => cases hv; exact hg.at_ hj
    | k + 1 => simp at hv⟩
  have z1 : (0 : Int) ≤ (i : Int) := by omega
  have z2 : (i : Int) < (n : Int) := by omega
  have z3 : (0 : Int) ≤ (j : Int) := by omega
  have z4 : (j : Int) < (n : Int) := by omega
  clear hs hg hi hj
  go_enter Tryd.func56, Tryd.ntmps56
  go_wp2_with fail
  refine wp_region_gen (S := fun W' => Els W' sb 0 #[.slice (some ⟨g, 0, none⟩) n cap] ∧ Els W' g i #[.int .i64 a] ∧ Els W' g j #[.int .i64 b] ∧ Below w.heap.size w W') (by kernel_rfl) ⟨E0.out.drew, E1.out.drew, E2.out.drew, (Below.refl w.heap.size w).drew⟩ (fun w1 hS => ?_)
  refine wpAnyH_take (i := 0) (v := ?_) (op_at rfl) (by kernel_rfl) (by kernel_rfl) (by kernel_rfl) (fun _ _ _ h => h) (Or.inl ⟨by rfl, ?_⟩) hS ?_; rotate_left; focus ((intro w' hSw; clear hSw; go_simp) <;> with_reducible rfl)
  try simp only [Act.put, List.setIfInBounds_toArray, List.set_cons_zero, List.set_cons_succ]
  refine wpAnyH_take (i := 1) (v := ?_) (op_at rfl) (by kernel_rfl) (by kernel_rfl) (by kernel_rfl) (fun _ _ _ h => h) (Or.inl ⟨by rfl, ?_⟩) hS ?_; rotate_left; focus ((intro w' hSw; clear hSw; go_simp) <;> with_reducible rfl)
  try simp only [Act.put, List.setIfInBounds_toArray, List.set_cons_zero, List.set_cons_succ]
  refine wpAnyH_take (i := 2) (v := ?_) (op_at rfl) (by kernel_rfl) (by kernel_rfl) (by kernel_rfl) (fun _ _ _ h => h) (Or.inl ⟨by rfl, ?_⟩) hS ?_; rotate_left; focus ((intro w' hSw; obtain ⟨q, -⟩ := hSw; have c0 : w'.cell? ⟨sb, 0, none⟩ = some (.slice (some ⟨g, 0, none⟩) n cap) := q.at_ (i := 0) (v := .slice (some ⟨g, 0, none⟩) n cap) rfl; clear q; go_simp) <;> with_reducible rfl)
  try simp only [Act.put, List.setIfInBounds_toArray, List.set_cons_zero, List.set_cons_succ]
  refine wpAnyH_take (i := 3) (v := ?_) (op_at rfl) (by kernel_rfl) (by kernel_rfl) (by kernel_rfl) (fun _ _ _ h => h) (Or.inl ⟨by rfl, ?_⟩) hS ?_; rotate_left; focus ((intro w' hSw; clear hSw; go_simp) <;> with_reducible rfl)
  try simp only [Act.put, List.setIfInBounds_toArray, List.set_cons_zero, List.set_cons_succ]
  refine wpAnyH_take (i := 4) (v := ?_) (op_at rfl) (by kernel_rfl) (by kernel_rfl) (by kernel_rfl) (fun _ _ _ h => h) (Or.inl ⟨by rfl, ?_⟩) hS ?_; rotate_left; focus ((intro w' hSw; clear hSw; go_simp) <;> with_reducible rfl)
  try simp only [Act.put, List.setIfInBounds_toArray, List.set_cons_zero, List.set_cons_succ]
  refine wpAnyH_take (i := 5) (v := ?_) (op_at rfl) (by kernel_rfl) (by kernel_rfl) (by kernel_rfl) (fun _ _ _ h => h) (Or.inl ⟨by rfl, ?_⟩) hS ?_; rotate_left; focus ((intro w' hSw; obtain ⟨-, q, -⟩ := hSw; have c0 : w'.cell? ⟨g, i, none⟩ = some (.int .i64 a) := q.at_ (i := 0) (v := .int .i64 a) rfl; clear q; go_simp) <;> with_reducible rfl)
  try simp only [Act.put, List.setIfInBounds_toArray, List.set_cons_zero, List.set_cons_succ]
  refine wpAnyH_take (i := 6) (v := ?_) (op_at rfl) (by kernel_rfl) (by kernel_rfl) (by kernel_rfl) (fun _ _ _ h => h) (Or.inl ⟨by rfl, ?_⟩) hS ?_; rotate_left; focus ((intro w' hSw; clear hSw; go_simp) <;> with_reducible rfl)
  try simp only [Act.put, List.setIfInBounds_toArray, List.set_cons_zero, List.set_cons_succ]
  refine wpAnyH_take (i := 7) (v := ?_) (op_at rfl) (by kernel_rfl) (by kernel_rfl) (by kernel_rfl) (fun _ _ _ h => h) (Or.inl ⟨by rfl, ?_⟩) hS ?_; rotate_left; focus ((intro w' hSw; clear hSw; go_simp) <;> with_reducible rfl)
  try simp only [Act.put, List.setIfInBounds_toArray, List.set_cons_zero, List.set_cons_succ]
  refine wpAnyH_take (i := 8) (v := ?_) (op_at rfl) (by kernel_rfl) (by kernel_rfl) (by kernel_rfl) (fun _ _ _ h => h) (Or.inl ⟨by rfl, ?_⟩) hS ?_; rotate_left; focus ((intro w' hSw; obtain ⟨q, -⟩ := hSw; have c0 : w'.cell? ⟨sb, 0, none⟩ = some (.slice (some ⟨g, 0, none⟩) n cap) := q.at_ (i := 0) (v := .slice (some ⟨g, 0, none⟩) n cap) rfl; clear q; go_simp) <;> with_reducible rfl)
  try simp only [Act.put, List.setIfInBounds_toArray, List.set_cons_zero, List.set_cons_succ]
  refine wpAnyH_take (i := 9) (v := ?_) (op_at rfl) (by kernel_rfl) (by kernel_rfl) (by kernel_rfl) (fun _ _ _ h => h) (Or.inl ⟨by rfl, ?_⟩) hS ?_; rotate_left; focus ((intro w' hSw; clear hSw; go_simp) <;> with_reducible rfl)
  try simp only [Act.put, List.setIfInBounds_toArray, List.set_cons_zero, List.set_cons_succ]
  refine wpAnyH_take (i := 10) (v := ?_) (op_at rfl) (by kernel_rfl) (by kernel_rfl) (by kernel_rfl) (fun _ _ _ h => h) (Or.inl ⟨by rfl, ?_⟩) hS ?_; rotate_left; focus ((intro w' hSw; clear hSw; go_simp) <;> with_reducible rfl)
  try simp only [Act.put, List.setIfInBounds_toArray, List.set_cons_zero, List.set_cons_succ]
  refine wpAnyH_take (i := 11) (v := ?_) (op_at rfl) (by kernel_rfl) (by kernel_rfl) (by kernel_rfl) (fun _ _ _ h => h) (Or.inl ⟨by rfl, ?_⟩) hS ?_; rotate_left; focus ((intro w' hSw; obtain ⟨-, -, q, -⟩ := hSw; have c0 : w'.cell? ⟨g, j, none⟩ = some (.int .i64 b) := q.at_ (i := 0) (v := .int .i64 b) rfl; clear q; go_simp) <;> with_reducible rfl)
  try simp only [Act.put, List.setIfInBounds_toArray, List.set_cons_zero, List.set_cons_succ]
  refine wpAnyH_take (i := 12) (v := ?_) (op_at rfl) (by kernel_rfl) (by kernel_rfl) (by kernel_rfl) (fun _ _ _ h => h) (Or.inl ⟨by rfl, ?_⟩) hS ?_; rotate_left; focus ((intro w' hSw; clear hSw; go_simp) <;> with_reducible rfl)
  try simp only [Act.put, List.setIfInBounds_toArray, List.set_cons_zero, List.set_cons_succ]
  refine wpAnyH_take (i := 13) (v := ?_) (op_at rfl) (by kernel_rfl) (by kernel_rfl) (by kernel_rfl) (fun _ _ _ h => h) (Or.inl ⟨by rfl, ?_⟩) hS ?_; rotate_left; focus ((intro w' hSw; clear hSw; go_simp) <;> with_reducible rfl)
  try simp only [Act.put, List.setIfInBounds_toArray, List.set_cons_zero, List.set_cons_succ]
  refine wpAnyH_done (by kernel_rfl) ?_ _
  obtain ⟨-, -, -, hb⟩ := hS
  have HB := Lib.hid hb
  clear hb
  go_wp2_with fail
  go_ret
  exact ⟨rfl, HB.out⟩
/-- two elements changed about -/
def swapA (cs : Array Value) (i j : Nat) (a b : Int) : Array Value := (cs.setIfInBounds i (.int .i64 b)).setIfInBounds j (.int .i64 a)
set_option maxRecDepth 100000 in
set_option maxHeartbeats 4000000 in
theorem Swap_any (sb g n cap i j : Nat) (a b : Int) (cs : Array Value) (w : World) (hs : w.cell? ⟨sb, 0, none⟩ = some (.slice (some ⟨g, 0, none⟩) n cap)) (hg : Blk w g 3 cs) (hi : cs[i]? = some (.int .i64 a)) (hj : cs[j]? = some (.int .i64 b)) (hin : i < n) (hjn : j < n) (hne : sb ≠ g) :
    Calls Tryd.prog 59 #[.pointer (some ⟨sb, 0, none⟩), .int .i64 i, .int .i64 j] w fun e w' => e = .returned (.tuple #[]) ∧ Blk w' g 3 (swapA cs i j a b) ∧ Turns (· = g) w w' := by
  have hsl : sb < w.heap.size := World.block_lt_of_cell? _ _ hs
  have E0 : Hid (Els w sb 0 #[.slice (some ⟨g, 0, none⟩) n cap]) := Lib.hid ⟨hsl, fun k v hv => by
    match k with
    | 0 => cases hv; exact hs
    | k + 1 => simp at hv⟩
  have HG := Lib.hid hg
  have HI := Lib.hid hi
  have HJ := Lib.hid hj
  have z1 : (0 : Int) ≤ (i : Int) := by omega
  have z2 : (i : Int) < (n : Int) := by omega
  have z3 : (0 : Int) ≤ (j : Int) := by omega
  have z4 : (j : Int) < (n : Int) := by omega
  clear hs hg hi hj
  go_enter Tryd.func59, Tryd.ntmps59
  go_wp2_with fail
  refine wp_region_gen2 (S := fun W' => Els W' sb 0 #[.slice (some ⟨g, 0, none⟩) n cap] ∧ (∃ c2, Blk W' g 3 c2 ∧ c2.size = cs.size) ∧ Turns (· = g) w W') (N := fun W' => Blk W' g 3 cs) (by kernel_rfl) ⟨E0.out.drew, ⟨_, HG.out.drew, rfl⟩, (Turns.refl _ w).drew⟩ HG.out.drew (fun w1 hS hN => ?_)
  have N0 := Lib.hid hN
  clear hN
  refine wpAnyH_take (i := 0) (v := ?_) (op_at rfl) (by kernel_rfl) (by kernel_rfl) (by kernel_rfl) (fun _ _ _ h => h) (Or.inl ⟨by rfl, ?_⟩) hS ?_; rotate_left; focus ((intro w' hSw; clear hSw; go_simp) <;> with_reducible rfl)
  try simp only [Act.put, List.setIfInBounds_toArray, List.set_cons_zero, List.set_cons_succ]
  refine wpAnyH_take (i := 1) (v := ?_) (op_at rfl) (by kernel_rfl) (by kernel_rfl) (by kernel_rfl) (fun _ _ _ h => h) (Or.inl ⟨by rfl, ?_⟩) hS ?_; rotate_left; focus ((intro w' hSw; clear hSw; go_simp) <;> with_reducible rfl)
  try simp only [Act.put, List.setIfInBounds_toArray, List.set_cons_zero, List.set_cons_succ]
  refine wpAnyH_take (i := 2) (v := ?_) (op_at rfl) (by kernel_rfl) (by kernel_rfl) (by kernel_rfl) (fun _ _ _ h => h) (Or.inl ⟨by rfl, ?_⟩) hS ?_; rotate_left; focus ((intro w' hSw; obtain ⟨q, -⟩ := hSw; have c0 : w'.cell? ⟨sb, 0, none⟩ = some (.slice (some ⟨g, 0, none⟩) n cap) := q.at_ (i := 0) (v := .slice (some ⟨g, 0, none⟩) n cap) rfl; clear q; go_simp) <;> with_reducible rfl)
  try simp only [Act.put, List.setIfInBounds_toArray, List.set_cons_zero, List.set_cons_succ]
  refine wpAnyH_take (i := 3) (v := ?_) (op_at rfl) (by kernel_rfl) (by kernel_rfl) (by kernel_rfl) (fun _ _ _ h => h) (Or.inl ⟨by rfl, ?_⟩) hS ?_; rotate_left; focus ((intro w' hSw; clear hSw; go_simp) <;> with_reducible rfl)
  try simp only [Act.put, List.setIfInBounds_toArray, List.set_cons_zero, List.set_cons_succ]
  refine wpAnyH_take (i := 4) (v := ?_) (op_at rfl) (by kernel_rfl) (by kernel_rfl) (by kernel_rfl) (fun _ _ _ h => h) (Or.inl ⟨by rfl, ?_⟩) hS ?_; rotate_left; focus ((intro w' hSw; clear hSw; go_simp) <;> with_reducible rfl)
  try simp only [Act.put, List.setIfInBounds_toArray, List.set_cons_zero, List.set_cons_succ]
  refine wpAnyH_take (i := 5) (v := ?_) (op_at rfl) (by kernel_rfl) (by kernel_rfl) (by kernel_rfl) (fun _ _ _ h => h) (Or.inl ⟨by rfl, ?_⟩) hS ?_; rotate_left; focus ((intro w' hSw; clear hSw; go_simp) <;> with_reducible rfl)
  try simp only [Act.put, List.setIfInBounds_toArray, List.set_cons_zero, List.set_cons_succ]
  refine wpAnyH_take (i := 6) (v := ?_) (op_at rfl) (by kernel_rfl) (by kernel_rfl) (by kernel_rfl) (fun _ _ _ h => h) (Or.inl ⟨by rfl, ?_⟩) hS ?_; rotate_left; focus ((intro w' hSw; obtain ⟨q, -⟩ := hSw; have c0 : w'.cell? ⟨sb, 0, none⟩ = some (.slice (some ⟨g, 0, none⟩) n cap) := q.at_ (i := 0) (v := .slice (some ⟨g, 0, none⟩) n cap) rfl; clear q; go_simp) <;> with_reducible rfl)
  try simp only [Act.put, List.setIfInBounds_toArray, List.set_cons_zero, List.set_cons_succ]
  refine wpAnyH_take (i := 7) (v := ?_) (op_at rfl) (by kernel_rfl) (by kernel_rfl) (by kernel_rfl) (fun _ _ _ h => h) (Or.inl ⟨by rfl, ?_⟩) hS ?_; rotate_left; focus ((intro w' hSw; clear hSw; go_simp) <;> with_reducible rfl)
  try simp only [Act.put, List.setIfInBounds_toArray, List.set_cons_zero, List.set_cons_succ]
  refine wpAnyH_take (i := 8) (v := ?_) (op_at rfl) (by kernel_rfl) (by kernel_rfl) (by kernel_rfl) (fun _ _ _ h => h) (Or.inl ⟨by rfl, ?_⟩) hS ?_; rotate_left; focus ((intro w' hSw; clear hSw; go_simp) <;> with_reducible rfl)
  try simp only [Act.put, List.setIfInBounds_toArray, List.set_cons_zero, List.set_cons_succ]
  refine wpAnyH_take (i := 9) (v := ?_) (op_at rfl) (by kernel_rfl) (by kernel_rfl) (by kernel_rfl) (fun _ _ _ h => h) (Or.inl ⟨by rfl, ?_⟩) hS ?_; rotate_left; focus ((intro w' hSw; clear hSw; go_simp) <;> with_reducible rfl)
  try simp only [Act.put, List.setIfInBounds_toArray, List.set_cons_zero, List.set_cons_succ]
  refine wpAnyH_take (i := 10) (v := ?_) (op_at rfl) (by kernel_rfl) (by kernel_rfl) (by kernel_rfl) (fun _ _ _ h => h) (Or.inl ⟨by rfl, ?_⟩) hS ?_; rotate_left; focus ((intro w' hSw; obtain ⟨q, -⟩ := hSw; have c0 : w'.cell? ⟨sb, 0, none⟩ = some (.slice (some ⟨g, 0, none⟩) n cap) := q.at_ (i := 0) (v := .slice (some ⟨g, 0, none⟩) n cap) rfl; clear q; go_simp) <;> with_reducible rfl)
  try simp only [Act.put, List.setIfInBounds_toArray, List.set_cons_zero, List.set_cons_succ]
  refine wpAnyH_take (i := 11) (v := ?_) (op_at rfl) (by kernel_rfl) (by kernel_rfl) (by kernel_rfl) (fun _ _ _ h => h) (Or.inl ⟨by rfl, ?_⟩) hS ?_; rotate_left; focus ((intro w' hSw; clear hSw; go_simp) <;> with_reducible rfl)
  try simp only [Act.put, List.setIfInBounds_toArray, List.set_cons_zero, List.set_cons_succ]
  refine wpAnyH_take (i := 12) (v := ?_) (op_at rfl) (by kernel_rfl) (by kernel_rfl) (by kernel_rfl) (fun _ _ _ h => h) (Or.inl ⟨by rfl, ?_⟩) hS ?_; rotate_left; focus ((intro w' hSw; clear hSw; go_simp) <;> with_reducible rfl)
  try simp only [Act.put, List.setIfInBounds_toArray, List.set_cons_zero, List.set_cons_succ]
  refine wpAnyH_take (i := 14) (v := ?_) (op_at rfl) (by kernel_rfl) (by kernel_rfl) (by kernel_rfl) (fun _ _ _ h => h) (Or.inl ⟨by rfl, ?_⟩) hS ?_; rotate_left; focus ((intro w' hSw; clear hSw; go_simp) <;> with_reducible rfl)
  try simp only [Act.put, List.setIfInBounds_toArray, List.set_cons_zero, List.set_cons_succ]
  refine wpAnyH_take (i := 15) (v := ?_) (op_at rfl) (by kernel_rfl) (by kernel_rfl) (by kernel_rfl) (fun _ _ _ h => h) (Or.inl ⟨by rfl, ?_⟩) hS ?_; rotate_left; focus ((intro w' hSw; clear hSw; go_simp) <;> with_reducible rfl)
  try simp only [Act.put, List.setIfInBounds_toArray, List.set_cons_zero, List.set_cons_succ]
  refine wpAnyH_take (i := 16) (v := ?_) (op_at rfl) (by kernel_rfl) (by kernel_rfl) (by kernel_rfl) (fun _ _ _ h => h) (Or.inl ⟨by rfl, ?_⟩) hS ?_; rotate_left; focus ((intro w' hSw; obtain ⟨q, -⟩ := hSw; have c0 : w'.cell? ⟨sb, 0, none⟩ = some (.slice (some ⟨g, 0, none⟩) n cap) := q.at_ (i := 0) (v := .slice (some ⟨g, 0, none⟩) n cap) rfl; clear q; go_simp) <;> with_reducible rfl)
  try simp only [Act.put, List.setIfInBounds_toArray, List.set_cons_zero, List.set_cons_succ]
  refine wpAnyH_take (i := 17) (v := ?_) (op_at rfl) (by kernel_rfl) (by kernel_rfl) (by kernel_rfl) (fun _ _ _ h => h) (Or.inl ⟨by rfl, ?_⟩) hS ?_; rotate_left; focus ((intro w' hSw; clear hSw; go_simp) <;> with_reducible rfl)
  try simp only [Act.put, List.setIfInBounds_toArray, List.set_cons_zero, List.set_cons_succ]
  refine wpAnyH_take (i := 18) (v := ?_) (op_at rfl) (by kernel_rfl) (by kernel_rfl) (by kernel_rfl) (fun _ _ _ h => h) (Or.inl ⟨by rfl, ?_⟩) hS ?_; rotate_left; focus ((intro w' hSw; clear hSw; go_simp) <;> with_reducible rfl)
  try simp only [Act.put, List.setIfInBounds_toArray, List.set_cons_zero, List.set_cons_succ]
  refine wpAnyH_ready (rs := [13, 19]) (by kernel_rfl) (by simp) ?_
  refine (AllReadyH.cons (op_at rfl) (fun K hK => ?_) (AllReadyH.cons (op_at rfl) (fun K hK => ?_) AllReadyH.nil))
  ·
    have pc : w1.cell? ⟨g, j, none⟩ = some (.int .i64 b) := N0.out.at_ HJ.out
    go_simp
    clear pc
    refine hK.out _ _ hS (fun hS => ?_)
    clear hK K
    try simp only [Act.put, List.setIfInBounds_toArray, List.set_cons_zero, List.set_cons_succ]
    refine wpAnyH_ready (rs := [19]) (by kernel_rfl) (by simp) ?_
    refine (AllReadyH.cons (op_at rfl) (fun K hK => ?_) AllReadyH.nil)
    have pc : w1.cell? ⟨g, i, none⟩ = some (.int .i64 a) := N0.out.at_ HI.out
    go_simp
    clear pc
    refine hK.out _ _ hS (fun hS => ?_)
    clear hK K
    try simp only [Act.put, List.setIfInBounds_toArray, List.set_cons_zero, List.set_cons_succ]
    refine wpAnyH_take (i := 20) (v := ?_) (op_at rfl) (by kernel_rfl) (by kernel_rfl) (by kernel_rfl) (fun _ _ _ h => h) (Or.inl ⟨by rfl, ?_⟩) hS ?_; rotate_left; focus ((intro w' hSw; clear hSw; go_simp) <;> with_reducible rfl)
    try simp only [Act.put, List.setIfInBounds_toArray, List.set_cons_zero, List.set_cons_succ]
    refine wpAnyH_ready (rs := [21]) (by kernel_rfl) (by simp) ?_
    refine (AllReadyH.cons (op_at rfl) (fun K hK => ?_) AllReadyH.nil)
    have pc : w1.cell? ⟨g, i, none⟩ = some (.int .i64 a) := N0.out.at_ HI.out
    have fc := N0.out.frozen i
    go_simp
    clear pc fc
    obtain ⟨b0, -, hb⟩ := hS
    have N1 := Lib.hid (Blk.set' (u := .int .i64 b) (i := i) N0.out rfl)
    refine hK.out _ _ ⟨b0.far hne _, ⟨_, N1.out, by simp⟩, hb.setCell (p := ⟨g, i, none⟩) rfl _⟩ (fun hS => ?_)
    clear hK K b0 hb
    try simp only [Act.put, List.setIfInBounds_toArray, List.set_cons_zero, List.set_cons_succ]
    refine wpAnyH_take (i := 22) (v := ?_) (op_at rfl) (by kernel_rfl) (by kernel_rfl) (by kernel_rfl) (fun _ _ _ h => h) (Or.inl ⟨by rfl, ?_⟩) hS ?_; rotate_left; focus ((intro w' hSw; clear hSw; go_simp) <;> with_reducible rfl)
    try simp only [Act.put, List.setIfInBounds_toArray, List.set_cons_zero, List.set_cons_succ]
    refine wpAnyH_ready (rs := [23]) (by kernel_rfl) (by simp) ?_
    refine (AllReadyH.cons (op_at rfl) (fun K hK => ?_) AllReadyH.nil)
    obtain ⟨z, hz⟩ : ∃ z, (cs.setIfInBounds i (.int .i64 b))[j]? = some z := ⟨_, Array.getElem?_eq_getElem (by have := (Array.getElem?_eq_some_iff.1 HJ.out).1; simpa using this)⟩
    have pc := N1.out.at_ hz
    have fc := N1.out.frozen j
    go_simp
    clear pc fc
    obtain ⟨b0, -, hb⟩ := hS
    have N2 := Lib.hid (Blk.set' (u := .int .i64 a) (i := j) N1.out rfl)
    refine hK.out _ _ ⟨b0.far hne _, ⟨_, N2.out, by simp⟩, hb.setCell (p := ⟨g, j, none⟩) rfl _⟩ (fun hS => ?_)
    clear hK K b0 hb
    try simp only [Act.put, List.setIfInBounds_toArray, List.set_cons_zero, List.set_cons_succ]
    refine wpAnyH_done (by kernel_rfl) ?_ _
    obtain ⟨-, -, hb⟩ := hS
    have HB := Lib.hid hb
    clear hb
    go_wp2_with fail
    go_end0
    exact ⟨rfl, N2.out, HB.out⟩
  ·
    have pc : w1.cell? ⟨g, i, none⟩ = some (.int .i64 a) := N0.out.at_ HI.out
    go_simp
    clear pc
    refine hK.out _ _ hS (fun hS => ?_)
    clear hK K
    try simp only [Act.put, List.setIfInBounds_toArray, List.set_cons_zero, List.set_cons_succ]
    refine wpAnyH_ready (rs := [13]) (by kernel_rfl) (by simp) ?_
    refine (AllReadyH.cons (op_at rfl) (fun K hK => ?_) AllReadyH.nil)
    have pc : w1.cell? ⟨g, j, none⟩ = some (.int .i64 b) := N0.out.at_ HJ.out
    go_simp
    clear pc
    refine hK.out _ _ hS (fun hS => ?_)
    clear hK K
    try simp only [Act.put, List.setIfInBounds_toArray, List.set_cons_zero, List.set_cons_succ]
    refine wpAnyH_take (i := 20) (v := ?_) (op_at rfl) (by kernel_rfl) (by kernel_rfl) (by kernel_rfl) (fun _ _ _ h => h) (Or.inl ⟨by rfl, ?_⟩) hS ?_; rotate_left; focus ((intro w' hSw; clear hSw; go_simp) <;> with_reducible rfl)
    try simp only [Act.put, List.setIfInBounds_toArray, List.set_cons_zero, List.set_cons_succ]
    refine wpAnyH_ready (rs := [21]) (by kernel_rfl) (by simp) ?_
    refine (AllReadyH.cons (op_at rfl) (fun K hK => ?_) AllReadyH.nil)
    have pc : w1.cell? ⟨g, i, none⟩ = some (.int .i64 a) := N0.out.at_ HI.out
    have fc := N0.out.frozen i
    go_simp
    clear pc fc
    obtain ⟨b0, -, hb⟩ := hS
    have N1 := Lib.hid (Blk.set' (u := .int .i64 b) (i := i) N0.out rfl)
    refine hK.out _ _ ⟨b0.far hne _, ⟨_, N1.out, by simp⟩, hb.setCell (p := ⟨g, i, none⟩) rfl _⟩ (fun hS => ?_)
    clear hK K b0 hb
    try simp only [Act.put, List.setIfInBounds_toArray, List.set_cons_zero, List.set_cons_succ]
    refine wpAnyH_take (i := 22) (v := ?_) (op_at rfl) (by kernel_rfl) (by kernel_rfl) (by kernel_rfl) (fun _ _ _ h => h) (Or.inl ⟨by rfl, ?_⟩) hS ?_; rotate_left; focus ((intro w' hSw; clear hSw; go_simp) <;> with_reducible rfl)
    try simp only [Act.put, List.setIfInBounds_toArray, List.set_cons_zero, List.set_cons_succ]
    refine wpAnyH_ready (rs := [23]) (by kernel_rfl) (by simp) ?_
    refine (AllReadyH.cons (op_at rfl) (fun K hK => ?_) AllReadyH.nil)
    obtain ⟨z, hz⟩ : ∃ z, (cs.setIfInBounds i (.int .i64 b))[j]? = some z := ⟨_, Array.getElem?_eq_getElem (by have := (Array.getElem?_eq_some_iff.1 HJ.out).1; simpa using this)⟩
    have pc := N1.out.at_ hz
    have fc := N1.out.frozen j
    go_simp
    clear pc fc
    obtain ⟨b0, -, hb⟩ := hS
    have N2 := Lib.hid (Blk.set' (u := .int .i64 a) (i := j) N1.out rfl)
    refine hK.out _ _ ⟨b0.far hne _, ⟨_, N2.out, by simp⟩, hb.setCell (p := ⟨g, j, none⟩) rfl _⟩ (fun hS => ?_)
    clear hK K b0 hb
    try simp only [Act.put, List.setIfInBounds_toArray, List.set_cons_zero, List.set_cons_succ]
    refine wpAnyH_done (by kernel_rfl) ?_ _
    obtain ⟨-, -, hb⟩ := hS
    have HB := Lib.hid hb
    clear hb
    go_wp2_with fail
    go_end0
    exact ⟨rfl, N2.out, HB.out⟩
end Go.Proofs.YtgjnmpbahekbfaaDoor
