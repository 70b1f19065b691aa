/-
  PACKAGES sync/atomic, slots: the counter's methods; Used.
-/
import Derived.Test.YtgjnmpbahekbfaaDoorSlG
namespace Go.Proofs.YtgjnmpbahekbfaaDoor
open Go.RowKit

theorem Els.cell1 {w : World} {b : Nat} {v : Value} (h : w.cell? ⟨b, 0, none⟩ = some v) : Els w b 0 #[v] := Els.one h
theorem SentS.e0 {w : World} {a b : Addr} (h : SentS w a b) : Els w 0 0 #[errE a] := Els.one h.c0
theorem SentS.e1 {w : World} {a b : Addr} (h : SentS w a b) : Els w 1 0 #[errE b] := Els.one h.c1
theorem Add_any (a : Nat) (o : Nat) (n d : Int) (w : World) (ha : w.cell? ⟨a, o, none⟩ = some (.int .i64 n)) (hf : w.frozen? ⟨a, o, none⟩ = false) :
    Calls Tryd.prog 32 #[.pointer (some ⟨a, o, none⟩), .int .i64 d] w fun e w' => e = .returned (.int .i64 (wrap64 (n + d))) ∧ w' = w.setCell ⟨a, o, none⟩ (.int .i64 (wrap64 (n + d))) := by
  have hA := add64 ⟨a, o, none⟩ n d w ha hf
  go_enter Tryd.func32, Tryd.ntmps32
  go_wp2_with fail
  go_ret
  exact ⟨rfl, rfl⟩
theorem Load_any (a : Nat) (o : Nat) (n : Int) (w : World) (ha : w.cell? ⟨a, o, none⟩ = some (.int .i64 n)) :
    Calls Tryd.prog 26 #[.pointer (some ⟨a, o, none⟩)] w fun e w' => e = .returned (.int .i64 n) ∧ w = w' := by
  have hA := load64 ⟨a, o, none⟩ n w ha
  go_enter Tryd.func26, Tryd.ntmps26
  go_wp2_with fail
  go_ret
  exact ⟨rfl, rfl⟩
theorem Used_nil (w : World) :
    Calls Tryd.prog 13 #[.pointer none] w fun e w' => e = .returned (.int .i64 0) ∧ w = w' := by
  go_enter Tryd.func13, Tryd.ntmps13
  go_wp2_with fail
  go_ret
  exact ⟨rfl, rfl⟩
theorem Used_any (sb : Nat) (v gv tv : Value) (un : Int) (w : World) (hs : Blk w sb 57 (slotsC v gv tv un)) :
    Calls Tryd.prog 13 #[.pointer (some ⟨sb, 0, none⟩)] w fun e w' => e = .returned (.int .i64 un) ∧ w = w' := by
  have p0 := hs.at_ (i := 3) (v := .int .i64 un) rfl
  go_enter Tryd.func13, Tryd.ntmps13
  go_wp2_with fail
  refine (Load_any sb 3 un w p0).mono ?_
  rintro e w1 ⟨rfl, rfl⟩
  go_wp2_with fail
  go_ret
  exact ⟨rfl, rfl⟩
theorem live_nil (w : World) (h : Value) (hh : ∃ a b : Int, h = .agg #[.int .i64 a, .int .i64 b]) :
    Calls Tryd.prog 17 #[.pointer none, h] w fun e w' => e = .returned (.bool false) ∧ Below w.heap.size w w' := by
  obtain ⟨a, b, rfl⟩ := hh
  go_enter Tryd.func17, Tryd.ntmps17
  go_wp2_with fail
  go_ret
  exact ⟨rfl, (Below.refl _ _).alloc (Nat.le_refl _) _⟩
theorem give_nil (w : World) (h : Value) (hh : ∃ a b : Int, h = .agg #[.int .i64 a, .int .i64 b]) :
    Calls Tryd.prog 12 #[.pointer none, h] w fun e w' => e = .returned (.int .i64 1) ∧ Below w.heap.size w w' := by
  obtain ⟨a, b, rfl⟩ := hh
  go_enter Tryd.func12, Tryd.ntmps12
  go_wp2_with fail
  go_ret
  exact ⟨rfl, (Below.refl _ _).alloc (Nat.le_refl _) _⟩
theorem all_nil (w : World) :
    Calls Tryd.prog 14 #[.pointer none] w fun e w' => e = .returned (.slice none 0 0) ∧ w = w' := by
  go_enter Tryd.func14, Tryd.ntmps14
  go_wp2_with fail
  go_ret
  exact ⟨rfl, rfl⟩
end Go.Proofs.YtgjnmpbahekbfaaDoor
