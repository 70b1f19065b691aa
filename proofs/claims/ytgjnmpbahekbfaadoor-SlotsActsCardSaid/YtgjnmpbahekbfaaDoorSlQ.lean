/-
  PACKAGE slots: New.
-/
import Derived.Test.YtgjnmpbahekbfaaDoorSlP
import Derived.Laws.MakeOwn
namespace Go.Proofs.YtgjnmpbahekbfaaDoor
open Go.RowKit

theorem made_one (z : Value) (n : Nat) : madeCells #[z] n = ⟨List.replicate n z⟩ := by
  unfold madeCells
  apply Array.ext'
  apply List.ext_getElem
  · simp
  · intro i h1 h2
    simp [Nat.mod_one]
theorem infoB : (Tryd.prog.info? 4).map (fun i => (i.zero, i.size, i.bytes)) = some (some (.bool false), 1, 1) := by kernel_rfl
theorem makeI (n : Nat) (hn : n ≤ 64) (w : World) : (Instr.makeSlice 34 (.int .i64 n) (.int .i64 n)).run Tryd.prog w = .ok (.slice (some ⟨w.heap.size, 0, none⟩) n n) (w.alloc (.cells ⟨(List.replicate n (0 : Int)).map vI⟩ 3)) := by
  obtain ⟨i, hi, hz, hs, hb⟩ := info_parts infoI
  have h := run_makeSlice (P := Tryd.prog) w 34 3 i _ Tryd.underlying34 hi hz .i64 .i64 n n (by omega) (by omega) (by rw [hs]; omega) (by rw [hb]; omega) (by omega)
  rw [hs] at h
  simp only [Int.toNat_natCast, Nat.mul_one] at h
  rw [h, show (Value.int .i64 0).cells = #[.int .i64 0] from rfl, made_one, List.map_replicate]; try rfl
theorem makeB (n : Nat) (hn : n ≤ 64) (w : World) : (Instr.makeSlice 47 (.int .i64 n) (.int .i64 n)).run Tryd.prog w = .ok (.slice (some ⟨w.heap.size, 0, none⟩) n n) (w.alloc (.cells ⟨(List.replicate n false).map vB⟩ 4)) := by
  obtain ⟨i, hi, hz, hs, hb⟩ := info_parts infoB
  have h := run_makeSlice (P := Tryd.prog) w 47 4 i _ Tryd.underlying47 hi hz .i64 .i64 n n (by omega) (by omega) (by rw [hs]; omega) (by rw [hb]; omega) (by omega)
  rw [hs] at h
  simp only [Int.toNat_natCast, Nat.mul_one] at h
  rw [h, show (Value.bool false).cells = #[.bool false] from rfl, made_one, List.map_replicate]; try rfl
end Go.Proofs.YtgjnmpbahekbfaaDoor
