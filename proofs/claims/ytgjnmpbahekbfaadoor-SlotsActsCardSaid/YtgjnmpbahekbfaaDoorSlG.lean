/-
  PACKAGE slots: errors.Is at its two sentinels; told.
-/
import Derived.Test.YtgjnmpbahekbfaaDoorSlF
import Derived.LaidEql
import Derived.Stop.Asserts
import Derived.RowKitTokens
namespace Go.Proofs.YtgjnmpbahekbfaaDoor
open Go.RowKit Go.Extern.Stop Go.Stop Go.Extern

theorem isTypeOf (v : Value) (w : World) : (callFunc 38 #[.iface 105 v]).run Tryd.prog w = .ok (.value (.iface 95 (.agg #[.pointer (some ⟨2, 105, none⟩)]))) w := by kernel_rfl
theorem isComparable (w : World) : (callFunc 65 #[.agg #[.pointer (some ⟨2, 105, none⟩)]]).run Tryd.prog w = .ok (.value (.bool true)) w := by kernel_rfl
theorem isMethodComparable (v : Value) (w : World) : (Go.method 242 95 v "Comparable").run Tryd.prog w = .ok (65, v) w := by kernel_rfl
theorem isComp : (Tryd.prog.info? 105).map (·.comparable) = some true := by kernel_rfl
theorem isSize : (Tryd.prog.info? 130).map (·.size) = some 1 := by kernel_rfl
theorem noIsE (v : Value) (xT : TypeId) (w : World) : (Instr.typeAssert (.iface 105 v) xT 97 true).run Tryd.prog w = .ok (.tuple #[.nilIface, .bool false]) w := run_typeAssert_lacksB Tryd.underlying97 (by kernel_rfl) (by kernel_rfl) v xT w
theorem noUnwrapE (v : Value) (xT : TypeId) (w : World) : (Instr.typeAssert (.iface 105 v) xT 100 true).run Tryd.prog w = .ok (.tuple #[.nilIface, .bool false]) w := run_typeAssert_lacksB Tryd.underlying100 (by kernel_rfl) (by kernel_rfl) v xT w
theorem noUnwrapsE (v : Value) (xT : TypeId) (w : World) : (Instr.typeAssert (.iface 105 v) xT 102 true).run Tryd.prog w = .ok (.tuple #[.nilIface, .bool false]) w := run_typeAssert_lacksB Tryd.underlying102 (by kernel_rfl) (by kernel_rfl) v xT w

/-- a pointer to an errors.errorString, as an error -/
def errE (a : Addr) : Value := .iface 105 (.pointer (some a))

set_option maxRecDepth 100000 in
set_option maxHeartbeats 2000000 in
theorem isE_same (a : Addr) (w : World) :
    Calls Tryd.prog 33 #[errE a, errE a] w fun e w' => e = .returned (.bool true) ∧ w = w' := by
  unfold errE
  obtain ⟨i, hi, hcmp⟩ := Option.map_eq_some_iff.1 isComp
  obtain ⟨j, hj, hjs⟩ := Option.map_eq_some_iff.1 isSize
  have tT := isTypeOf
  have cT := isComparable
  have mR := isMethodComparable
  have heq := run_eql_iface_ptr_same (P := Tryd.prog) w a Tryd.underlying61 Tryd.underlying105 hi hcmp hj
  go_enter Tryd.func33, Tryd.ntmps33
  go_wp2
  refine wp_loop_rounds 1 ?_
  rw [rounds_succ]
  go_wp2
  go_ret
  exact ⟨rfl, rfl⟩
set_option maxRecDepth 100000 in
set_option maxHeartbeats 2000000 in
theorem isE_nil (a : Addr) (w : World) :
    Calls Tryd.prog 33 #[.nilIface, errE a] w fun e w' => e = .returned (.bool false) ∧ w = w' := by
  unfold errE
  have hn := run_eql_iface_nil_left (P := Tryd.prog) w 105 (.pointer (some a)) Tryd.underlying61
  go_enter Tryd.func33, Tryd.ntmps33
  go_wp2
  go_ret
  exact ⟨rfl, rfl⟩
set_option maxRecDepth 100000 in
set_option maxHeartbeats 2000000 in
theorem isE_other (a b : Addr) (ca cb : Array Value) (ta tb : TypeId) (w : World) (hne : a ≠ b) (ha : w.heap[a.block]? = some (.cells ca ta (0, 0))) (hb : w.heap[b.block]? = some (.cells cb tb (0, 0))) :
    Calls Tryd.prog 33 #[errE a, errE b] w fun e w' => e = .returned (.bool false) ∧ w = w' := by
  unfold errE
  obtain ⟨i, hi, hcmp⟩ := Option.map_eq_some_iff.1 isComp
  obtain ⟨j, hj, hjs⟩ := Option.map_eq_some_iff.1 isSize
  have tT := isTypeOf
  have cT := isComparable
  have mR := isMethodComparable
  have nE := noIsE
  have uE := noUnwrapE
  have vE := noUnwrapsE
  have heq := run_eql_iface_ptr_other (P := Tryd.prog) w Tryd.underlying61 Tryd.underlying105 hi hcmp hj (by rw [hjs]; decide) hne ha hb
  go_enter Tryd.func33, Tryd.ntmps33
  go_wp2
  refine wp_loop_rounds 1 ?_
  rw [rounds_succ]
  go_wp2
  go_ret
  exact ⟨rfl, rfl⟩

/-- THE TWO SENTINELS: what the variables hold; they differ, and lie in rows of cells. -/
structure SentS (w : World) (a b : Addr) : Prop where
  c0 : w.cell? ⟨0, 0, none⟩ = some (errE a)
  c1 : w.cell? ⟨1, 0, none⟩ = some (errE b)
  ne : a ≠ b
  h0 : ∃ c t, w.heap[a.block]? = some (.cells c t (0, 0))
  h1 : ∃ c t, w.heap[b.block]? = some (.cells c t (0, 0))
theorem SentS.lt {w : World} {a b : Addr} (h : SentS w a b) : 0 < w.heap.size ∧ 1 < w.heap.size ∧ a.block < w.heap.size ∧ b.block < w.heap.size := by
  obtain ⟨c, t, h0⟩ := h.h0
  obtain ⟨d, u, h1⟩ := h.h1
  exact ⟨World.block_lt_of_cell? _ _ h.c0, World.block_lt_of_cell? _ _ h.c1, (Array.getElem?_eq_some_iff.1 h0).1, (Array.getElem?_eq_some_iff.1 h1).1⟩

set_option maxHeartbeats 1000000 in
theorem told_nil (a b : Addr) (w : World) (hs : SentS w a b) :
    Calls Tryd.prog 24 #[.nilIface] w fun e w' => e = .returned (.int .i64 0) ∧ w = w' := by
  have c0 := hs.c0
  have c1 := hs.c1
  clear hs
  go_enter Tryd.func24, Tryd.ntmps24
  go_wp2_with fail
  refine (isE_nil a w).mono ?_
  rintro e w1 ⟨rfl, rfl⟩
  go_wp2_with fail
  refine (isE_nil b w).mono ?_
  rintro e w1 ⟨rfl, rfl⟩
  go_wp2_with fail
  go_ret
  exact ⟨rfl, rfl⟩
set_option maxHeartbeats 1000000 in
theorem told_slots (a b : Addr) (w : World) (hs : SentS w a b) :
    Calls Tryd.prog 24 #[errE a] w fun e w' => e = .returned (.int .i64 60) ∧ w = w' := by
  have c0 := hs.c0
  have c1 := hs.c1
  clear hs
  go_enter Tryd.func24, Tryd.ntmps24
  go_wp2_with fail
  refine (isE_same a w).mono ?_
  rintro e w1 ⟨rfl, rfl⟩
  go_wp2_with fail
  go_ret
  exact ⟨rfl, rfl⟩
set_option maxHeartbeats 1000000 in
theorem told_stale (a b : Addr) (w : World) (hs : SentS w a b) :
    Calls Tryd.prog 24 #[errE b] w fun e w' => e = .returned (.int .i64 61) ∧ w = w' := by
  have c0 := hs.c0
  have c1 := hs.c1
  have ne := hs.ne
  obtain ⟨c, t, h0⟩ := hs.h0
  obtain ⟨d, u, h1⟩ := hs.h1
  clear hs
  go_enter Tryd.func24, Tryd.ntmps24
  go_wp2_with fail
  refine (isE_other b a d c u t w (Ne.symm ne) h1 h0).mono ?_
  rintro e w1 ⟨rfl, rfl⟩
  go_wp2_with fail
  refine (isE_same b w).mono ?_
  rintro e w1 ⟨rfl, rfl⟩
  go_wp2_with fail
  go_ret
  exact ⟨rfl, rfl⟩
end Go.Proofs.YtgjnmpbahekbfaaDoor
