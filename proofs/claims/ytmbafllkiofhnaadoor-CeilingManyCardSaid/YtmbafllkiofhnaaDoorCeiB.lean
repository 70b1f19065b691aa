/-
  THE WALKS OF PACKAGE ceiling, part two: errors.Is, errors.As at what stops one; told.
-/
import Derived.Test.YtmbafllkiofhnaaDoorCeiA
import Derived.Test.YtmbafllkiofhnaaDoorAsStop
import Derived.LaidEql
import Derived.Stop.Asserts
import Derived.RowKitTokens
namespace Go.Proofs.YtmbafllkiofhnaaDoor
open Go.RowKit Go.Extern.Stop Go.Stop Go.Extern

/-- THE SENTINEL: the variable holds the pointer. -/
def SentC (w : World) (a : Addr) : Prop := w.cell? ⟨0, 0, none⟩ = some (.iface 109 (.pointer (some a)))
theorem SentC.lt {w : World} {a : Addr} (h : SentC w a) : 0 < w.heap.size := World.block_lt_of_cell? _ _ h
theorem SentC.up {w w' : World} {a : Addr} (h : SentC w a) (hb : Below w.heap.size w w') : SentC w' a := (hb.cell (p := ⟨0, 0, none⟩) h.lt).trans h

theorem isTypeOf (v : Value) (w : World) : (callFunc 56 #[.iface 109 v]).run Tryd.prog w = .ok (.value (.iface 95 (.agg #[.pointer (some ⟨2, 109, none⟩)]))) w := by kernel_rfl
theorem isComparable (w : World) : (callFunc 89 #[.agg #[.pointer (some ⟨2, 109, none⟩)]]).run Tryd.prog w = .ok (.value (.bool true)) w := by kernel_rfl
theorem isComp : (Tryd.prog.info? 109).map (·.comparable) = some true := by kernel_rfl
theorem isSize : (Tryd.prog.info? 131).map (·.size) = some 1 := by kernel_rfl
theorem noIsS (v : Value) (xT : TypeId) (w : World) : (Instr.typeAssert (.iface 67 v) xT 97 true).run Tryd.prog w = .ok (.tuple #[.nilIface, .bool false]) w := run_typeAssert_lacksB Tryd.underlying97 (by kernel_rfl) (by kernel_rfl) v xT w
theorem hasUnwrapS (v : Value) (xT : TypeId) (w : World) : (Instr.typeAssert (.iface 67 v) xT 100 true).run Tryd.prog w = .ok (.tuple #[.iface 67 v, .bool true]) w := run_typeAssert_hasB Tryd.underlying100 (by kernel_rfl) v xT w

/-- what stops one: the error beneath, the label -/
def stopV (e : Value) (x : Lab) : Value := .iface 67 (.agg #[e, .int .i64 x.lv, .int .u64 (u x.c), .int .i64 x.ig])

theorem unwrap_any (e : Value) (x : Lab) (w : World) :
    Calls Tryd.prog 82 #[.agg #[e, .int .i64 x.lv, .int .u64 (u x.c), .int .i64 x.ig]] w fun r w' => r = .returned e ∧ Below w.heap.size w w' := by
  go_enter Tryd.func82, Tryd.ntmps82
  go_wp2
  go_ret
  exact ⟨rfl, (Below.refl _ _).alloc (Nat.le_refl _) _⟩
set_option maxRecDepth 100000 in
set_option maxHeartbeats 2000000 in
/-- errors.is at a stop around nothing -/
theorem is_nil (x : Lab) (a : Addr) (w : World) :
    Calls Tryd.prog 57 #[.iface 67 (.agg #[.nilIface, .int .i64 x.lv, .int .u64 (u x.c), .int .i64 x.ig]), .iface 109 (.pointer (some a)), .bool true] w fun e w' => e = .returned (.bool false) ∧ Below w.heap.size w w' := by
  have h1 := noIsS
  have h2 := hasUnwrapS
  have hty := fun W => run_eql_iface_types (P := Tryd.prog) 67 109 (.agg #[.nilIface, .int .i64 x.lv, .int .u64 (u x.c), .int .i64 x.ig]) (.pointer (some a)) Tryd.underlying45 (by decide) W
  go_enter Tryd.func57, Tryd.ntmps57
  go_wp2
  refine wp_loop_rounds 1 ?_
  rw [rounds_succ]
  go_wp2_with fail
  refine (unwrap_any .nilIface x _).mono ?_
  rintro e w1 ⟨rfl, hB⟩
  have HB := Lib.hid hB
  clear hB
  go_wp2_with fail
  go_ret
  exact ⟨rfl, HB.out⟩
set_option maxRecDepth 100000 in
set_option maxHeartbeats 2000000 in
/-- errors.is at a stop around the sentinel -/
theorem is_sent (x : Lab) (a : Addr) (w : World) :
    Calls Tryd.prog 57 #[.iface 67 (.agg #[.iface 109 (.pointer (some a)), .int .i64 x.lv, .int .u64 (u x.c), .int .i64 x.ig]), .iface 109 (.pointer (some a)), .bool true] w fun e w' => e = .returned (.bool true) ∧ Below w.heap.size w w' := by
  obtain ⟨i, hi, hcmp⟩ := Option.map_eq_some_iff.1 isComp
  obtain ⟨j, hj, hjs⟩ := Option.map_eq_some_iff.1 isSize
  have h1 := noIsS
  have h2 := hasUnwrapS
  have hty := fun W => run_eql_iface_types (P := Tryd.prog) 67 109 (.agg #[.iface 109 (.pointer (some a)), .int .i64 x.lv, .int .u64 (u x.c), .int .i64 x.ig]) (.pointer (some a)) Tryd.underlying45 (by decide) W
  have heq := fun W => run_eql_iface_ptr_same (P := Tryd.prog) W a Tryd.underlying45 Tryd.underlying109 hi hcmp hj
  go_enter Tryd.func57, Tryd.ntmps57
  go_wp2
  refine wp_loop_rounds 2 ?_
  rw [rounds_succ]
  go_wp2_with fail
  refine (unwrap_any (.iface 109 (.pointer (some a))) x _).mono ?_
  rintro e w1 ⟨rfl, hB⟩
  have HB := Lib.hid hB
  clear hB
  go_wp2_with fail
  rw [rounds_succ]
  go_wp2_with fail
  go_ret
  exact ⟨rfl, HB.out⟩
theorem Is_nil (x : Lab) (a : Addr) (w : World) :
    Calls Tryd.prog 45 #[stopV .nilIface x, .iface 109 (.pointer (some a))] w fun e w' => e = .returned (.bool false) ∧ Below w.heap.size w w' := by
  have tT := isTypeOf
  have cT := isComparable
  unfold stopV
  go_enter Tryd.func45, Tryd.ntmps45
  go_wp2_with fail
  refine (is_nil x a _).mono ?_
  rintro e w1 ⟨rfl, hB⟩
  have HB := Lib.hid hB
  clear hB
  go_wp2_with fail
  go_ret
  exact ⟨rfl, HB.out⟩
theorem Is_sent (x : Lab) (a : Addr) (w : World) :
    Calls Tryd.prog 45 #[stopV (.iface 109 (.pointer (some a))) x, .iface 109 (.pointer (some a))] w fun e w' => e = .returned (.bool true) ∧ Below w.heap.size w w' := by
  have tT := isTypeOf
  have cT := isComparable
  unfold stopV
  go_enter Tryd.func45, Tryd.ntmps45
  go_wp2_with fail
  refine (is_sent x a _).mono ?_
  rintro e w1 ⟨rfl, hB⟩
  have HB := Lib.hid hB
  clear hB
  go_wp2_with fail
  go_ret
  exact ⟨rfl, HB.out⟩

/-! ### told -/
structure Env (a : Addr) (w : World) : Prop where
  h : Handle w
  s : SentC w a
theorem Env.up {a : Addr} {w w' : World} (h : Env a w) (hb : Below w.heap.size w w') : Env a w' := ⟨h.h.up hb, h.s.up hb⟩
theorem told_sent (x : Lab) (a : Addr) (w : World) (hh : Env a w) :
    Calls Tryd.prog 31 #[stopV (.iface 109 (.pointer (some a))) x] w fun e w' => e = .returned (.int .i64 120) ∧ Below w.heap.size w w' := by
  have hc : w.cell? ⟨0, 0, none⟩ = _ := hh.s
  have hlt := hh.s.lt
  clear hh
  go_enter Tryd.func31, Tryd.ntmps31
  go_wp2_with fail
  refine (Is_sent x a _).mono ?_
  rintro e w1 ⟨rfl, hB⟩
  have HB := Lib.hid hB
  clear hB
  go_wp2_with fail
  go_ret
  exact ⟨rfl, below_call (below_alloc (Below.refl _ _) _) HB.out⟩
theorem told_stop (x : Lab) (a : Addr) (w : World) (hh : Env a w) :
    Calls Tryd.prog 31 #[stopV .nilIface x] w fun e w' => e = .returned (.int .i64 20) ∧ Below w.heap.size w w' := by
  have hc : w.cell? ⟨0, 0, none⟩ = _ := hh.s
  have hlt := hh.s.lt
  have HH := Lib.hid hh
  clear hh
  go_enter Tryd.func31, Tryd.ntmps31
  go_wp2_with fail
  refine (Is_nil x a _).mono ?_
  rintro e w1 ⟨rfl, hB⟩
  have HB := Lib.hid (below_call (below_alloc (Below.refl w.heap.size w) _) hB)
  have B0 : Hid (Blk w1 w.heap.size 67 #[.nilIface, .int .i64 0, .int .u64 0, .int .i64 0]) := Lib.hid (Blk.after (Blk.new' rfl) hB)
  have HA := Lib.hid (as_hitS x w.heap.size w1 (HH.out.up HB.out).h B0.out.lt (B0.out.at_ rfl) (B0.out.at_ rfl) (B0.out.at_ rfl) (B0.out.at_ rfl) (B0.out.frozen 0) (B0.out.frozen 1) (B0.out.frozen 2) (B0.out.frozen 3))
  clear hB
  go_wp2_with fail
  refine HA.out.mono ?_
  rintro e w2 ⟨rfl, hg⟩
  go_wp2_with fail
  go_ret
  exact ⟨rfl, HB.out.grown hg HB.out.size (fun k e => by injection e with e; omega)⟩
end Go.Proofs.YtmbafllkiofhnaaDoor
