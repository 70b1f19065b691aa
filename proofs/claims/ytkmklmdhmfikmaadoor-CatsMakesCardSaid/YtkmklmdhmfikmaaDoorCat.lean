/-
  THE WALKS OF PACKAGE cats: what each of its functions does, said of bit vectors and lists of integers.
-/
import Derived.Test.YtkmklmdhmfikmaaDoorProg
import Derived.Test.YtkmklmdhmfikmaaDoorPop
import Derived.Handy
import Derived.WalkSpells
import Derived.WalkLawsBesides
import Derived.LaidEql
import Derived.Stop.Asserts
import Derived.Lib.Hide
namespace Go.Proofs.YtkmklmdhmfikmaaDoor
open Go.RowKit Go.Extern.Stop Go.Stop Go.Extern

attribute [local go_sem] u_and u_or u_andNot u_add u_sub u_bit u_p1 u_p2 u_p3 u_shr8 u_shr16 u_shr32 u_has and_bit u_eq_zero u_beq

theorem sub_any (x y : BitVec 64) (w : World) :
    Calls Tryd.prog 10 #[.int .u64 (u x), .int .u64 (u y)] w fun e w' => e = .returned (.bool (sub x y)) ∧ w = w' := by
  go_enter Tryd.func10, Tryd.ntmps10
  go_wp2
  go_ret
  exact ⟨rfl, rfl⟩
theorem less_any (x y : BitVec 64) (w : World) :
    Calls Tryd.prog 12 #[.int .u64 (u x), .int .u64 (u y)] w fun e w' => e = .returned (.int .u64 (u (x &&& ~~~y))) ∧ w = w' := by
  go_enter Tryd.func12, Tryd.ntmps12
  go_wp2
  go_ret
  exact ⟨rfl, rfl⟩
theorem ret_eq {v v' : Value} (h : v = v') : Ending.returned v = Ending.returned v' := by rw [h]
theorem int_eq {k : IntKind} {a b : Int} (h : a = b) : Value.int k a = Value.int k b := by rw [h]
theorem ones_any (x : BitVec 64) (w : World) :
    Calls Tryd.prog 28 #[.int .u64 (u x)] w fun e w' => e = .returned (.int .i64 (pc x)) ∧ w = w' := by
  go_enter Tryd.func28, Tryd.ntmps28
  go_wp2
  go_ret
  exact ⟨ret_eq (int_eq (by rw [and127, pop_tells])), rfl⟩

/-! ### errors.Is at the sentinel -/
theorem Tryd.isTypeOf (v : Value) (w : World) : (callFunc 38 #[.iface 71 v]).run Tryd.prog w = .ok (.value (.iface 61 (.agg #[.pointer (some ⟨2, 71, none⟩)]))) w := by kernel_rfl
theorem Tryd.isComparable (w : World) : (callFunc 58 #[.agg #[.pointer (some ⟨2, 71, none⟩)]]).run Tryd.prog w = .ok (.value (.bool true)) w := by kernel_rfl
theorem Tryd.isComp : (Tryd.prog.info? 71).map (·.comparable) = some true := by kernel_rfl
theorem Tryd.isSize : (Tryd.prog.info? 97).map (·.size) = some 1 := by kernel_rfl

/-- errors.Is(x, x), x a pointer to an errors.errorString. -/
theorem is_same (a : Addr) (w : World) :
    Calls Tryd.prog 37 #[.iface 71 (.pointer (some a)), .iface 71 (.pointer (some a))] w fun e w' => e = .returned (.bool true) ∧ w = w' := by
  obtain ⟨i, hi, hcmp⟩ := Option.map_eq_some_iff.1 Tryd.isComp
  obtain ⟨j, hj, hjs⟩ := Option.map_eq_some_iff.1 Tryd.isSize
  have tT := Tryd.isTypeOf
  have cT := Tryd.isComparable
  have heq := run_eql_iface_ptr_same (P := Tryd.prog) w a Tryd.underlying43 Tryd.underlying71 hi hcmp hj
  go_enter Tryd.func37, Tryd.ntmps37
  go_wp2
  refine wp_loop_rounds 1 ?_
  rw [rounds_succ]
  go_wp2
  go_ret
  exact ⟨rfl, rfl⟩

/-- THE SENTINEL: the variable holds the pointer. -/
def Sent (w : World) (a : Addr) : Prop := w.cell? ⟨0, 0, none⟩ = some (.iface 71 (.pointer (some a)))
theorem Sent.lt {w : World} {a : Addr} (h : Sent w a) : 0 < w.heap.size := by
  rcases Nat.lt_or_ge 0 w.heap.size with h' | h'
  · exact h'
  · unfold Sent at h
    simp [World.cell?, Array.getElem?_eq_none h'] at h
theorem Sent.below {w w' : World} {a : Addr} {B : Nat} (h : Sent w a) (hb : Below B w w') (hB : 0 < B) : Sent w' a := (hb.cell (p := ⟨0, 0, none⟩) hB).trans h
theorem Sent.cell {w : World} {a : Addr} (h : Sent w a) : w.cell? ⟨0, 0, none⟩ = some (.iface 71 (.pointer (some a))) := h

theorem told_bad (a : Addr) (w : World) (hs : Sent w a) :
    Calls Tryd.prog 34 #[.iface 71 (.pointer (some a))] w fun e w' => e = .returned (.int .i64 10) ∧ w = w' := by
  have hc := hs.cell
  go_enter Tryd.func34, Tryd.ntmps34
  go_wp2_with (go_at_call 37; refine (is_same a _).mono ?_; rintro e w' ⟨rfl, rfl⟩)
  go_ret
  exact ⟨rfl, rfl⟩

/-! ### A picker: a block of two cells -/
/-- what it holds -/
def pk (x : BitVec 64) (e : Value) : Obj := .cells #[.int .u64 (u x), e] 45
/-- only block b may have turned, and it is a picker of x and e -/
structure Picks (b : Nat) (w w' : World) (x : BitVec 64) (e : Value) : Prop where
  grown : w.grownBy w' (some b)
  obj : w'.heap[b]? = some (pk x e)

theorem pk_cells {w : World} {b : Nat} {x : BitVec 64} {e : Value} (h : w.heap[b]? = some (pk x e)) :
    w.cell? ⟨b, 0, none⟩ = some (.int .u64 (u x)) ∧ w.cell? ⟨b, 1, none⟩ = some e ∧ w.frozen? ⟨b, 0, none⟩ = false ∧ w.frozen? ⟨b, 1, none⟩ = false := by
  unfold pk at h
  refine ⟨?_, ?_, ?_, ?_⟩ <;> simp [World.cell?, World.frozen?, h]
theorem grown_set (w : World) (b o : Nat) (v : Value) : w.grownBy (w.setCell ⟨b, o, none⟩ v) (some b) :=
  ⟨rfl, rfl, rfl, by simp [World.setCell], fun k _ hne => Below.heap_setCell _ _ _ _ (fun e => hne (by rw [e]))⟩
theorem pk_set0 {w : World} {b : Nat} {x : BitVec 64} {e : Value} (h : w.heap[b]? = some (pk x e)) (y : BitVec 64) :
    Picks b w (w.setCell ⟨b, 0, none⟩ (.int .u64 (u y))) y e := by
  refine ⟨grown_set _ _ _ _, ?_⟩
  simp [World.setCell, Array.getElem?_modify, h, pk]
theorem pk_set1 {w : World} {b : Nat} {x : BitVec 64} {e : Value} (h : w.heap[b]? = some (pk x e)) (e' : Value) :
    Picks b w (w.setCell ⟨b, 1, none⟩ e') x e' := by
  refine ⟨grown_set _ _ _ _, ?_⟩
  simp [World.setCell, Array.getElem?_modify, h, pk]
theorem Picks.trans {b : Nat} {w1 w2 w3 : World} {x y : BitVec 64} {e f : Value} (h : Picks b w1 w2 x e) (k : Picks b w2 w3 y f) : Picks b w1 w3 y f := ⟨h.grown.trans k.grown, k.obj⟩
theorem Picks.drew {b : Nat} {w1 w2 : World} {x : BitVec 64} {e : Value} (h : Picks b w1 w2 x e) : Picks b w1 w2.drew x e := ⟨⟨h.grown.os, h.grown.tape, h.grown.output, h.grown.size, h.grown.block⟩, h.obj⟩
theorem Picks.sent {b : Nat} {w1 w2 : World} {x : BitVec 64} {e : Value} {a : Addr} (h : Picks b w1 w2 x e) (hs : Sent w1 a) (hne : 0 ≠ b) : Sent w2 a :=
  h.grown.cell hs (fun e => hne (by injection e))

theorem is_yes (b : Nat) (i : Int) (w : World) (h : 0 ≤ i ∧ i < 64) :
    Calls Tryd.prog 31 #[.pointer (some ⟨b, 0, none⟩), .int .i64 i] w fun e w' => e = .returned (.bool true) ∧ w = w' := by
  obtain ⟨h0, h1⟩ := h
  go_enter Tryd.func31, Tryd.ntmps31
  go_wp2
  go_ret
  exact ⟨rfl, rfl⟩
theorem is_no (b : Nat) (i : Int) (w : World) (x : BitVec 64) (e : Value) (a : Addr) (hb : w.heap[b]? = some (pk x e)) (hs : Sent w a) (h : ¬ (0 ≤ i ∧ i < 64)) :
    Calls Tryd.prog 31 #[.pointer (some ⟨b, 0, none⟩), .int .i64 i] w fun e w' => e = .returned (.bool false) ∧ w.setCell ⟨b, 1, none⟩ (.iface 71 (.pointer (some a))) = w' := by
  obtain ⟨c0, c1, f0, f1⟩ := pk_cells hb
  have hc := hs.cell
  by_cases h0 : i < 0
  all_goals
    go_enter Tryd.func31, Tryd.ntmps31
    go_wp2
    go_ret
    exact ⟨rfl, rfl⟩

/-! ### what a picker does to a list -/
def ok (i : Int) : Bool := decide (0 ≤ i ∧ i < 64)
def withAll (x : BitVec 64) (l : List Int) : BitVec 64 := l.foldl (fun x i => if ok i then x ||| bit i else x) x
def withoutAll (x : BitVec 64) (l : List Int) : BitVec 64 := l.foldl (fun x i => if ok i then x &&& ~~~bit i else x) x
def errv (a : Addr) : Value := .iface 71 (.pointer (some a))
def errOf (a : Addr) (e : Value) (l : List Int) : Value := if l.all ok then e else errv a
theorem ok_iff {i : Int} : ok i = true ↔ 0 ≤ i ∧ i < 64 := by unfold ok; simp
theorem take_next {l : List Int} {k : Nat} (h : k < l.length) : l.take (k + 1) = l.take k ++ [l[k]?.getD 0] := by
  rw [List.take_succ_eq_append_getElem h, List.getElem?_eq_getElem h]; rfl
theorem withAll_yes (x : BitVec 64) (l : List Int) (i : Int) (h : ok i = true) : withAll x (l ++ [i]) = withAll x l ||| bit i := by
  simp [withAll, h]
theorem withAll_no (x : BitVec 64) (l : List Int) (i : Int) (h : ok i = false) : withAll x (l ++ [i]) = withAll x l := by
  simp [withAll, h]
theorem withoutAll_yes (x : BitVec 64) (l : List Int) (i : Int) (h : ok i = true) : withoutAll x (l ++ [i]) = withoutAll x l &&& ~~~bit i := by
  simp [withoutAll, h]
theorem withoutAll_no (x : BitVec 64) (l : List Int) (i : Int) (h : ok i = false) : withoutAll x (l ++ [i]) = withoutAll x l := by
  simp [withoutAll, h]
theorem errOf_yes (a : Addr) (e : Value) (l : List Int) (i : Int) (h : ok i = true) : errOf a e (l ++ [i]) = errOf a e l := by
  simp [errOf, h]
theorem errOf_no (a : Addr) (e : Value) (l : List Int) (i : Int) (h : ok i = false) : errOf a e (l ++ [i]) = errv a := by
  simp [errOf, h]


set_option maxRecDepth 100000 in
set_option maxHeartbeats 1000000 in
theorem with_any (b sb so c : Nat) (l : List Int) (x : BitVec 64) (e0 : Value) (a : Addr) (w : World) (hb : w.heap[b]? = some (pk x e0)) (hs : Sent w a) (hg : 0 ≠ b) (hne : sb ≠ b)
    (hc : ∀ k, k < l.length → w.cell? ⟨sb, so + k, none⟩ = some (.int .i64 (l[k]?.getD 0))) (hn : l.length ≤ 9223372036854775807) :
    Calls Tryd.prog 29 #[.pointer (some ⟨b, 0, none⟩), .slice (some ⟨sb, so, none⟩) l.length c] w fun e w' => e = .returned (.tuple #[]) ∧ Picks b w w' (withAll x l) (errOf a e0 l) := by
  have HS := Lib.hid hs
  have HG := Lib.hid hg
  have HC := Lib.hid hc
  clear hs hg hc
  go_enter Tryd.func29, Tryd.ntmps29
  go_wp2
  go_loopw [8] (fun i wr => ∃ k : Nat, k ≤ l.length ∧ i = .int .i64 k ∧ Picks b w wr (withAll x (l.take k)) (errOf a e0 (l.take k))) (fun i _ => l.length - (intOf i).toNat)
  case atStart => exact ⟨0, Nat.zero_le _, rfl, ⟨World.grownBy.refl _ _, hb⟩⟩
  case round =>
    obtain ⟨k, hk, rfl, hP⟩ := hrel
    obtain ⟨c0, c1, f0, f1⟩ := pk_cells hP.obj
    by_cases hlt : k < l.length
    · have hcell := hP.grown.cell (HC.out k hlt) (fun e => hne (by injection e))
      have hS := hP.sent HS.out HG.out
      have HT := Lib.hid (take_next hlt)
      have HP := Lib.hid hP
      clear hP
      generalize l[k]?.getD 0 = z at *
      by_cases hz : 0 ≤ z ∧ z < 64
      · have HO := Lib.hid (ok_iff.2 hz)
        have hz' := hz
        obtain ⟨z0, z1⟩ := hz'
        have HX := Lib.hid (withAll_yes x (l.take k) z HO.out)
        have HE := Lib.hid (errOf_yes a e0 (l.take k) z HO.out)
        generalize withAll x (l.take k) = y at *
        generalize errOf a e0 (l.take k) = e1 at *
        go_wp2_with (go_at_call 31; refine (is_yes b z _ hz).mono ?_; rintro e w' ⟨rfl, rfl⟩)
        go_region
        go_wp2
        go_roundw
        case rel => exact ⟨k + 1, hlt, by go_num, by rw [HT.out, HX.out, HE.out]; exact (HP.out.trans (pk_set0 HP.out.obj _)).drew⟩
        case measure => simp [intOf]; omega
      · have HO := Lib.hid (show ok z = false by rw [← Bool.not_eq_true, ok_iff]; exact hz)
        have HX := Lib.hid (withAll_no x (l.take k) z HO.out)
        have HE := Lib.hid (errOf_no a e0 (l.take k) z HO.out)
        generalize withAll x (l.take k) = y at *
        generalize errOf a e0 (l.take k) = e1 at *
        go_wp2_with (go_at_call 31; refine (is_no b z _ y e1 a HP.out.obj hS hz).mono ?_; rintro e w' ⟨rfl, rfl⟩)
        go_roundw
        case rel => exact ⟨k + 1, hlt, by go_num, by rw [HT.out, HX.out, HE.out]; exact HP.out.trans (pk_set1 HP.out.obj _)⟩
        case measure => simp [intOf]; omega
    · obtain rfl : k = l.length := by omega
      rw [List.take_length] at hP
      have HP := Lib.hid hP
      clear hP
      go_wp2
      go_end0
      exact ⟨rfl, HP.out⟩
/-- of no list at all -/
theorem with_nil (b : Nat) (w : World) :
    Calls Tryd.prog 29 #[.pointer (some ⟨b, 0, none⟩), .slice none 0 0] w fun e w' => e = .returned (.tuple #[]) ∧ w = w' := by
  go_enter Tryd.func29, Tryd.ntmps29
  go_wp2
  go_rounds 1
  all_goals go_end0
  all_goals exact ⟨rfl, rfl⟩

set_option maxRecDepth 100000 in
set_option maxHeartbeats 1000000 in
theorem without_any (b sb so c : Nat) (l : List Int) (x : BitVec 64) (e0 : Value) (a : Addr) (w : World) (hb : w.heap[b]? = some (pk x e0)) (hs : Sent w a) (hg : 0 ≠ b) (hne : sb ≠ b)
    (hc : ∀ k, k < l.length → w.cell? ⟨sb, so + k, none⟩ = some (.int .i64 (l[k]?.getD 0))) (hn : l.length ≤ 9223372036854775807) :
    Calls Tryd.prog 32 #[.pointer (some ⟨b, 0, none⟩), .slice (some ⟨sb, so, none⟩) l.length c] w fun e w' => e = .returned (.tuple #[]) ∧ Picks b w w' (withoutAll x l) (errOf a e0 l) := by
  have HS := Lib.hid hs
  have HG := Lib.hid hg
  have HC := Lib.hid hc
  clear hs hg hc
  go_enter Tryd.func32, Tryd.ntmps32
  go_wp2
  go_loopw [8] (fun i wr => ∃ k : Nat, k ≤ l.length ∧ i = .int .i64 k ∧ Picks b w wr (withoutAll x (l.take k)) (errOf a e0 (l.take k))) (fun i _ => l.length - (intOf i).toNat)
  case atStart => exact ⟨0, Nat.zero_le _, rfl, ⟨World.grownBy.refl _ _, hb⟩⟩
  case round =>
    obtain ⟨k, hk, rfl, hP⟩ := hrel
    obtain ⟨c0, c1, f0, f1⟩ := pk_cells hP.obj
    by_cases hlt : k < l.length
    · have hcell := hP.grown.cell (HC.out k hlt) (fun e => hne (by injection e))
      have hS := hP.sent HS.out HG.out
      have HT := Lib.hid (take_next hlt)
      have HP := Lib.hid hP
      clear hP
      generalize l[k]?.getD 0 = z at *
      by_cases hz : 0 ≤ z ∧ z < 64
      · have HO := Lib.hid (ok_iff.2 hz)
        have hz' := hz
        obtain ⟨z0, z1⟩ := hz'
        have HX := Lib.hid (withoutAll_yes x (l.take k) z HO.out)
        have HE := Lib.hid (errOf_yes a e0 (l.take k) z HO.out)
        generalize withoutAll x (l.take k) = y at *
        generalize errOf a e0 (l.take k) = e1 at *
        go_wp2_with (go_at_call 31; refine (is_yes b z _ hz).mono ?_; rintro e w' ⟨rfl, rfl⟩)
        go_region
        go_wp2
        go_roundw
        case rel => exact ⟨k + 1, hlt, by go_num, by rw [HT.out, HX.out, HE.out]; exact (HP.out.trans (pk_set0 HP.out.obj _)).drew⟩
        case measure => simp [intOf]; omega
      · have HO := Lib.hid (show ok z = false by rw [← Bool.not_eq_true, ok_iff]; exact hz)
        have HX := Lib.hid (withoutAll_no x (l.take k) z HO.out)
        have HE := Lib.hid (errOf_no a e0 (l.take k) z HO.out)
        generalize withoutAll x (l.take k) = y at *
        generalize errOf a e0 (l.take k) = e1 at *
        go_wp2_with (go_at_call 31; refine (is_no b z _ y e1 a HP.out.obj hS hz).mono ?_; rintro e w' ⟨rfl, rfl⟩)
        go_roundw
        case rel => exact ⟨k + 1, hlt, by go_num, by rw [HT.out, HX.out, HE.out]; exact HP.out.trans (pk_set1 HP.out.obj _)⟩
        case measure => simp [intOf]; omega
    · obtain rfl : k = l.length := by omega
      rw [List.take_length] at hP
      have HP := Lib.hid hP
      clear hP
      go_wp2
      go_end0
      exact ⟨rfl, HP.out⟩
/-- of no list at all -/
theorem without_nil (b : Nat) (w : World) :
    Calls Tryd.prog 32 #[.pointer (some ⟨b, 0, none⟩), .slice none 0 0] w fun e w' => e = .returned (.tuple #[]) ∧ w = w' := by
  go_enter Tryd.func32, Tryd.ntmps32
  go_wp2
  go_rounds 1
  all_goals go_end0
  all_goals exact ⟨rfl, rfl⟩

theorem end_ok (b : Nat) (x : BitVec 64) (w : World) (hb : w.heap[b]? = some (pk x .nilIface)) :
    Calls Tryd.prog 30 #[.pointer (some ⟨b, 0, none⟩)] w fun e w' => e = .returned (.tuple #[.int .u64 (u x), .int .i64 0]) ∧ w = w' := by
  obtain ⟨c0, c1, f0, f1⟩ := pk_cells hb
  clear hb
  go_enter Tryd.func30, Tryd.ntmps30
  go_wp2
  go_ret2
  exact ⟨rfl, rfl⟩
theorem end_bad (b : Nat) (x : BitVec 64) (a : Addr) (w : World) (hb : w.heap[b]? = some (pk x (errv a))) (hs : Sent w a) :
    Calls Tryd.prog 30 #[.pointer (some ⟨b, 0, none⟩)] w fun e w' => e = .returned (.tuple #[.int .u64 0, .int .i64 10]) ∧ w = w' := by
  obtain ⟨c0, c1, f0, f1⟩ := pk_cells hb
  unfold errv at c1
  clear hb
  go_enter Tryd.func30, Tryd.ntmps30
  go_wp2_with (go_at_call 34; refine (told_bad a _ hs).mono ?_; rintro e w' ⟨rfl, rfl⟩)
  go_ret2
  exact ⟨rfl, rfl⟩
end Go.Proofs.YtkmklmdhmfikmaaDoor
