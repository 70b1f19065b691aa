/-
  THE WALKS OF PACKAGE ceiling, part one: areRight.
-/
import Derived.Test.YtmbafllkiofhnaaDoorLabC
import Derived.Test.YtmbafllkiofhnaaDoorLabs
import Derived.LoopN
import Derived.Handy
import Derived.WalkMore
namespace Go.Proofs.YtmbafllkiofhnaaDoor
open Go.RowKit

attribute [local go_sem] u_and u_or u_andNot u_add u_sub u_bit u_eq_zero u_beq

def RightIs (a : Lab) (r : Bool) : Prop := ∀ W, Calls Tryd.prog 44 #[.agg #[.int .i64 a.lv, .int .u64 (u a.c), .int .i64 a.ig]] W fun e w' => e = .returned (.bool r) ∧ Below W.heap.size W w'
theorem rightIs {a : Lab} {r : Bool} (h : okL a = r) : RightIs a r := fun W => by rw [← h]; exact Right_any a W
/-- what areRight answers -/
def rightsV (l : List Lab) : Value := match l.find? (fun x => !okL x) with
  | none => .nilIface
  | some x => .iface 67 (.agg #[.nilIface, .int .i64 x.lv, .int .u64 (u x.c), .int .i64 x.ig])
theorem rightsV_cons (x : Lab) (l : List Lab) : rightsV (x :: l) = if okL x = true then rightsV l else .iface 67 (.agg #[.nilIface, .int .i64 x.lv, .int .u64 (u x.c), .int .i64 x.ig]) := by
  unfold rightsV
  cases h : okL x <;> simp [h]
theorem drop_step {α : Type} {l : List α} {k : Nat} {x : α} (h : l[k]? = some x) : l.drop k = x :: l.drop (k + 1) := by
  obtain ⟨hlt, rfl⟩ := List.getElem?_eq_some_iff.1 h
  exact List.drop_eq_getElem_cons hlt
/-- the rest is as the whole -/
def RightsLeft (l : List Lab) (k : Nat) : Prop := rightsV l = rightsV (l.drop k)
theorem RightsLeft.next {l : List Lab} {k : Nat} {x : Lab} (h : RightsLeft l k) (hx : l[k]? = some x) (ho : okL x = true) : RightsLeft l (k + 1) := by
  unfold RightsLeft at *
  rw [h, drop_step hx, rightsV_cons, if_pos ho]
theorem RightsLeft.bad {l : List Lab} {k : Nat} {x : Lab} (h : RightsLeft l k) (hx : l[k]? = some x) (ho : okL x = false) : rightsV l = .iface 67 (.agg #[.nilIface, .int .i64 x.lv, .int .u64 (u x.c), .int .i64 x.ig]) := by
  unfold RightsLeft at *
  rw [h, drop_step hx, rightsV_cons, ho]; rfl
theorem RightsLeft.end_ {l : List Lab} {k : Nat} (h : RightsLeft l k) (hk : l.length ≤ k) : rightsV l = .nilIface := by
  unfold RightsLeft at *
  rw [h, List.drop_eq_nil_of_le hk]; rfl
set_option maxHeartbeats 2000000 in
theorem areRight_any (v : Value) (l : List Lab) (w : World) (hl : LabsAt w.heap.size w v l) :
    Calls Tryd.prog 29 #[v] w fun e w' => e = .returned (rightsV l) ∧ Below w.heap.size w w' := by
  rcases hl with ⟨rfl, rfl⟩ | ⟨b, off, cap, rfl, hlt, hcap, hn, hc⟩
  · go_enter Tryd.func29, Tryd.ntmps29
    go_wp2
    refine wp_loop_rounds 1 ?_
    rw [rounds_succ]
    go_wp2
    go_ret
    exact ⟨rfl, Below.refl _ _⟩
  · have HC := Lib.hid hc
    clear hc
    go_enter Tryd.func29, Tryd.ntmps29
    go_wp2
    go_loopw [7] (fun i wr => ∃ k : Nat, i = .int .i64 k ∧ k ≤ l.length ∧ RightsLeft l k ∧ Below w.heap.size w wr) (fun i _ => l.length - (intOf i).toNat)
    case atStart => exact ⟨0, rfl, Nat.zero_le _, rfl, Below.refl _ _⟩
    case round =>
      obtain ⟨k, rfl, hk, hR, hB⟩ := hrel
      have HB := Lib.hid hB
      clear hB
      by_cases hkl : k < l.length
      · obtain ⟨x, hx⟩ : ∃ x, l[k]? = some x := ⟨_, List.getElem?_eq_getElem hkl⟩
        obtain ⟨c0, c1, c2⟩ := HC.out k x hx
        rw [← HB.out.cell hlt] at c0 c1 c2
        have HX := Lib.hid hx
        have HR := Lib.hid hR
        clear hx hR
        cases ho : okL x
        · have HO := Lib.hid (HR.out.bad HX.out ho)
          have HN := Lib.hid (rightIs ho)
          clear ho
          go_wp2_with fail
          refine (HN.out _).mono ?_
          rintro e w1 ⟨rfl, hB⟩
          obtain ⟨hc1, hf1⟩ := below_cell hB
          have HB1 := Lib.hid hB
          clear hB
          go_wp2_with fail
          go_ret
          rw [HO.out]
          exact ⟨rfl, below_call (below_alloc HB.out _) HB1.out⟩
        · have HO := Lib.hid (HR.out.next HX.out ho)
          have HN := Lib.hid (rightIs ho)
          clear ho
          go_wp2_with fail
          refine (HN.out _).mono ?_
          rintro e w1 ⟨rfl, hB⟩
          have HB1 := Lib.hid hB
          clear hB
          go_wp2_with fail
          go_roundw
          case rel => exact ⟨k + 1, by go_num, by omega, HO.out, below_call (below_alloc HB.out _) HB1.out⟩
          case measure => simp [intOf]; omega
      · have HE := Lib.hid (hR.end_ (by omega))
        go_wp2_with fail
        go_ret
        rw [HE.out]
        exact ⟨rfl, HB.out⟩
theorem areRight_is {l : List Lab} {r : Value} (hr : rightsV l = r) {v : Value} (w : World) (hl : LabsAt w.heap.size w v l) :
    Calls Tryd.prog 29 #[v] w fun e w' => e = .returned r ∧ Below w.heap.size w w' := by
  subst hr; exact areRight_any v l w hl
theorem rightsV_ok {l : List Lab} (h : ∀ x ∈ l, okL x = true) : rightsV l = .nilIface := by
  unfold rightsV
  rw [List.find?_eq_none.2 (fun x hx => by simp [h x hx])]
theorem rightsV_no {l : List Lab} (h : ¬ ∀ x ∈ l, okL x = true) : ∃ x : Lab, rightsV l = .iface 67 (.agg #[.nilIface, .int .i64 x.lv, .int .u64 (u x.c), .int .i64 x.ig]) := by
  unfold rightsV
  cases hf : l.find? (fun x => !okL x) with
  | none => exact absurd (fun x hx => by simpa using List.find?_eq_none.1 hf x hx) h
  | some x => exact ⟨x, rfl⟩
end Go.Proofs.YtmbafllkiofhnaaDoor
