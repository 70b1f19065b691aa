/-
  THE WALK OF cats.List: a range over a function.
-/
import Derived.Test.YtkmklmdhmfikmaaDoorCatR
import Derived.Test.YtkmklmdhmfikmaaDoorCtz
import Derived.RangeFuncNested
import Derived.RangeFuncBound
import Derived.RangeFuncCalls
import Derived.RangeFuncLeaves
import Derived.RangeFuncBox
import Derived.Shelf.Abstract
import Derived.Shelf.RegionOpen
import Derived.OwnWalkIn
import Derived.TacticsInMore
import Derived.LoopNIn
import Derived.LoopIn
import Derived.WalkMore
namespace Go.Proofs.YtkmklmdhmfikmaaDoor
open Go.RowKit Go.Shelf

attribute [local go_sem] Oper.semAt_some
attribute [local go_sem] u_and u_or u_andNot u_add u_sub u_bit u_eq_zero u_beq u_neg u_pred

/-- de Bruijn's table lies as the program's text lays it -/
def TabIn (w : World) : Prop := 1 < w.heap.size ∧ ∀ i, i < 64 → w.cell? ⟨1, i, none⟩ = some (.int .u8 (tab64[i]?.getD 0))
theorem TabIn.below {w w' : World} {B : Nat} (h : TabIn w) (hb : Below B w w') (hB : 1 < B) : TabIn w' :=
  ⟨Nat.lt_of_lt_of_le h.1 hb.size, fun i hi => (hb.cell (p := ⟨1, i, none⟩) hB).trans (h.2 i hi)⟩

theorem ctz_core (x y : BitVec 64) (k idx : Nat) (w : World) (hz : (x == 0#64) = false) (hlt : k < 64) (hd : (idx : Int) < 64) (hn : x &&& -x = y)
    (hu : IntKind.u64.wrap (u y * 285870213051353865) / 288230376151711744 = (idx : Int)) (hc : w.cell? ⟨1, idx, none⟩ = some (.int .u8 k)) :
    Calls Tryd.prog 36 #[.int .u64 (u x)] w fun e w' => e = .returned (.int .i64 k) ∧ w = w' := by
  have hd0 : (0 : Int) ≤ (idx : Int) := by omega
  go_enter Tryd.func36, Tryd.ntmps36
  go_wp2
  go_ret
  exact ⟨rfl, rfl⟩
theorem ctz_any (x : BitVec 64) (k : Nat) (w : World) (hk : Low x k) (ht : TabIn w) :
    Calls Tryd.prog 36 #[.int .u64 (u x)] w fun e w' => e = .returned (.int .i64 k) ∧ w = w' := by
  have hc := ht.2 (db k) (db_lt k)
  rw [tab_db k hk.lt] at hc
  have hd := db_lt k
  exact ctz_core x (bit (k : Int)) k (db k) w (beq_eq_false_iff_ne.2 hk.ne) hk.lt (by omega) hk.neg (u_db k hk.lt) hc

/-- a scope through which the run goes without a goto, at the wide fence -/
theorem wpInW_scope {n : Nat} {P : Program} {Q : Exit → Act → World → Prop} {a : Act} {w : World} {c : Code} (h : c.wpIn Fence.wide n P (Exit.noGoto Q) a w) : (Code.scope c).wpIn Fence.wide n P Q a w :=
  wpIn_wide.2 (wp_scope_straight (wpIn_wide.1 h))
/-- for the loop's measure: how many are left -/
def pcOf : Value → Nat
  | .int _ n => pc (BitVec.ofNat 64 n.toNat)
  | _ => 0
theorem pcOf_u (y : BitVec 64) : pcOf (.int .u64 (u y)) = pc y := by
  show pc (BitVec.ofNat 64 (u y).toNat) = _
  unfold u; rw [Int.toNat_natCast, BitVec.ofNat_toNat, BitVec.setWidth_eq]

set_option maxRecDepth 100000 in
set_option maxHeartbeats 1000000 in
/-- 'all()'s function: for every loop body that keeps what lay below n₀ -/
theorem all1_in (n : Nat) (hn : 1 ≤ n) (l Bn n₀ : Nat) (x : BitVec 64) (J Jx : List Nat → World → Prop)
    (hY : ∀ pre k W, J pre W → pre.length < 64 → YieldAt Fence.wide (n - 1) Tryd.prog l #[.int .i64 ((k : Nat) : Int)] W fun e W' =>
      (e = .returned (.bool true) ∧ J (pre ++ [k]) W' ∧ Below n₀ W W') ∨ (e = .returned (.bool false) ∧ Jx (pre ++ [k]) W'))
    (W : World) (hBn : W.cell? ⟨Bn, 0, none⟩ = some (.int .u64 (u x))) (ht : TabIn W) (hg : 1 < n₀) (h0 : J [] W) :
    CallsIn Fence.wide n Tryd.prog 35 #[.func (.yield l) #[] #[], .pointer (some ⟨Bn, 0, none⟩)] W fun e W' => (∃ v, e = .returned v) ∧
      ((∃ ys, ys = cats x ∧ J ys W') ∨ (∃ pre, pre <+: cats x ∧ Jx pre W')) := by
  refine callsIn_of_wp Tryd.func35 rfl trivial ?_ rfl
  simp only [Tryd.ntmps35, List.size_toArray, List.length_cons, List.length_nil, Nat.reduceAdd, Nat.reduceSub, Array.replicate_succ, Array.replicate_zero, List.push_toArray, List.append_toArray, List.nil_append, List.cons_append]
  gi_wp2
  refine wpInW_scope (wpIn_seq (wpIn_label ?_))
  simp only [Exit.then]
  gi_wp2
  gi_loopw [3] (fun s wr => ∃ (pre : List Nat) (y : BitVec 64), s = .int .u64 (u y) ∧ cats x = pre ++ cats y ∧ J pre wr ∧ Below n₀ W wr)
    (fun s _ => pcOf s)
  case atStart =>
    exact ⟨[], x, rfl, rfl, h0, Below.refl _ _⟩
  case round =>
    obtain ⟨pre, y, rfl, hx, hJ, hB⟩ := hrel
    have HX := Lib.hid hx
    clear hx
    by_cases hy0 : y = 0#64
    · have hz : (y == 0#64) = true := by rw [hy0]; rfl
      have hz2 : (u y != 0) = false := by rw [hy0]; rfl
      clear hy0
      have HE : Hid (cats x = pre) := by
        show cats x = pre
        rw [HX.out, (beq_iff_eq.1 hz), cats_zero, List.append_nil]
      gi_wp2
      rw [Exit.noGoto_normal]
      go_end0
      exact ⟨⟨_, rfl⟩, .inl ⟨cats x, rfl, by rw [HE.out]; exact hJ⟩⟩
    · obtain ⟨k, hk⟩ := low_of hy0
      have hz : (y == 0#64) = false := beq_eq_false_iff_ne.2 hy0
      have hz2 : (u y != 0) = true := by
        rw [bne_iff_ne]; exact fun e => hy0 (u_inj (by rw [e]; rfl))
      have HC := Lib.hid hk.cats
      have HK := Lib.hid hk
      have hlen : pre.length < 64 := by
        have h1 : (cats x).length ≤ 64 := catsTo_len x 64
        rw [HX.out, HC.out, List.length_append, List.length_cons] at h1
        omega
      have HT := Lib.hid (ht.below hB hg)
      have hk63 := hk.lt
      clear hk hy0
      have HM : Hid (pcOf (.int .u64 (u (y &&& (y - 1#64)))) < pcOf (.int .u64 (u y))) := by
        show _ < _
        rw [pcOf_u, pcOf_u]
        show (cats _).length < (cats y).length
        rw [HC.out]; simp
      obtain ⟨fn, tmps, assign, body, hy, hR⟩ := hY pre k wr hJ hlen
      gi_wp2_with (refine ⟨trivial, ?_⟩; gi_at_call 36; refine (callsIn_wide.2 (ctz_any y k _ HK.out HT.out)).mono ?_; rintro e w' ⟨rfl, rfl⟩)
      refine hR.mono ?_
      rintro e W3 (⟨rfl, hJ3, hk3⟩ | ⟨rfl, hJx3⟩)
      · gi_wp2
        go_roundw
        case rel => exact ⟨pre ++ [k], _, rfl, by rw [HX.out, HC.out]; simp, hJ3, hB.trans hk3⟩
        case measure => simpa using HM.out
      · gi_wp2
        rw [Exit.noGoto_normal]
        go_end0
        exact ⟨⟨_, rfl⟩, .inr ⟨pre ++ [k], ⟨cats (y &&& (y - 1#64)), by rw [HX.out, HC.out]; simp⟩, hJx3⟩⟩

theorem all_in (x : BitVec 64) (w : World) :
    Calls Tryd.prog 33 #[.agg #[.int .u64 (u x)]] w fun e w' => e = .returned (.func (.func 35) #[] #[.pointer (some ⟨w.heap.size, 0, none⟩)]) ∧ w.alloc (.cells #[.int .u64 (u x)] 41) = w' := by
  go_enter Tryd.func33, Tryd.ntmps33
  go_wp2
  go_ret
  exact ⟨rfl, rfl⟩
theorem all_stops (n : Nat) (hn : 1 ≤ n) (Bn n₀ : Nat) (x : BitVec 64) (w : World) (hBn : Bn < w.heap.size) (hc : w.cell? ⟨Bn, 0, none⟩ = some (.int .u64 (u x))) (ht : TabIn w) (hg : 1 < n₀) :
    SeqStopsK Fence.wide n Tryd.prog 35 #[.pointer (some ⟨Bn, 0, none⟩)] (fun k : Nat => #[Value.int .i64 (k : Int)]) (Below n₀) (fun ys => ys = cats x) (fun pre => pre <+: cats x) 64 w := fun l J Jx W hW _ _ hY h0 =>
  all1_in n hn l Bn n₀ x J Jx hY W ((hW.cell (p := ⟨Bn, 0, none⟩) hBn).trans hc) (ht.below hW ht.1) hg h0

set_option maxRecDepth 100000 in
set_option maxHeartbeats 2000000 in
theorem List_in (n : Nat) (hn : 3 ≤ n) (x : BitVec 64) (w : World) (ht : TabIn w) :
    CallsIn Fence.wide n Tryd.prog 19 #[.int .u64 (u x)] w fun e w' => ∃ v, e = .returned v ∧ w'.ownsRow w.heap.size 3 1 v (cats x).length (nums (cats x)) ∧ Below w.heap.size w w' := by
  have h1 : 1 ≤ n := by omega
  obtain ⟨i0, hi, hz0, hz1, hz2⟩ := info_parts Tryd.infoInt
  refine callsIn_of_wp_marks Tryd.func19 rfl trivial ?_ rfl
  simp only [Tryd.ntmps19, List.size_toArray, List.length_cons, List.length_nil, Nat.reduceAdd, Nat.reduceSub, Array.replicate_succ, Array.replicate_zero, List.push_toArray, List.append_toArray, List.nil_append, List.cons_append]
  gi_wp2_with (refine ⟨trivial, ?_⟩; gi_at_call 33; refine (callsIn_wide.2 (all_in x _)).mono ?_; rintro e w' ⟨rfl, rfl⟩)
  have bO : Boxed (((w.alloc (.cells #[.slice none 0 0] 32)).alloc (.cells #[.int .u64 (u x), .nilIface] 45)).alloc (.cells #[.int .u64 (u x)] 41)) w.heap.size 32 (.slice none 0 0) := ((Boxed.new w 32 (.slice none 0 0)).alloc _).alloc _
  have hc : (((w.alloc (.cells #[.slice none 0 0] 32)).alloc (.cells #[.int .u64 (u x), .nilIface] 45)).alloc (.cells #[.int .u64 (u x)] 41)).cell? ⟨w.heap.size + 1 + 1, 0, none⟩ = some (.int .u64 (u x)) := World.cell?_alloc_at _ _ _ _ (by simp)
  have hB0 : Below w.heap.size w (((w.alloc (.cells #[.slice none 0 0] 32)).alloc (.cells #[.int .u64 (u x), .nilIface] 45)).alloc (.cells #[.int .u64 (u x)] 41)) :=
    (((Below.refl _ w).alloc (Nat.le_refl _) _).alloc (by simp) _).alloc (by simp; omega) _
  refine wpIn_rangeFunc_ownG rfl h1 (gf := 35) (lb := #[.pointer (some ⟨w.heap.size + 1 + 1, 0, none⟩)]) rfl trivial (enters_of Tryd.func35 (by kernel_rfl) rfl)
    (all_stops (n - 1) (by omega) (w.heap.size + 1 + 1) w.heap.size x _ (by simp) hc (ht.below hB0 ht.1) ht.1) belowK_t (belowK_b (by simp; omega)) (Below.refl _ _) (fun _ => rfl)
    (fun pre W => (∃ v, Boxed W w.heap.size 32 v ∧ W.ownsRow w.heap.size 3 1 v pre.length (nums pre) ∧ True) ∧ Below w.heap.size w W)
    (fun _ _ _ => False)
    (OwnFrom.and (Own.from (holdsRow_own w.heap.size w.heap.size 32 3 1 (fun pre => pre.length) (fun pre => nums pre) (fun _ _ => True)) _) (ownFrom_below (Nat.le_refl _) (by simp; omega)))
    (fun _ _ _ _ _ hs _ _ => hs)
    ⟨⟨_, bO, World.ownsRow_nil _ _ _ _, trivial⟩, hB0⟩
    (fun k => { tmps := #[.int .u64 (u x), undef, .slice none 0 0, .pointer (some ⟨w.heap.size, 0, none⟩), .pointer (some ⟨w.heap.size + 1, 0, none⟩), .int .i64 (k : Int), .int .u64 (u x), .agg #[.int .u64 (u x)], .agg #[.int .u64 (u x), .nilIface],
      .pointer (some ⟨w.heap.size + 1, 0, none⟩), .pointer (some ⟨w.heap.size + 1, 0, none⟩), .pointer (some ⟨w.heap.size + 1, 0, none⟩), .pointer (some ⟨w.heap.size + 1, 0, none⟩), .agg #[.int .u64 (u x)],
      .func (.func 35) #[] #[.pointer (some ⟨w.heap.size + 1 + 1, 0, none⟩)], .int .i64 (k : Int), undef, undef, undef, undef, undef], defers := [] }) ?assign ?body ?done ?stop
  case assign =>
    intro l k W K hK
    gi_wp2
    exact hK
  case body =>
    rintro l pre k W ⟨⟨v, hv, hrow, -⟩, hB⟩ hlt
    have hc := hv.cell
    gi_wp2_with (gi_at_builtin; refine wpListIn_append_own _ rfl _ _ 32 rfl w.heap.size 3 i0 (.int .i64 0) 1 8 Tryd.underlying32 hi hz0 hz1 hz2 rfl (by decide) _ _ _ rfl (hrow.alloc _) ⟨W.heap.size, 0, none⟩ 1 1 [.int .i64 (k : Int)] rfl rfl (cell_one_new _ _ _) (by simp [Value.oneCell']) (by unfold maxLen; omega) (by omega) (by have := hB.size; simp; omega) ?_; intro v' w1 hown' hgrow _; obtain ⟨g', cap', rfl⟩ := ownsRow_succ hown'; obtain ⟨hv1, hv2, hr2, hk2, hb2⟩ := hv.appended (by decide) hrow hB.size (Nat.le_refl _) hown' hgrow; have hc1 := hv1.cell; have hf1 := hv1.frozen)
    exact ⟨hk2.from _, hb2, ⟨_, hv2, by rw [nums_snoc]; simpa using hr2, trivial⟩, hB.trans hb2⟩
  case done =>
    rintro D ys W hD rfl ⟨⟨v, hv, hrow, -⟩, hB⟩ hK
    have hc := hv.cell
    gi_wp2
    refine ⟨by simp, .inl ⟨_, _, rfl, run_takeDeferred hK, ?_⟩⟩
    exact ⟨_, results_tmp rfl _ _ _, v, rfl, ownsRow_putObj hrow _ hK rfl, hB.trans (belowK_b (w := w) (Nat.le_refl _) W D _ _ (by simp at hD; omega) hK rfl rfl)⟩
  case stop =>
    rintro D c pre W _ _ h _
    exact h.elim
theorem List_any (x : BitVec 64) (w : World) (ht : TabIn w) :
    Calls Tryd.prog 19 #[.int .u64 (u x)] w fun e w' => ∃ v, e = .returned v ∧ w'.ownsRow w.heap.size 3 1 v (cats x).length (nums (cats x)) ∧ Below w.heap.size w w' :=
  callsIn_wide.1 (List_in 3 (Nat.le_refl _) x w ht)
end Go.Proofs.YtkmklmdhmfikmaaDoor
