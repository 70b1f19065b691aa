/-
  THE WALK OF plimsollref02.Least (printed by wip/genref2.py).
-/
import Derived.Test.YtapgeagmdiphgaaDoorRefJ
import Derived.Test.YtapgeagmdiphgaaDoorLeast
import Derived.Test.YtapgeagmdiphgaaDoorEls
import Derived.Deep.DeepCutAuto
import Derived.LoopN
import Derived.WalkMore
namespace Go.Proofs.YtapgeagmdiphgaaDoor
open Go.RowKit

attribute [local go_sem] u_and u_or u_andNot u_add u_sub u_bit u_eq_zero u_beq

theorem rBottomL_any (w : World) : Calls Tryd.prog 26 #[] w fun e w' => e = .returned (.agg #[.int .i64 botL.lv, .int .u64 (u botL.c), .int .i64 botL.ig]) ∧ Below w.heap.size w w' := by
  go_enter Tryd.func26, Tryd.ntmps26
  go_wp2
  go_returns
  exact ⟨rfl, by go_grown⟩
def errE (x : Lab) : Int := if okL x then 0 else 20
theorem rJoin_step {o x nx : Lab} {n : Int} (ho : okL o = true) (hn : stepL o x = nx) (he : errE x = n) (W : World) :
    Calls Tryd.prog 21 #[.agg #[.int .i64 o.lv, .int .u64 (u o.c), .int .i64 o.ig], .agg #[.int .i64 x.lv, .int .u64 (u x.c), .int .i64 x.ig]] W fun e w' => e = .returned (.tuple #[.agg #[.int .i64 nx.lv, .int .u64 (u nx.c), .int .i64 nx.ig], .int .i64 n]) ∧ Below W.heap.size W w' := by
  subst hn he
  unfold stepL errE
  by_cases hx : okL x = true
  · rw [if_pos hx, if_pos hx]; exact rJoin_ok ho hx W
  · rw [if_neg hx, if_neg hx]; exact rJoin_no (fun k => hx k.2) W
theorem leastL_bad {ls : List Lab} {x : Lab} (hx : x ∈ ls) (h : okL x = false) : leastL ls = zeroL ∧ leastE ls = 20 := by
  have hall : ¬ ls.all okL = true := fun k => by rw [List.all_eq_true] at k; rw [k x hx] at h; cases h
  exact ⟨if_neg hall, if_neg hall⟩
set_option maxRecDepth 100000 in
set_option maxHeartbeats 8000000 in
theorem rLeast_any (ls : List Lab) (v : Value) (w0 : World) (hl : LabsAt w0.heap.size w0 v ls) :
    Calls Tryd.prog 19 #[v] w0 fun e w' => e = .returned (.tuple #[.agg #[.int .i64 (leastL ls).lv, .int .u64 (u (leastL ls).c), .int .i64 (leastL ls).ig], .int .i64 (leastE ls)]) ∧ Below w0.heap.size w0 w' := by
  rcases hl with ⟨rfl, rfl⟩ | ⟨b, off, cap, rfl, hlt, hcap, hn63, hc⟩
  · rw [show (leastL []).lv = botL.lv from rfl, show (leastL []).c = botL.c from rfl, show (leastL []).ig = botL.ig from rfl, show leastE [] = 0 from rfl]
    go_enter Tryd.func19, Tryd.ntmps19
    go_wp2_with fail
    refine (rBottomL_any _).mono ?_
    rintro e w1 ⟨rfl, hB⟩
    have r0 : Blk w1 w0.heap.size 24 #[.int .i64 0, .int .u64 0, .int .i64 0] := (Blk.new' rfl).after hB
    have hBw : Below w0.heap.size w0 w1 := below_call (below_alloc (Below.refl _ _) _) hB
    have B2 := Lib.hid r0
    have HB := Lib.hid hBw
    clear hB r0 hBw
    go_wp2_with fail
    refine wp_loop_rounds 1 ?_
    rw [rounds_succ]
    have p0 := B2.out.at_ (i := 0) (v := .int .i64 0) rfl
    have p1 := B2.out.at_ (i := 1) (v := .int .u64 0) rfl
    have p2 := B2.out.at_ (i := 2) (v := .int .i64 0) rfl
    have f0 := B2.out.frozen 0
    have f1 := B2.out.frozen 1
    have f2 := B2.out.frozen 2
    have k0 : w0.heap.size < w1.heap.size := B2.out.lt
    go_wp2_with fail
    have R : Blk ((((w1.setCell ⟨w0.heap.size, 0, none⟩ (.int .i64 botL.lv)).setCell ⟨w0.heap.size, 1, none⟩ (.int .u64 (u botL.c))).setCell ⟨w0.heap.size, 2, none⟩ (.int .i64 botL.ig)).alloc (.cells #[.int .i64 botL.lv, .int .u64 (u botL.c), .int .i64 botL.ig] 24)) w0.heap.size 24 #[.int .i64 botL.lv, .int .u64 (u botL.c), .int .i64 botL.ig] := ((Blk.set' (u := .int .i64 botL.ig) (i := 2) (cs' := #[.int .i64 botL.lv, .int .u64 (u botL.c), .int .i64 botL.ig]) (Blk.set' (u := .int .u64 (u botL.c)) (i := 1) (cs' := #[.int .i64 botL.lv, .int .u64 (u botL.c), .int .i64 0]) (Blk.set' (u := .int .i64 botL.lv) (i := 0) (cs' := #[.int .i64 botL.lv, .int .u64 0, .int .i64 0]) B2.out rfl) rfl) rfl)).alloc _
    have k0 := R.at_ (i := 0) (v := .int .i64 botL.lv) rfl
    have k1 := R.at_ (i := 1) (v := .int .u64 (u botL.c)) rfl
    have k2 := R.at_ (i := 2) (v := .int .i64 botL.ig) rfl
    refine bodyPost_ret (v := .tuple #[.agg #[.int .i64 botL.lv, .int .u64 (u botL.c), .int .i64 botL.ig], .int .i64 0]) (by simp [results, Tryd.results19, go_sem, k0, k1, k2]) rfl ⟨rfl, below_alloc (below_set (below_set (below_set HB.out (by omega) _) (by omega) _) (by omega) _) _⟩
  · have HC := Lib.hid hc
    clear hc
    go_enter Tryd.func19, Tryd.ntmps19
    go_wp2_with fail
    refine (rBottomL_any _).mono ?_
    rintro e w1 ⟨rfl, hB⟩
    have r0 : Blk w1 w0.heap.size 24 #[.int .i64 0, .int .u64 0, .int .i64 0] := (Blk.new' rfl).after hB
    have hBw : Below w0.heap.size w0 w1 := below_call (below_alloc (Below.refl _ _) _) hB
    have hrb : w0.heap.size < w1.heap.size := r0.lt
    have B2 := Lib.hid (r0.alloc (.cells #[.int .i64 botL.lv, .int .u64 (u botL.c), .int .i64 botL.ig] 24))
    have B0 : Hid (Blk (w1.alloc (.cells #[.int .i64 botL.lv, .int .u64 (u botL.c), .int .i64 botL.ig] 24)) w1.heap.size 24 #[.int .i64 botL.lv, .int .u64 (u botL.c), .int .i64 botL.ig]) := Lib.hid (Blk.new' rfl)
    have HB := Lib.hid (below_alloc hBw (.cells #[.int .i64 botL.lv, .int .u64 (u botL.c), .int .i64 botL.ig] 24))
    clear hB r0 hBw
    go_wp2_with fail
    generalize w1.heap.size = b4 at *
    go_loopw [5] (fun i wr => ∃ (k : Nat) (o : Lab), i = .int .i64 k ∧ k ≤ ls.length ∧ foldsL (ls.take k) = o ∧ (∀ x, x ∈ ls.take k → okL x = true) ∧ Blk wr b4 24 #[.int .i64 o.lv, .int .u64 (u o.c), .int .i64 o.ig] ∧ Blk wr w0.heap.size 24 #[.int .i64 0, .int .u64 0, .int .i64 0] ∧ Below w0.heap.size w0 wr) (fun i _ => ls.length - (intOf i).toNat)
    case atStart => exact ⟨0, botL, rfl, Nat.zero_le _, rfl, fun x hx => by simp at hx, B0.out, B2.out, HB.out⟩
    case round =>
      obtain ⟨k, o, rfl, hk, hfo, hall, hO, hR, hBW⟩ := hrel
      clear B0 B2 HB
      have B0 := Lib.hid hO
      have B2 := Lib.hid hR
      have HB := Lib.hid hBW
      have HFO := Lib.hid hfo
      have HA := Lib.hid hall
      have okO := Lib.hid (show okL o = true by rw [← hfo]; exact okL_folds _)
      clear hO hR hBW hfo hall
      by_cases hkl : k < ls.length
      · obtain ⟨x, hx⟩ : ∃ x, ls[k]? = some x := ⟨_, List.getElem?_eq_getElem hkl⟩
        obtain ⟨c0, c1, c2⟩ := HC.out _ x hx
        have B1 := Lib.hid (Els.of3 ((HB.out.cell (p := ⟨b, off + k * 3, none⟩) hlt).trans c0) ((HB.out.cell (p := ⟨b, off + k * 3 + 1, none⟩) hlt).trans c1) ((HB.out.cell (p := ⟨b, off + k * 3 + 2, none⟩) hlt).trans c2))
        clear c0 c1 c2
        obtain ⟨nx, hnx⟩ : ∃ nx, stepL o x = nx := ⟨_, rfl⟩
        have hsn := take_snoc' hx
        have HF : Hid (foldsL (ls.take (k + 1)) = nx) := by
          show _ = _
          rw [hsn, foldsL_snoc, HFO.out]; exact hnx
        have HNX := Lib.hid hnx
        have HX := Lib.hid hx
        have HSN := Lib.hid hsn
        clear hnx hx hsn
        have hkz : (0 : Int) ≤ (k : Int) := by omega
        have hkz2 : (k : Int) < (ls.length : Int) := by omega
        cases ho : okL x
        · have HEX := Lib.hid (show errE x = 20 by unfold errE; rw [ho]; rfl)
          have HEND := Lib.hid (leastL_bad (List.mem_of_getElem? HX.out) ho)
          clear ho
          go_upto_region 5 with fail
          go_cut [6, 7] (fun s6 s7 wx => ∃ g3 : Nat, s6 = .pointer (some ⟨g3, 0, none⟩) ∧ s7 = .int .i64 20 ∧ Blk wx (g3) 24 #[.int .i64 nx.lv, .int .u64 (u nx.c), .int .i64 nx.ig] ∧ Blk wx (b4) 24 #[.int .i64 o.lv, .int .u64 (u o.c), .int .i64 o.ig] ∧ Els wx (b) (off + k * 3) #[.int .i64 x.lv, .int .u64 (u x.c), .int .i64 x.ig] ∧ Blk wx (w0.heap.size) 24 #[.int .i64 0, .int .u64 0, .int .i64 0] ∧ Below w0.heap.size w0 wx ∧ b4 ≠ g3 ∧ b ≠ g3 ∧ w0.heap.size ≠ g3 ∧ w0.heap.size ≤ g3)
          case first =>
            refine wp_region_gen (S := (fun W' => Blk W' (b4) 24 #[.int .i64 o.lv, .int .u64 (u o.c), .int .i64 o.ig] ∧ Els W' (b) (off + k * 3) #[.int .i64 x.lv, .int .u64 (u x.c), .int .i64 x.ig] ∧ Blk W' (w0.heap.size) 24 #[.int .i64 0, .int .u64 0, .int .i64 0] ∧ Below w0.heap.size w0 W')) (by kernel_rfl) ⟨(by repeat (first | exact B0.out | exact Blk.new' (by simp; done) | exact Blk.new' rfl | refine Blk.drew ?_ | refine Blk.alloc ?_ _)), (by repeat (first | exact B1.out | refine Els.drew ?_ | refine Els.alloc ?_ _)), (by repeat (first | exact B2.out | exact Blk.new' (by simp; done) | exact Blk.new' rfl | refine Blk.drew ?_ | refine Blk.alloc ?_ _)), (by repeat (first | exact HB.out | refine below_alloc ?_ _ | refine Below.drew ?_ | refine below_set ?_ (by omega) _))⟩ (fun w1 hS => ?_)
            refine wpAnyH_take (i := 0) (v := ?_) (op_at rfl) (by kernel_rfl) (by kernel_rfl) (by kernel_rfl) (fun _ _ _ h => h) (Or.inl ⟨by rfl, ?_⟩) hS ?_; rotate_left; focus ((intro w' hSw; obtain ⟨q, -⟩ := hSw; have c0 := q.at_ (i := 0) (v := .int .i64 o.lv) rfl; have c1 := q.at_ (i := 1) (v := .int .u64 (u o.c)) rfl; have c2 := q.at_ (i := 2) (v := .int .i64 o.ig) rfl; clear q; go_simp) <;> with_reducible rfl)
            try simp only [Act.put, List.setIfInBounds_toArray, List.set_cons_zero, List.set_cons_succ]
            refine wpAnyH_take (i := 1) (v := ?_) (op_at rfl) (by kernel_rfl) (by kernel_rfl) (by kernel_rfl) (fun _ _ _ h => h) (Or.inl ⟨by rfl, ?_⟩) hS ?_; rotate_left; focus ((intro w' hSw; clear hSw; go_simp) <;> with_reducible rfl)
            try simp only [Act.put, List.setIfInBounds_toArray, List.set_cons_zero, List.set_cons_succ]
            refine wpAnyH_take (i := 2) (v := ?_) (op_at rfl) (by kernel_rfl) (by kernel_rfl) (by kernel_rfl) (fun _ _ _ h => h) (Or.inl ⟨by rfl, ?_⟩) hS ?_; rotate_left; focus ((intro w' hSw; clear hSw; go_simp) <;> with_reducible rfl)
            try simp only [Act.put, List.setIfInBounds_toArray, List.set_cons_zero, List.set_cons_succ]
            refine wpAnyH_take (i := 3) (v := ?_) (op_at rfl) (by kernel_rfl) (by kernel_rfl) (by kernel_rfl) (fun _ _ _ h => h) (Or.inl ⟨by rfl, ?_⟩) hS ?_; rotate_left; focus ((intro w' hSw; clear hSw; go_simp) <;> with_reducible rfl)
            try simp only [Act.put, List.setIfInBounds_toArray, List.set_cons_zero, List.set_cons_succ]
            refine wpAnyH_take (i := 4) (v := ?_) (op_at rfl) (by kernel_rfl) (by kernel_rfl) (by kernel_rfl) (fun _ _ _ h => h) (Or.inl ⟨by rfl, ?_⟩) hS ?_; rotate_left; focus ((intro w' hSw; obtain ⟨-, q, -⟩ := hSw; have c0 : w'.cell? ⟨b, off + k * 3, none⟩ = some (.int .i64 x.lv) := q.at_ (i := 0) (v := .int .i64 x.lv) rfl; have c1 : w'.cell? ⟨b, off + k * 3 + 1, none⟩ = some (.int .u64 (u x.c)) := q.at_ (i := 1) (v := .int .u64 (u x.c)) rfl; have c2 : w'.cell? ⟨b, off + k * 3 + 2, none⟩ = some (.int .i64 x.ig) := q.at_ (i := 2) (v := .int .i64 x.ig) rfl; clear q; go_simp) <;> with_reducible rfl)
            try simp only [Act.put, List.setIfInBounds_toArray, List.set_cons_zero, List.set_cons_succ]
            refine wpAnyH_ready (rs := [5, 9]) (by kernel_rfl) (by simp) ?_
            refine (AllReadyH.cons (op_at rfl) (fun K hK => ?_) (AllReadyH.cons (op_at rfl) (fun K hK => ?_) AllReadyH.nil))
            ·
              go_simp
              obtain ⟨b0, b1, b2, hb⟩ := hS
              refine (rJoin_step okO.out HNX.out HEX.out _).mono ?_
              rintro e w2 ⟨rfl, hB⟩
              refine hK.out _ _ ⟨b0.after hB, b1.after hB, b2.after hB, below_call hb hB⟩ (fun hS => ?_)
              clear hK K hB b0 b1 b2 hb
              try simp only [Act.put, List.setIfInBounds_toArray, List.set_cons_zero, List.set_cons_succ]
              refine wpAnyH_take (i := 6) (v := ?_) (op_at rfl) (by kernel_rfl) (by kernel_rfl) (by kernel_rfl) (fun _ _ _ h => h) (Or.inl ⟨by rfl, ?_⟩) hS ?_; rotate_left; focus ((intro w' hSw; clear hSw; go_simp) <;> with_reducible rfl)
              try simp only [Act.put, List.setIfInBounds_toArray, List.set_cons_zero, List.set_cons_succ]
              refine wpAnyH_take (i := 7) (v := ?_) (op_at rfl) (by kernel_rfl) (by kernel_rfl) (by kernel_rfl) (fun _ _ _ h => h) (Or.inl ⟨by rfl, ?_⟩) hS ?_; rotate_left; focus ((intro w' hSw; clear hSw; go_simp) <;> with_reducible rfl)
              try simp only [Act.put, List.setIfInBounds_toArray, List.set_cons_zero, List.set_cons_succ]
              refine wpAnyH_take (i := 8) (v := ?_) (op_at rfl) (by kernel_rfl) (by kernel_rfl) (by kernel_rfl) (fun _ _ _ h => h) (Or.inl ⟨by rfl, ?_⟩) hS ?_; rotate_left; focus ((intro w' hSw; clear hSw; go_simp) <;> with_reducible rfl)
              try simp only [Act.put, List.setIfInBounds_toArray, List.set_cons_zero, List.set_cons_succ]
              refine wpAnyH_ready (rs := [9]) (by kernel_rfl) (by simp) ?_
              refine (AllReadyH.cons (op_at rfl) (fun K hK => ?_) AllReadyH.nil)
              go_simp
              obtain ⟨b0, b1, b2, hb⟩ := hS
              have N0 : Hid (Blk (w2.alloc (.cells #[.int .i64 0, .int .u64 0, .int .i64 0] 24)) w2.heap.size 24 #[.int .i64 0, .int .u64 0, .int .i64 0]) := Lib.hid (Blk.new' rfl)
              have d0_N0 : b4 ≠ w2.heap.size := Nat.ne_of_lt b0.lt
              have d1_N0 : b ≠ w2.heap.size := Nat.ne_of_lt b1.lt
              have d2_N0 : w0.heap.size ≠ w2.heap.size := Nat.ne_of_lt b2.lt
              have dd_N0 : w0.heap.size ≤ w2.heap.size := hb.size
              refine hK.out _ _ ⟨b0.alloc _, b1.alloc _, b2.alloc _, below_alloc hb _⟩ (fun hS => ?_)
              clear hK K b0 b1 b2 hb
              try simp only [Act.put, List.setIfInBounds_toArray, List.set_cons_zero, List.set_cons_succ]
              refine wpAnyH_ready (rs := [10]) (by kernel_rfl) (by simp) ?_
              refine (AllReadyH.cons (op_at rfl) (fun K hK => ?_) AllReadyH.nil)
              go_simp
              obtain ⟨b0, b1, b2, hb⟩ := hS
              refine hK.out _ _ ⟨(Blk.realloc b0 d0_N0), (Els.realloc b1 d1_N0), (Blk.realloc b2 d2_N0), (below_realloc hb dd_N0)⟩ (fun hS => ?_)
              replace N0 : Hid (Blk (w2.alloc (.cells #[.int .i64 nx.lv, .int .u64 (u nx.c), .int .i64 nx.ig] 24)) w2.heap.size 24 #[.int .i64 nx.lv, .int .u64 (u nx.c), .int .i64 nx.ig]) := Lib.hid (Blk.new' rfl)
              clear hK K b0 b1 b2 hb
              try simp only [Act.put, List.setIfInBounds_toArray, List.set_cons_zero, List.set_cons_succ]
              refine wpAnyH_take (i := 11) (v := ?_) (op_at rfl) (by kernel_rfl) (by kernel_rfl) (by kernel_rfl) (fun _ _ _ h => h) (Or.inl ⟨by rfl, ?_⟩) hS ?_; rotate_left; focus ((intro w' hSw; clear hSw; go_simp) <;> with_reducible rfl)
              try simp only [Act.put, List.setIfInBounds_toArray, List.set_cons_zero, List.set_cons_succ]
              refine wpAnyH_done (by kernel_rfl) ?_ _
              obtain ⟨b0, b1, b2, hb⟩ := hS
              go_wp2_with fail
              go_meet
              exact ⟨_, rfl, rfl, N0.out, b0, b1, b2, hb, d0_N0, d1_N0, d2_N0, dd_N0⟩
            ·
              go_simp
              obtain ⟨b0, b1, b2, hb⟩ := hS
              have N0 : Hid (Blk (w1.alloc (.cells #[.int .i64 0, .int .u64 0, .int .i64 0] 24)) w1.heap.size 24 #[.int .i64 0, .int .u64 0, .int .i64 0]) := Lib.hid (Blk.new' rfl)
              have d0_N0 : b4 ≠ w1.heap.size := Nat.ne_of_lt b0.lt
              have d1_N0 : b ≠ w1.heap.size := Nat.ne_of_lt b1.lt
              have d2_N0 : w0.heap.size ≠ w1.heap.size := Nat.ne_of_lt b2.lt
              have dd_N0 : w0.heap.size ≤ w1.heap.size := hb.size
              refine hK.out _ _ ⟨b0.alloc _, b1.alloc _, b2.alloc _, below_alloc hb _⟩ (fun hS => ?_)
              clear hK K b0 b1 b2 hb
              try simp only [Act.put, List.setIfInBounds_toArray, List.set_cons_zero, List.set_cons_succ]
              refine wpAnyH_ready (rs := [5]) (by kernel_rfl) (by simp) ?_
              refine (AllReadyH.cons (op_at rfl) (fun K hK => ?_) AllReadyH.nil)
              go_simp
              obtain ⟨b0, b1, b2, hb⟩ := hS
              refine (rJoin_step okO.out HNX.out HEX.out _).mono ?_
              rintro e w3 ⟨rfl, hB⟩
              replace N0 := Lib.hid (N0.out.after hB)
              refine hK.out _ _ ⟨b0.after hB, b1.after hB, b2.after hB, below_call hb hB⟩ (fun hS => ?_)
              clear hK K hB b0 b1 b2 hb
              try simp only [Act.put, List.setIfInBounds_toArray, List.set_cons_zero, List.set_cons_succ]
              refine wpAnyH_take (i := 6) (v := ?_) (op_at rfl) (by kernel_rfl) (by kernel_rfl) (by kernel_rfl) (fun _ _ _ h => h) (Or.inl ⟨by rfl, ?_⟩) hS ?_; rotate_left; focus ((intro w' hSw; clear hSw; go_simp) <;> with_reducible rfl)
              try simp only [Act.put, List.setIfInBounds_toArray, List.set_cons_zero, List.set_cons_succ]
              refine wpAnyH_take (i := 7) (v := ?_) (op_at rfl) (by kernel_rfl) (by kernel_rfl) (by kernel_rfl) (fun _ _ _ h => h) (Or.inl ⟨by rfl, ?_⟩) hS ?_; rotate_left; focus ((intro w' hSw; clear hSw; go_simp) <;> with_reducible rfl)
              try simp only [Act.put, List.setIfInBounds_toArray, List.set_cons_zero, List.set_cons_succ]
              refine wpAnyH_take (i := 8) (v := ?_) (op_at rfl) (by kernel_rfl) (by kernel_rfl) (by kernel_rfl) (fun _ _ _ h => h) (Or.inl ⟨by rfl, ?_⟩) hS ?_; rotate_left; focus ((intro w' hSw; clear hSw; go_simp) <;> with_reducible rfl)
              try simp only [Act.put, List.setIfInBounds_toArray, List.set_cons_zero, List.set_cons_succ]
              refine wpAnyH_ready (rs := [10]) (by kernel_rfl) (by simp) ?_
              refine (AllReadyH.cons (op_at rfl) (fun K hK => ?_) AllReadyH.nil)
              have p_0 := N0.out.at_ (i := 0) (v := .int .i64 0) rfl
              have f_0 := N0.out.frozen 0
              have p_1 := N0.out.at_ (i := 1) (v := .int .u64 0) rfl
              have f_1 := N0.out.frozen 1
              have p_2 := N0.out.at_ (i := 2) (v := .int .i64 0) rfl
              have f_2 := N0.out.frozen 2
              go_simp
              clear p_0 f_0 p_1 f_1 p_2 f_2
              obtain ⟨b0, b1, b2, hb⟩ := hS
              refine hK.out _ _ ⟨(Blk.far (Blk.far (Blk.far b0 d0_N0 _) d0_N0 _) d0_N0 _), (Els.far (Els.far (Els.far b1 d1_N0 _) d1_N0 _) d1_N0 _), (Blk.far (Blk.far (Blk.far b2 d2_N0 _) d2_N0 _) d2_N0 _), (below_set (below_set (below_set hb dd_N0 _) dd_N0 _) dd_N0 _)⟩ (fun hS => ?_)
              replace N0 := Lib.hid (Blk.set' (u := .int .i64 nx.ig) (i := 2) (cs' := #[.int .i64 nx.lv, .int .u64 (u nx.c), .int .i64 nx.ig]) (Blk.set' (u := .int .u64 (u nx.c)) (i := 1) (cs' := #[.int .i64 nx.lv, .int .u64 (u nx.c), .int .i64 0]) (Blk.set' (u := .int .i64 nx.lv) (i := 0) (cs' := #[.int .i64 nx.lv, .int .u64 0, .int .i64 0]) N0.out rfl) rfl) rfl)
              clear hK K b0 b1 b2 hb
              try simp only [Act.put, List.setIfInBounds_toArray, List.set_cons_zero, List.set_cons_succ]
              refine wpAnyH_take (i := 11) (v := ?_) (op_at rfl) (by kernel_rfl) (by kernel_rfl) (by kernel_rfl) (fun _ _ _ h => h) (Or.inl ⟨by rfl, ?_⟩) hS ?_; rotate_left; focus ((intro w' hSw; clear hSw; go_simp) <;> with_reducible rfl)
              try simp only [Act.put, List.setIfInBounds_toArray, List.set_cons_zero, List.set_cons_succ]
              refine wpAnyH_done (by kernel_rfl) ?_ _
              obtain ⟨b0, b1, b2, hb⟩ := hS
              go_wp2_with fail
              go_meet
              exact ⟨_, rfl, rfl, N0.out, b0, b1, b2, hb, d0_N0, d1_N0, d2_N0, dd_N0⟩
          case rest =>
            obtain ⟨g3, rfl, rfl, hn, h_0, h_1, h_2, hb, e0_g3, e1_g3, e2_g3, ee_g3⟩ := hcut
            replace B0 := Lib.hid h_0
            clear h_0
            replace B1 := Lib.hid h_1
            clear h_1
            replace B2 := Lib.hid h_2
            clear h_2
            have B3 := Lib.hid hn
            clear hn
            replace HB := Lib.hid hb
            clear hb
            have pB2_0 := B2.out.at_ (i := 0) (v := .int .i64 0) rfl
            have fB2_0 := B2.out.frozen 0
            have pB2_1 := B2.out.at_ (i := 1) (v := .int .u64 0) rfl
            have fB2_1 := B2.out.frozen 1
            have pB2_2 := B2.out.at_ (i := 2) (v := .int .i64 0) rfl
            have fB2_2 := B2.out.frozen 2
            go_wp2_with fail
            have R : Blk (((wc.setCell ⟨w0.heap.size, 0, none⟩ (.int .i64 0)).setCell ⟨w0.heap.size, 1, none⟩ (.int .u64 0)).setCell ⟨w0.heap.size, 2, none⟩ (.int .i64 0)) w0.heap.size 24 #[.int .i64 0, .int .u64 0, .int .i64 0] := (Blk.set' (u := .int .i64 0) (i := 2) (cs' := #[.int .i64 0, .int .u64 0, .int .i64 0]) (Blk.set' (u := .int .u64 0) (i := 1) (cs' := #[.int .i64 0, .int .u64 0, .int .i64 0]) (Blk.set' (u := .int .i64 0) (i := 0) (cs' := #[.int .i64 0, .int .u64 0, .int .i64 0]) B2.out rfl) rfl) rfl)
            have k0 := R.at_ (i := 0) (v := .int .i64 0) rfl
            have k1 := R.at_ (i := 1) (v := .int .u64 0) rfl
            have k2 := R.at_ (i := 2) (v := .int .i64 0) rfl
            rw [HEND.out.1, HEND.out.2]
            refine bodyPost_ret (v := .tuple #[.agg #[.int .i64 0, .int .u64 0, .int .i64 0], .int .i64 20]) (by simp [results, Tryd.results19, go_sem, k0, k1, k2]) rfl ⟨rfl, (below_set (below_set (below_set HB.out (by omega) _) (by omega) _) (by omega) _)⟩
        · have HEX := Lib.hid (show errE x = 0 by unfold errE; rw [ho]; rfl)
          have HALL : Hid (∀ z, z ∈ ls.take (k + 1) → okL z = true) := by
            show ∀ z, z ∈ ls.take (k + 1) → okL z = true
            intro z hz
            rw [HSN.out, List.mem_append] at hz
            rcases hz with hz | hz
            · exact HA.out z hz
            · have hz' : z = x := by simpa using hz
              rw [hz']; exact ho
          clear ho
          go_upto_region 5 with fail
          go_cut [6, 7] (fun s6 s7 wx => ∃ g3 : Nat, s6 = .pointer (some ⟨g3, 0, none⟩) ∧ s7 = .int .i64 0 ∧ Blk wx (g3) 24 #[.int .i64 nx.lv, .int .u64 (u nx.c), .int .i64 nx.ig] ∧ Blk wx (b4) 24 #[.int .i64 o.lv, .int .u64 (u o.c), .int .i64 o.ig] ∧ Els wx (b) (off + k * 3) #[.int .i64 x.lv, .int .u64 (u x.c), .int .i64 x.ig] ∧ Blk wx (w0.heap.size) 24 #[.int .i64 0, .int .u64 0, .int .i64 0] ∧ Below w0.heap.size w0 wx ∧ b4 ≠ g3 ∧ b ≠ g3 ∧ w0.heap.size ≠ g3 ∧ w0.heap.size ≤ g3)
          case first =>
            refine wp_region_gen (S := (fun W' => Blk W' (b4) 24 #[.int .i64 o.lv, .int .u64 (u o.c), .int .i64 o.ig] ∧ Els W' (b) (off + k * 3) #[.int .i64 x.lv, .int .u64 (u x.c), .int .i64 x.ig] ∧ Blk W' (w0.heap.size) 24 #[.int .i64 0, .int .u64 0, .int .i64 0] ∧ Below w0.heap.size w0 W')) (by kernel_rfl) ⟨(by repeat (first | exact B0.out | exact Blk.new' (by simp; done) | exact Blk.new' rfl | refine Blk.drew ?_ | refine Blk.alloc ?_ _)), (by repeat (first | exact B1.out | refine Els.drew ?_ | refine Els.alloc ?_ _)), (by repeat (first | exact B2.out | exact Blk.new' (by simp; done) | exact Blk.new' rfl | refine Blk.drew ?_ | refine Blk.alloc ?_ _)), (by repeat (first | exact HB.out | refine below_alloc ?_ _ | refine Below.drew ?_ | refine below_set ?_ (by omega) _))⟩ (fun w1 hS => ?_)
            refine wpAnyH_take (i := 0) (v := ?_) (op_at rfl) (by kernel_rfl) (by kernel_rfl) (by kernel_rfl) (fun _ _ _ h => h) (Or.inl ⟨by rfl, ?_⟩) hS ?_; rotate_left; focus ((intro w' hSw; obtain ⟨q, -⟩ := hSw; have c0 := q.at_ (i := 0) (v := .int .i64 o.lv) rfl; have c1 := q.at_ (i := 1) (v := .int .u64 (u o.c)) rfl; have c2 := q.at_ (i := 2) (v := .int .i64 o.ig) rfl; clear q; go_simp) <;> with_reducible rfl)
            try simp only [Act.put, List.setIfInBounds_toArray, List.set_cons_zero, List.set_cons_succ]
            refine wpAnyH_take (i := 1) (v := ?_) (op_at rfl) (by kernel_rfl) (by kernel_rfl) (by kernel_rfl) (fun _ _ _ h => h) (Or.inl ⟨by rfl, ?_⟩) hS ?_; rotate_left; focus ((intro w' hSw; clear hSw; go_simp) <;> with_reducible rfl)
            try simp only [Act.put, List.setIfInBounds_toArray, List.set_cons_zero, List.set_cons_succ]
            refine wpAnyH_take (i := 2) (v := ?_) (op_at rfl) (by kernel_rfl) (by kernel_rfl) (by kernel_rfl) (fun _ _ _ h => h) (Or.inl ⟨by rfl, ?_⟩) hS ?_; rotate_left; focus ((intro w' hSw; clear hSw; go_simp) <;> with_reducible rfl)
            try simp only [Act.put, List.setIfInBounds_toArray, List.set_cons_zero, List.set_cons_succ]
            refine wpAnyH_take (i := 3) (v := ?_) (op_at rfl) (by kernel_rfl) (by kernel_rfl) (by kernel_rfl) (fun _ _ _ h => h) (Or.inl ⟨by rfl, ?_⟩) hS ?_; rotate_left; focus ((intro w' hSw; clear hSw; go_simp) <;> with_reducible rfl)
            try simp only [Act.put, List.setIfInBounds_toArray, List.set_cons_zero, List.set_cons_succ]
            refine wpAnyH_take (i := 4) (v := ?_) (op_at rfl) (by kernel_rfl) (by kernel_rfl) (by kernel_rfl) (fun _ _ _ h => h) (Or.inl ⟨by rfl, ?_⟩) hS ?_; rotate_left; focus ((intro w' hSw; obtain ⟨-, q, -⟩ := hSw; have c0 : w'.cell? ⟨b, off + k * 3, none⟩ = some (.int .i64 x.lv) := q.at_ (i := 0) (v := .int .i64 x.lv) rfl; have c1 : w'.cell? ⟨b, off + k * 3 + 1, none⟩ = some (.int .u64 (u x.c)) := q.at_ (i := 1) (v := .int .u64 (u x.c)) rfl; have c2 : w'.cell? ⟨b, off + k * 3 + 2, none⟩ = some (.int .i64 x.ig) := q.at_ (i := 2) (v := .int .i64 x.ig) rfl; clear q; go_simp) <;> with_reducible rfl)
            try simp only [Act.put, List.setIfInBounds_toArray, List.set_cons_zero, List.set_cons_succ]
            refine wpAnyH_ready (rs := [5, 9]) (by kernel_rfl) (by simp) ?_
            refine (AllReadyH.cons (op_at rfl) (fun K hK => ?_) (AllReadyH.cons (op_at rfl) (fun K hK => ?_) AllReadyH.nil))
            ·
              go_simp
              obtain ⟨b0, b1, b2, hb⟩ := hS
              refine (rJoin_step okO.out HNX.out HEX.out _).mono ?_
              rintro e w2 ⟨rfl, hB⟩
              refine hK.out _ _ ⟨b0.after hB, b1.after hB, b2.after hB, below_call hb hB⟩ (fun hS => ?_)
              clear hK K hB b0 b1 b2 hb
              try simp only [Act.put, List.setIfInBounds_toArray, List.set_cons_zero, List.set_cons_succ]
              refine wpAnyH_take (i := 6) (v := ?_) (op_at rfl) (by kernel_rfl) (by kernel_rfl) (by kernel_rfl) (fun _ _ _ h => h) (Or.inl ⟨by rfl, ?_⟩) hS ?_; rotate_left; focus ((intro w' hSw; clear hSw; go_simp) <;> with_reducible rfl)
              try simp only [Act.put, List.setIfInBounds_toArray, List.set_cons_zero, List.set_cons_succ]
              refine wpAnyH_take (i := 7) (v := ?_) (op_at rfl) (by kernel_rfl) (by kernel_rfl) (by kernel_rfl) (fun _ _ _ h => h) (Or.inl ⟨by rfl, ?_⟩) hS ?_; rotate_left; focus ((intro w' hSw; clear hSw; go_simp) <;> with_reducible rfl)
              try simp only [Act.put, List.setIfInBounds_toArray, List.set_cons_zero, List.set_cons_succ]
              refine wpAnyH_take (i := 8) (v := ?_) (op_at rfl) (by kernel_rfl) (by kernel_rfl) (by kernel_rfl) (fun _ _ _ h => h) (Or.inl ⟨by rfl, ?_⟩) hS ?_; rotate_left; focus ((intro w' hSw; clear hSw; go_simp) <;> with_reducible rfl)
              try simp only [Act.put, List.setIfInBounds_toArray, List.set_cons_zero, List.set_cons_succ]
              refine wpAnyH_ready (rs := [9]) (by kernel_rfl) (by simp) ?_
              refine (AllReadyH.cons (op_at rfl) (fun K hK => ?_) AllReadyH.nil)
              go_simp
              obtain ⟨b0, b1, b2, hb⟩ := hS
              have N0 : Hid (Blk (w2.alloc (.cells #[.int .i64 0, .int .u64 0, .int .i64 0] 24)) w2.heap.size 24 #[.int .i64 0, .int .u64 0, .int .i64 0]) := Lib.hid (Blk.new' rfl)
              have d0_N0 : b4 ≠ w2.heap.size := Nat.ne_of_lt b0.lt
              have d1_N0 : b ≠ w2.heap.size := Nat.ne_of_lt b1.lt
              have d2_N0 : w0.heap.size ≠ w2.heap.size := Nat.ne_of_lt b2.lt
              have dd_N0 : w0.heap.size ≤ w2.heap.size := hb.size
              refine hK.out _ _ ⟨b0.alloc _, b1.alloc _, b2.alloc _, below_alloc hb _⟩ (fun hS => ?_)
              clear hK K b0 b1 b2 hb
              try simp only [Act.put, List.setIfInBounds_toArray, List.set_cons_zero, List.set_cons_succ]
              refine wpAnyH_ready (rs := [10]) (by kernel_rfl) (by simp) ?_
              refine (AllReadyH.cons (op_at rfl) (fun K hK => ?_) AllReadyH.nil)
              go_simp
              obtain ⟨b0, b1, b2, hb⟩ := hS
              refine hK.out _ _ ⟨(Blk.realloc b0 d0_N0), (Els.realloc b1 d1_N0), (Blk.realloc b2 d2_N0), (below_realloc hb dd_N0)⟩ (fun hS => ?_)
              replace N0 : Hid (Blk (w2.alloc (.cells #[.int .i64 nx.lv, .int .u64 (u nx.c), .int .i64 nx.ig] 24)) w2.heap.size 24 #[.int .i64 nx.lv, .int .u64 (u nx.c), .int .i64 nx.ig]) := Lib.hid (Blk.new' rfl)
              clear hK K b0 b1 b2 hb
              try simp only [Act.put, List.setIfInBounds_toArray, List.set_cons_zero, List.set_cons_succ]
              refine wpAnyH_take (i := 11) (v := ?_) (op_at rfl) (by kernel_rfl) (by kernel_rfl) (by kernel_rfl) (fun _ _ _ h => h) (Or.inl ⟨by rfl, ?_⟩) hS ?_; rotate_left; focus ((intro w' hSw; clear hSw; go_simp) <;> with_reducible rfl)
              try simp only [Act.put, List.setIfInBounds_toArray, List.set_cons_zero, List.set_cons_succ]
              refine wpAnyH_done (by kernel_rfl) ?_ _
              obtain ⟨b0, b1, b2, hb⟩ := hS
              go_wp2_with fail
              go_meet
              exact ⟨_, rfl, rfl, N0.out, b0, b1, b2, hb, d0_N0, d1_N0, d2_N0, dd_N0⟩
            ·
              go_simp
              obtain ⟨b0, b1, b2, hb⟩ := hS
              have N0 : Hid (Blk (w1.alloc (.cells #[.int .i64 0, .int .u64 0, .int .i64 0] 24)) w1.heap.size 24 #[.int .i64 0, .int .u64 0, .int .i64 0]) := Lib.hid (Blk.new' rfl)
              have d0_N0 : b4 ≠ w1.heap.size := Nat.ne_of_lt b0.lt
              have d1_N0 : b ≠ w1.heap.size := Nat.ne_of_lt b1.lt
              have d2_N0 : w0.heap.size ≠ w1.heap.size := Nat.ne_of_lt b2.lt
              have dd_N0 : w0.heap.size ≤ w1.heap.size := hb.size
              refine hK.out _ _ ⟨b0.alloc _, b1.alloc _, b2.alloc _, below_alloc hb _⟩ (fun hS => ?_)
              clear hK K b0 b1 b2 hb
              try simp only [Act.put, List.setIfInBounds_toArray, List.set_cons_zero, List.set_cons_succ]
              refine wpAnyH_ready (rs := [5]) (by kernel_rfl) (by simp) ?_
              refine (AllReadyH.cons (op_at rfl) (fun K hK => ?_) AllReadyH.nil)
              go_simp
              obtain ⟨b0, b1, b2, hb⟩ := hS
              refine (rJoin_step okO.out HNX.out HEX.out _).mono ?_
              rintro e w3 ⟨rfl, hB⟩
              replace N0 := Lib.hid (N0.out.after hB)
              refine hK.out _ _ ⟨b0.after hB, b1.after hB, b2.after hB, below_call hb hB⟩ (fun hS => ?_)
              clear hK K hB b0 b1 b2 hb
              try simp only [Act.put, List.setIfInBounds_toArray, List.set_cons_zero, List.set_cons_succ]
              refine wpAnyH_take (i := 6) (v := ?_) (op_at rfl) (by kernel_rfl) (by kernel_rfl) (by kernel_rfl) (fun _ _ _ h => h) (Or.inl ⟨by rfl, ?_⟩) hS ?_; rotate_left; focus ((intro w' hSw; clear hSw; go_simp) <;> with_reducible rfl)
              try simp only [Act.put, List.setIfInBounds_toArray, List.set_cons_zero, List.set_cons_succ]
              refine wpAnyH_take (i := 7) (v := ?_) (op_at rfl) (by kernel_rfl) (by kernel_rfl) (by kernel_rfl) (fun _ _ _ h => h) (Or.inl ⟨by rfl, ?_⟩) hS ?_; rotate_left; focus ((intro w' hSw; clear hSw; go_simp) <;> with_reducible rfl)
              try simp only [Act.put, List.setIfInBounds_toArray, List.set_cons_zero, List.set_cons_succ]
              refine wpAnyH_take (i := 8) (v := ?_) (op_at rfl) (by kernel_rfl) (by kernel_rfl) (by kernel_rfl) (fun _ _ _ h => h) (Or.inl ⟨by rfl, ?_⟩) hS ?_; rotate_left; focus ((intro w' hSw; clear hSw; go_simp) <;> with_reducible rfl)
              try simp only [Act.put, List.setIfInBounds_toArray, List.set_cons_zero, List.set_cons_succ]
              refine wpAnyH_ready (rs := [10]) (by kernel_rfl) (by simp) ?_
              refine (AllReadyH.cons (op_at rfl) (fun K hK => ?_) AllReadyH.nil)
              have p_0 := N0.out.at_ (i := 0) (v := .int .i64 0) rfl
              have f_0 := N0.out.frozen 0
              have p_1 := N0.out.at_ (i := 1) (v := .int .u64 0) rfl
              have f_1 := N0.out.frozen 1
              have p_2 := N0.out.at_ (i := 2) (v := .int .i64 0) rfl
              have f_2 := N0.out.frozen 2
              go_simp
              clear p_0 f_0 p_1 f_1 p_2 f_2
              obtain ⟨b0, b1, b2, hb⟩ := hS
              refine hK.out _ _ ⟨(Blk.far (Blk.far (Blk.far b0 d0_N0 _) d0_N0 _) d0_N0 _), (Els.far (Els.far (Els.far b1 d1_N0 _) d1_N0 _) d1_N0 _), (Blk.far (Blk.far (Blk.far b2 d2_N0 _) d2_N0 _) d2_N0 _), (below_set (below_set (below_set hb dd_N0 _) dd_N0 _) dd_N0 _)⟩ (fun hS => ?_)
              replace N0 := Lib.hid (Blk.set' (u := .int .i64 nx.ig) (i := 2) (cs' := #[.int .i64 nx.lv, .int .u64 (u nx.c), .int .i64 nx.ig]) (Blk.set' (u := .int .u64 (u nx.c)) (i := 1) (cs' := #[.int .i64 nx.lv, .int .u64 (u nx.c), .int .i64 0]) (Blk.set' (u := .int .i64 nx.lv) (i := 0) (cs' := #[.int .i64 nx.lv, .int .u64 0, .int .i64 0]) N0.out rfl) rfl) rfl)
              clear hK K b0 b1 b2 hb
              try simp only [Act.put, List.setIfInBounds_toArray, List.set_cons_zero, List.set_cons_succ]
              refine wpAnyH_take (i := 11) (v := ?_) (op_at rfl) (by kernel_rfl) (by kernel_rfl) (by kernel_rfl) (fun _ _ _ h => h) (Or.inl ⟨by rfl, ?_⟩) hS ?_; rotate_left; focus ((intro w' hSw; clear hSw; go_simp) <;> with_reducible rfl)
              try simp only [Act.put, List.setIfInBounds_toArray, List.set_cons_zero, List.set_cons_succ]
              refine wpAnyH_done (by kernel_rfl) ?_ _
              obtain ⟨b0, b1, b2, hb⟩ := hS
              go_wp2_with fail
              go_meet
              exact ⟨_, rfl, rfl, N0.out, b0, b1, b2, hb, d0_N0, d1_N0, d2_N0, dd_N0⟩
          case rest =>
            obtain ⟨g3, rfl, rfl, hn, h_0, h_1, h_2, hb, e0_g3, e1_g3, e2_g3, ee_g3⟩ := hcut
            replace B0 := Lib.hid h_0
            clear h_0
            replace B1 := Lib.hid h_1
            clear h_1
            replace B2 := Lib.hid h_2
            clear h_2
            have B3 := Lib.hid hn
            clear hn
            replace HB := Lib.hid hb
            clear hb
            have pB3_0 := B3.out.at_ (i := 0) (v := .int .i64 nx.lv) rfl
            have pB3_1 := B3.out.at_ (i := 1) (v := .int .u64 (u nx.c)) rfl
            have pB3_2 := B3.out.at_ (i := 2) (v := .int .i64 nx.ig) rfl
            have pB0_0 := B0.out.at_ (i := 0) (v := .int .i64 o.lv) rfl
            have fB0_0 := B0.out.frozen 0
            have pB0_1 := B0.out.at_ (i := 1) (v := .int .u64 (u o.c)) rfl
            have fB0_1 := B0.out.frozen 1
            have pB0_2 := B0.out.at_ (i := 2) (v := .int .i64 o.ig) rfl
            have fB0_2 := B0.out.frozen 2
            have Q0 := Lib.hid (show Blk (((wc.setCell ⟨b4, 0, none⟩ (.int .i64 nx.lv)).setCell ⟨b4, 1, none⟩ (.int .u64 (u nx.c))).setCell ⟨b4, 2, none⟩ (.int .i64 nx.ig)) b4 24 #[.int .i64 nx.lv, .int .u64 (u nx.c), .int .i64 nx.ig] from (Blk.set' (u := .int .i64 nx.ig) (i := 2) (cs' := #[.int .i64 nx.lv, .int .u64 (u nx.c), .int .i64 nx.ig]) (Blk.set' (u := .int .u64 (u nx.c)) (i := 1) (cs' := #[.int .i64 nx.lv, .int .u64 (u nx.c), .int .i64 o.ig]) (Blk.set' (u := .int .i64 nx.lv) (i := 0) (cs' := #[.int .i64 nx.lv, .int .u64 (u o.c), .int .i64 o.ig]) B0.out rfl) rfl) rfl))
            have Q2 := Lib.hid (show Blk (((wc.setCell ⟨b4, 0, none⟩ (.int .i64 nx.lv)).setCell ⟨b4, 1, none⟩ (.int .u64 (u nx.c))).setCell ⟨b4, 2, none⟩ (.int .i64 nx.ig)) w0.heap.size 24 #[.int .i64 0, .int .u64 0, .int .i64 0] from (Blk.far (Blk.far (Blk.far B2.out (by omega) _) (by omega) _) (by omega) _))
            have QB := Lib.hid (show Below w0.heap.size w0 (((wc.setCell ⟨b4, 0, none⟩ (.int .i64 nx.lv)).setCell ⟨b4, 1, none⟩ (.int .u64 (u nx.c))).setCell ⟨b4, 2, none⟩ (.int .i64 nx.ig)) from (below_set (below_set (below_set HB.out (by omega) _) (by omega) _) (by omega) _))
            go_wp2_with fail
            go_roundw
            case rel => exact ⟨k + 1, nx, by go_num, by omega, HF.out, HALL.out, Q0.out, Q2.out, QB.out⟩
            case measure => simp [intOf]; omega
      · have hke : k = ls.length := by omega
        subst hke
        have hAll : ls.all okL = true := by
          rw [List.all_eq_true]; intro z hz; exact HA.out z (by rw [List.take_length]; exact hz)
        have hfo := HFO.out
        rw [List.take_length] at hfo
        have HEND : Hid (leastL ls = o ∧ leastE ls = 0) := ⟨by unfold leastL; rw [if_pos hAll]; exact hfo, by unfold leastE; rw [if_pos hAll]⟩
        clear hAll hfo
        have p0 := B0.out.at_ (i := 0) (v := .int .i64 o.lv) rfl
        have p1 := B0.out.at_ (i := 1) (v := .int .u64 (u o.c)) rfl
        have p2 := B0.out.at_ (i := 2) (v := .int .i64 o.ig) rfl
        have q0 := B2.out.at_ (i := 0) (v := .int .i64 0) rfl
        have q1 := B2.out.at_ (i := 1) (v := .int .u64 0) rfl
        have q2 := B2.out.at_ (i := 2) (v := .int .i64 0) rfl
        have f0 := B2.out.frozen 0
        have f1 := B2.out.frozen 1
        have f2 := B2.out.frozen 2
        go_wp2_with fail
        have R : Blk (((wr.setCell ⟨w0.heap.size, 0, none⟩ (.int .i64 o.lv)).setCell ⟨w0.heap.size, 1, none⟩ (.int .u64 (u o.c))).setCell ⟨w0.heap.size, 2, none⟩ (.int .i64 o.ig)) w0.heap.size 24 #[.int .i64 o.lv, .int .u64 (u o.c), .int .i64 o.ig] := (Blk.set' (u := .int .i64 o.ig) (i := 2) (cs' := #[.int .i64 o.lv, .int .u64 (u o.c), .int .i64 o.ig]) (Blk.set' (u := .int .u64 (u o.c)) (i := 1) (cs' := #[.int .i64 o.lv, .int .u64 (u o.c), .int .i64 0]) (Blk.set' (u := .int .i64 o.lv) (i := 0) (cs' := #[.int .i64 o.lv, .int .u64 0, .int .i64 0]) B2.out rfl) rfl) rfl)
        have k0 := R.at_ (i := 0) (v := .int .i64 o.lv) rfl
        have k1 := R.at_ (i := 1) (v := .int .u64 (u o.c)) rfl
        have k2 := R.at_ (i := 2) (v := .int .i64 o.ig) rfl
        rw [HEND.out.1, HEND.out.2]
        refine bodyPost_ret (v := .tuple #[.agg #[.int .i64 o.lv, .int .u64 (u o.c), .int .i64 o.ig], .int .i64 0]) (by simp [results, Tryd.results19, go_sem, k0, k1, k2]) rfl ⟨rfl, (below_set (below_set (below_set HB.out (by omega) _) (by omega) _) (by omega) _)⟩
end Go.Proofs.YtapgeagmdiphgaaDoor
