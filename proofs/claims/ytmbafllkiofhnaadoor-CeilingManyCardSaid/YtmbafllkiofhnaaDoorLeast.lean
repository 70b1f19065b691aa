/-
  THE WALKS OF label.joined AND label.Least: a range over a function whose iterator keeps a label of its own (printed by wip/genleast.py).
-/
import Derived.Test.YtmbafllkiofhnaaDoorLabC
import Derived.Test.YtmbafllkiofhnaaDoorLabQ
import Derived.Test.YtmbafllkiofhnaaDoorLabs
import Derived.Test.YtmbafllkiofhnaaDoorRange
import Derived.Sort.CutIn
import Derived.TacticsInMore
import Derived.LoopNIn
import Derived.LoopIn
import Derived.WalkMore
import Derived.RangeFuncLeaves
import Derived.RangeFuncBox
import Derived.OwnWalkIn
import Derived.Shelf.Abstract
namespace Go.Proofs.YtmbafllkiofhnaaDoor
open Go.RowKit Go.Shelf

attribute [local go_sem] Oper.semAt_some
attribute [local go_sem] u_and u_or u_andNot u_add u_sub u_bit u_eq_zero u_beq

/-- a scope through which the run goes without a goto, at the wide fence -/
theorem wpInW_scope {n : Nat} {P : Program} {Q : Exit → Act → World → Prop} {a : Act} {w : World} {c : Code} (h : c.wpIn Fence.wide n P (Exit.noGoto Q) a w) : (Code.scope c).wpIn Fence.wide n P Q a w :=
  wpIn_wide.2 (wp_scope_straight (wpIn_wide.1 h))
theorem BottomL_any (w : World) : Calls Tryd.prog 24 #[] w fun e w' => e = .returned (.agg #[.int .i64 botL.lv, .int .u64 (u botL.c), .int .i64 botL.ig]) ∧ Below w.heap.size w w' := by
  go_enter Tryd.func24, Tryd.ntmps24
  go_wp2
  go_returns
  exact ⟨rfl, by go_grown⟩

/-! ### the plain fold -/
def stepL (o x : Lab) : Lab := if okL x then joinL o x else zeroL
def foldsL (l : List Lab) : Lab := l.foldl stepL botL
theorem foldsL_snoc (l : List Lab) (x : Lab) : foldsL (l ++ [x]) = stepL (foldsL l) x := by unfold foldsL; rw [List.foldl_append]; rfl
theorem okL_zero : okL zeroL = true := rfl
theorem okL_step {o x : Lab} (ho : okL o = true) : okL (stepL o x) = true := by
  unfold stepL
  split
  · exact okL_join ho (by assumption)
  · rfl
theorem okL_foldl (l : List Lab) : ∀ {o : Lab}, okL o = true → okL (l.foldl stepL o) = true := by
  induction l with
  | nil => exact fun h => h
  | cons x l ih => exact fun h => ih (okL_step h)
theorem okL_folds (l : List Lab) : okL (foldsL l) = true := okL_foldl l rfl
theorem take_snoc' {α : Type} {l : List α} {k : Nat} {x : α} (h : l[k]? = some x) : l.take (k + 1) = l.take k ++ [x] := by
  rw [List.take_add_one, h]; rfl
/-- what 'of' answers to a joiner, the first being a label -/
def ErrOf (x : Lab) (e : Value) : Prop := (okL x = true ∧ e = .nilIface) ∨ (okL x = false ∧ ∃ y : Lab, e = .iface 72 (.agg #[.int .i64 y.lv, .int .u64 (u y.c), .int .i64 y.ig]))
theorem of_step (o x : Lab) (w : World) (ho : okL o = true) :
    Calls Tryd.prog 40 #[.agg #[.func (.func 51) #[] #[], .func (.func 52) #[] #[], .func (.func 53) #[] #[]], .agg #[.int .i64 o.lv, .int .u64 (u o.c), .int .i64 o.ig, .int .i64 x.lv, .int .u64 (u x.c), .int .i64 x.ig]] w fun e w' => ∃ er, e = .returned (.tuple #[.agg #[.int .i64 (stepL o x).lv, .int .u64 (u (stepL o x).c), .int .i64 (stepL o x).ig], er]) ∧ ErrOf x er ∧ Below w.heap.size w w' := by
  by_cases hx : okL x = true
  · have e : stepL o x = joinL o x := if_pos hx
    rw [e]
    exact (of_joins o x w ho hx).mono fun e w' h => ⟨.nilIface, h.1, .inl ⟨hx, rfl⟩, h.2⟩
  · have e : stepL o x = zeroL := if_neg hx
    rw [e]
    exact (of_bad _ _ _ o x w (fun k => hx k.2)).mono fun e w' ⟨y, h1, h2⟩ => ⟨_, h1, .inr ⟨by simpa using hx, y, rfl⟩, h2⟩
theorem of_step_is {o x nx : Lab} (ho : okL o = true) (hn : stepL o x = nx) (w : World) :
    Calls Tryd.prog 40 #[.agg #[.func (.func 51) #[] #[], .func (.func 52) #[] #[], .func (.func 53) #[] #[]], .agg #[.int .i64 o.lv, .int .u64 (u o.c), .int .i64 o.ig, .int .i64 x.lv, .int .u64 (u x.c), .int .i64 x.ig]] w fun e w' => ∃ er, e = .returned (.tuple #[.agg #[.int .i64 nx.lv, .int .u64 (u nx.c), .int .i64 nx.ig], er]) ∧ ErrOf x er ∧ Below w.heap.size w w' := by
  subst hn; exact of_step o x w ho

/-! ### the iterator -/
def encJ (it : Lab × Value) : Array Value := #[.agg #[.int .i64 it.1.lv, .int .u64 (u it.1.c), .int .i64 it.1.ig], it.2]
/-- what comes behind what has come -/
def NextJ (ls : List Lab) (pre : List (Lab × Value)) (it : Lab × Value) : Prop := ∃ x, ls[pre.length]? = some x ∧ it.1 = stepL (foldsL (ls.take pre.length)) x ∧ ErrOf x it.2
theorem NextJ.fold {ls : List Lab} {pre : List (Lab × Value)} {it : Lab × Value} (h : NextJ ls pre it) : it.1 = foldsL (ls.take (pre ++ [it]).length) := by
  obtain ⟨x, h1, h2, _⟩ := h
  rw [List.length_append, List.length_singleton, take_snoc' h1, foldsL_snoc]; exact h2
set_option maxRecDepth 100000 in
set_option maxHeartbeats 8000000 in
theorem joined_seq (n : Nat) (hn : 1 ≤ n) (ls : List Lab) (v : Value) (bl B n0 : Nat) (W : World) (U : Nat → Prop) (hbox : W.cell? ⟨bl, 0, none⟩ = some v) (hl : LabsAt B W v ls) (hBW : B ≤ W.heap.size) (hU : ∀ k, U k → B ≤ k ∧ k < W.heap.size) :
    SeqM Fence.wide n Tryd.prog 55 #[.pointer (some ⟨bl, 0, none⟩)] encJ n0 (fun k => W.heap.size ≤ k) U (fun pre it _ => NextJ ls pre it) (fun xs _ => xs.length = ls.length) (fun _ _ => True) W := by
  intro l J Jx hJ hJx hY h0
  have HY := Lib.hid hY
  have HJ := Lib.hid hJ
  have HJX := Lib.hid hJx
  have H0 := Lib.hid h0
  have HL := Lib.hid hl
  have HU := Lib.hid hU
  clear hY hJ hJx h0 hl hU
  have hbl : bl < W.heap.size := World.block_lt_of_cell? _ _ hbox
  refine callsIn_of_wp Tryd.func55 rfl trivial ?_ rfl
  simp only [Tryd.ntmps55, List.size_toArray, List.length_cons, List.length_nil, Nat.reduceAdd, Nat.reduceSub, Array.replicate_succ, Array.replicate_zero, List.push_toArray, List.append_toArray, List.nil_append, List.cons_append]
  refine wpInW_scope ?_
  gi_wp2_with (refine ⟨trivial, ?_⟩; gi_at_call 24; refine (callsIn_wide.2 (BottomL_any _)).mono ?_; rintro e w1 ⟨rfl, hB⟩)
  refine wpIn_label ?_
  simp only [Exit.then]
  have hb1 : w1.cell? ⟨bl, 0, none⟩ = some v := (hB.cell (p := ⟨bl, 0, none⟩) hbl).trans hbox
  have hbl1 : bl < w1.heap.size := Nat.lt_of_lt_of_le hbl hB.size
  have hob : W.heap.size ≤ w1.heap.size := hB.size
  have hO : Blk (w1.alloc (.cells #[.int .i64 botL.lv, .int .u64 (u botL.c), .int .i64 botL.ig] 24)) w1.heap.size 24 #[.int .i64 botL.lv, .int .u64 (u botL.c), .int .i64 botL.ig] := Blk.new' rfl
  have hT0 : Turns (fun k => W.heap.size ≤ k) W (w1.alloc (.cells #[.int .i64 botL.lv, .int .u64 (u botL.c), .int .i64 botL.ig] 24)) := (Turns.of_below hB).alloc _
  have HO := Lib.hid hO
  have HT := Lib.hid hT0
  clear hO hT0 hB
  rcases HL.out with ⟨rfl, rfl⟩ | ⟨b, off, cap, rfl, hlt, hcap, hn63, hc⟩
  · gi_wp2
    gi_loopw [11] (fun s wr => s = .int .i64 0 ∧ J [] wr) (fun s _ => 0)
    case atStart => exact ⟨rfl, HJ.out _ _ _ H0.out HT.out⟩
    case round =>
      obtain ⟨rfl, hJp⟩ := hrel
      have HJP := Lib.hid hJp
      clear hJp
      gi_wp2
      rw [Exit.noGoto_normal]
      go_end0
      exact ⟨⟨_, rfl⟩, .inl ⟨[], rfl, HJP.out⟩⟩
  have HC := Lib.hid hc
  clear hc
  gi_wp2
  generalize w1.heap.size = ob at *
  gi_loopw [11] (fun s wr => ∃ (pre : List (Lab × Value)) (o : Lab), s = .int .i64 pre.length ∧ pre.length ≤ ls.length ∧ o = foldsL (ls.take pre.length) ∧ J pre wr ∧ Blk wr ob 24 #[.int .i64 o.lv, .int .u64 (u o.c), .int .i64 o.ig] ∧ W.heap.size ≤ wr.heap.size ∧ (∀ b' q x', b' < B → W.cell? ⟨b', q, none⟩ = some x' → wr.cell? ⟨b', q, none⟩ = some x')) (fun s _ => ls.length - (intOf s).toNat)
  case atStart => exact ⟨[], botL, rfl, Nat.zero_le _, rfl, HJ.out _ _ _ H0.out HT.out, HO.out, HT.out.size, fun b' q x' hb hx => (HT.out.moves 0).cell hx (fun (t : W.heap.size ≤ b') => by omega)⟩
  case round =>
    obtain ⟨pre, o, rfl, hlen, hfo, hJp, hO, hTw, hK⟩ := hrel
    obtain ⟨w, rfl⟩ : ∃ w, w = wr := ⟨_, rfl⟩
    have HJP := Lib.hid hJp
    have B0 := Lib.hid hO
    have HK := Lib.hid hK
    have HTW := Lib.hid hTw
    have HFO := Lib.hid hfo
    have okO := Lib.hid (show okL o = true by rw [hfo]; exact okL_folds _)
    clear hJp hO hK hTw hfo
    by_cases hkl : pre.length < ls.length
    · obtain ⟨x, hx⟩ : ∃ x, ls[pre.length]? = some x := ⟨_, List.getElem?_eq_getElem hkl⟩
      obtain ⟨nx, hnx⟩ : ∃ nx, stepL o x = nx := ⟨_, rfl⟩
      obtain ⟨c0, c1, c2⟩ := HC.out _ x hx
      replace c0 := HK.out _ _ _ hlt c0
      replace c1 := HK.out _ _ _ hlt c1
      replace c2 := HK.out _ _ _ hlt c2
      have HX := Lib.hid hx
      have HNX := Lib.hid hnx
      clear hx hnx
      have HB := Lib.hid (Below.refl w.heap.size w)
      gi_upto_region 4 with fail
      gi_cut [6, 7] from 15 (fun s6 s7 wx => ∃ er : Value, ∃ g6 : Nat, ErrOf x er ∧ s6 = .pointer (some ⟨g6, 0, none⟩) ∧ s7 = er ∧ Blk wx (g6) 24 #[.int .i64 nx.lv, .int .u64 (u nx.c), .int .i64 nx.ig] ∧ Blk wx (ob) 24 #[.int .i64 o.lv, .int .u64 (u o.c), .int .i64 o.ig] ∧ Blk wx (w.heap.size) 24 #[.int .i64 x.lv, .int .u64 (u x.c), .int .i64 x.ig] ∧ Below w.heap.size w wx ∧ ob ≠ g6 ∧ w.heap.size ≠ g6 ∧ w.heap.size ≤ g6)
      case first =>
        refine wpIn_wide.2 ?_
        refine wp_region_gen (S := (fun W' => Blk W' (ob) 24 #[.int .i64 o.lv, .int .u64 (u o.c), .int .i64 o.ig] ∧ Blk W' (w.heap.size) 24 #[.int .i64 x.lv, .int .u64 (u x.c), .int .i64 x.ig] ∧ Below w.heap.size w W')) (by kernel_rfl) ⟨(by repeat (first | exact B0.out | exact Blk.new' (by simp; done) | exact Blk.new' rfl | refine Blk.drew ?_ | refine Blk.alloc ?_ _)), (by repeat (first | exact Blk.new' (by simp; done) | exact Blk.new' rfl | refine Blk.drew ?_ | refine Blk.alloc ?_ _)), (by repeat (first | exact HB.out | refine below_alloc ?_ _ | refine Below.drew ?_ | refine below_set ?_ (by omega) _))⟩ (fun w1 hS => ?_)
        refine wpAnyH_take (i := 1) (v := ?_) (op_at rfl) (by kernel_rfl) (by kernel_rfl) (by kernel_rfl) (fun _ _ _ h => h) (Or.inl ⟨by rfl, ?_⟩) hS ?_; rotate_left; focus ((intro w' hSw; obtain ⟨q, -⟩ := hSw; have c0 := q.at_ (i := 0) (v := .int .i64 o.lv) rfl; have c1 := q.at_ (i := 1) (v := .int .u64 (u o.c)) rfl; have c2 := q.at_ (i := 2) (v := .int .i64 o.ig) rfl; clear q; go_simp) <;> with_reducible rfl)
        try simp only [Act.put, List.setIfInBounds_toArray, List.set_cons_zero, List.set_cons_succ]
        refine wpAnyH_take (i := 2) (v := ?_) (op_at rfl) (by kernel_rfl) (by kernel_rfl) (by kernel_rfl) (fun _ _ _ h => h) (Or.inl ⟨by rfl, ?_⟩) hS ?_; rotate_left; focus ((intro w' hSw; obtain ⟨-, q, -⟩ := hSw; have c0 := q.at_ (i := 0) (v := .int .i64 x.lv) rfl; have c1 := q.at_ (i := 1) (v := .int .u64 (u x.c)) rfl; have c2 := q.at_ (i := 2) (v := .int .i64 x.ig) rfl; clear q; go_simp) <;> with_reducible rfl)
        try simp only [Act.put, List.setIfInBounds_toArray, List.set_cons_zero, List.set_cons_succ]
        refine wpAnyH_take (i := 3) (v := ?_) (op_at rfl) (by kernel_rfl) (by kernel_rfl) (by kernel_rfl) (fun _ _ _ h => h) (Or.inl ⟨by rfl, ?_⟩) hS ?_; rotate_left; focus ((intro w' hSw; clear hSw; go_simp) <;> with_reducible rfl)
        try simp only [Act.put, List.setIfInBounds_toArray, List.set_cons_zero, List.set_cons_succ]
        refine wpAnyH_ready (rs := [0, 8]) (by kernel_rfl) (by simp) ?_
        refine (AllReadyH.cons (op_at rfl) (fun K hK => ?_) (AllReadyH.cons (op_at rfl) (fun K hK => ?_) AllReadyH.nil))
        ·
          go_simp
          obtain ⟨b0, b1, hb⟩ := hS
          refine (joins_any _).mono ?_
          rintro e w2 ⟨rfl, hB⟩
          refine hK.out _ _ ⟨b0.after hB, b1.after hB, below_call hb hB⟩ (fun hS => ?_)
          clear hK K hB b0 b1 hb
          try simp only [Act.put, List.setIfInBounds_toArray, List.set_cons_zero, List.set_cons_succ]
          refine wpAnyH_ready (rs := [4, 8]) (by kernel_rfl) (by simp) ?_
          refine (AllReadyH.cons (op_at rfl) (fun K hK => ?_) (AllReadyH.cons (op_at rfl) (fun K hK => ?_) AllReadyH.nil))
          ·
            go_simp
            obtain ⟨b0, b1, hb⟩ := hS
            refine (of_step_is okO.out HNX.out _).mono ?_
            rintro e w3 ⟨er, rfl, HE, hB⟩
            refine hK.out _ _ ⟨b0.after hB, b1.after hB, below_call hb hB⟩ (fun hS => ?_)
            clear hK K hB b0 b1 hb
            try simp only [Act.put, List.setIfInBounds_toArray, List.set_cons_zero, List.set_cons_succ]
            refine wpAnyH_take (i := 5) (v := ?_) (op_at rfl) (by kernel_rfl) (by kernel_rfl) (by kernel_rfl) (fun _ _ _ h => h) (Or.inl ⟨by rfl, ?_⟩) hS ?_; rotate_left; focus ((intro w' hSw; clear hSw; go_simp) <;> with_reducible rfl)
            try simp only [Act.put, List.setIfInBounds_toArray, List.set_cons_zero, List.set_cons_succ]
            refine wpAnyH_take (i := 6) (v := ?_) (op_at rfl) (by kernel_rfl) (by kernel_rfl) (by kernel_rfl) (fun _ _ _ h => h) (Or.inl ⟨by rfl, ?_⟩) hS ?_; rotate_left; focus ((intro w' hSw; clear hSw; go_simp) <;> with_reducible rfl)
            try simp only [Act.put, List.setIfInBounds_toArray, List.set_cons_zero, List.set_cons_succ]
            refine wpAnyH_take (i := 7) (v := ?_) (op_at rfl) (by kernel_rfl) (by kernel_rfl) (by kernel_rfl) (fun _ _ _ h => h) (Or.inl ⟨by rfl, ?_⟩) hS ?_; rotate_left; focus ((intro w' hSw; clear hSw; go_simp) <;> with_reducible rfl)
            try simp only [Act.put, List.setIfInBounds_toArray, List.set_cons_zero, List.set_cons_succ]
            refine wpAnyH_ready (rs := [8]) (by kernel_rfl) (by simp) ?_
            refine (AllReadyH.cons (op_at rfl) (fun K hK => ?_) AllReadyH.nil)
            go_simp
            obtain ⟨b0, b1, hb⟩ := hS
            have N0 : Hid (Blk (w3.alloc (.cells #[.int .i64 0, .int .u64 0, .int .i64 0] 24)) w3.heap.size 24 #[.int .i64 0, .int .u64 0, .int .i64 0]) := Lib.hid (Blk.new' rfl)
            have d0_N0 : ob ≠ w3.heap.size := Nat.ne_of_lt b0.lt
            have d1_N0 : w.heap.size ≠ w3.heap.size := Nat.ne_of_lt b1.lt
            have dd_N0 : w.heap.size ≤ w3.heap.size := hb.size
            refine hK.out _ _ ⟨b0.alloc _, b1.alloc _, below_alloc hb _⟩ (fun hS => ?_)
            clear hK K b0 b1 hb
            try simp only [Act.put, List.setIfInBounds_toArray, List.set_cons_zero, List.set_cons_succ]
            refine wpAnyH_ready (rs := [9]) (by kernel_rfl) (by simp) ?_
            refine (AllReadyH.cons (op_at rfl) (fun K hK => ?_) AllReadyH.nil)
            go_simp
            obtain ⟨b0, b1, hb⟩ := hS
            refine hK.out _ _ ⟨(Blk.realloc b0 d0_N0), (Blk.realloc b1 d1_N0), (below_realloc hb dd_N0)⟩ (fun hS => ?_)
            replace N0 : Hid (Blk (w3.alloc (.cells #[.int .i64 nx.lv, .int .u64 (u nx.c), .int .i64 nx.ig] 24)) w3.heap.size 24 #[.int .i64 nx.lv, .int .u64 (u nx.c), .int .i64 nx.ig]) := Lib.hid (Blk.new' rfl)
            clear hK K b0 b1 hb
            try simp only [Act.put, List.setIfInBounds_toArray, List.set_cons_zero, List.set_cons_succ]
            refine wpAnyH_take (i := 10) (v := ?_) (op_at rfl) (by kernel_rfl) (by kernel_rfl) (by kernel_rfl) (fun _ _ _ h => h) (Or.inl ⟨by rfl, ?_⟩) hS ?_; rotate_left; focus ((intro w' hSw; clear hSw; go_simp) <;> with_reducible rfl)
            try simp only [Act.put, List.setIfInBounds_toArray, List.set_cons_zero, List.set_cons_succ]
            refine wpAnyH_done (by kernel_rfl) ?_ _
            obtain ⟨b0, b1, hb⟩ := hS
            gi_wp2_with fail
            gi_meet
            exact ⟨er, _, HE, rfl, rfl, N0.out, b0, b1, hb, d0_N0, d1_N0, dd_N0⟩
          ·
            go_simp
            obtain ⟨b0, b1, hb⟩ := hS
            have N0 : Hid (Blk (w2.alloc (.cells #[.int .i64 0, .int .u64 0, .int .i64 0] 24)) w2.heap.size 24 #[.int .i64 0, .int .u64 0, .int .i64 0]) := Lib.hid (Blk.new' rfl)
            have d0_N0 : ob ≠ w2.heap.size := Nat.ne_of_lt b0.lt
            have d1_N0 : w.heap.size ≠ w2.heap.size := Nat.ne_of_lt b1.lt
            have dd_N0 : w.heap.size ≤ w2.heap.size := hb.size
            refine hK.out _ _ ⟨b0.alloc _, b1.alloc _, below_alloc hb _⟩ (fun hS => ?_)
            clear hK K b0 b1 hb
            try simp only [Act.put, List.setIfInBounds_toArray, List.set_cons_zero, List.set_cons_succ]
            refine wpAnyH_ready (rs := [4]) (by kernel_rfl) (by simp) ?_
            refine (AllReadyH.cons (op_at rfl) (fun K hK => ?_) AllReadyH.nil)
            go_simp
            obtain ⟨b0, b1, hb⟩ := hS
            refine (of_step_is okO.out HNX.out _).mono ?_
            rintro e w4 ⟨er, rfl, HE, hB⟩
            replace N0 := Lib.hid (N0.out.after hB)
            refine hK.out _ _ ⟨b0.after hB, b1.after hB, below_call hb hB⟩ (fun hS => ?_)
            clear hK K hB b0 b1 hb
            try simp only [Act.put, List.setIfInBounds_toArray, List.set_cons_zero, List.set_cons_succ]
            refine wpAnyH_take (i := 5) (v := ?_) (op_at rfl) (by kernel_rfl) (by kernel_rfl) (by kernel_rfl) (fun _ _ _ h => h) (Or.inl ⟨by rfl, ?_⟩) hS ?_; rotate_left; focus ((intro w' hSw; clear hSw; go_simp) <;> with_reducible rfl)
            try simp only [Act.put, List.setIfInBounds_toArray, List.set_cons_zero, List.set_cons_succ]
            refine wpAnyH_take (i := 6) (v := ?_) (op_at rfl) (by kernel_rfl) (by kernel_rfl) (by kernel_rfl) (fun _ _ _ h => h) (Or.inl ⟨by rfl, ?_⟩) hS ?_; rotate_left; focus ((intro w' hSw; clear hSw; go_simp) <;> with_reducible rfl)
            try simp only [Act.put, List.setIfInBounds_toArray, List.set_cons_zero, List.set_cons_succ]
            refine wpAnyH_take (i := 7) (v := ?_) (op_at rfl) (by kernel_rfl) (by kernel_rfl) (by kernel_rfl) (fun _ _ _ h => h) (Or.inl ⟨by rfl, ?_⟩) hS ?_; rotate_left; focus ((intro w' hSw; clear hSw; go_simp) <;> with_reducible rfl)
            try simp only [Act.put, List.setIfInBounds_toArray, List.set_cons_zero, List.set_cons_succ]
            refine wpAnyH_ready (rs := [9]) (by kernel_rfl) (by simp) ?_
            refine (AllReadyH.cons (op_at rfl) (fun K hK => ?_) AllReadyH.nil)
            have p_0 := N0.out.at_ (i := 0) (v := .int .i64 0) rfl
            have f_0 := N0.out.frozen 0
            have p_1 := N0.out.at_ (i := 1) (v := .int .u64 0) rfl
            have f_1 := N0.out.frozen 1
            have p_2 := N0.out.at_ (i := 2) (v := .int .i64 0) rfl
            have f_2 := N0.out.frozen 2
            go_simp
            clear p_0 f_0 p_1 f_1 p_2 f_2
            obtain ⟨b0, b1, hb⟩ := hS
            refine hK.out _ _ ⟨(Blk.far (Blk.far (Blk.far b0 d0_N0 _) d0_N0 _) d0_N0 _), (Blk.far (Blk.far (Blk.far b1 d1_N0 _) d1_N0 _) d1_N0 _), (below_set (below_set (below_set hb dd_N0 _) dd_N0 _) dd_N0 _)⟩ (fun hS => ?_)
            replace N0 := Lib.hid (Blk.set' (u := .int .i64 nx.ig) (i := 2) (cs' := #[.int .i64 nx.lv, .int .u64 (u nx.c), .int .i64 nx.ig]) (Blk.set' (u := .int .u64 (u nx.c)) (i := 1) (cs' := #[.int .i64 nx.lv, .int .u64 (u nx.c), .int .i64 0]) (Blk.set' (u := .int .i64 nx.lv) (i := 0) (cs' := #[.int .i64 nx.lv, .int .u64 0, .int .i64 0]) N0.out rfl) rfl) rfl)
            clear hK K b0 b1 hb
            try simp only [Act.put, List.setIfInBounds_toArray, List.set_cons_zero, List.set_cons_succ]
            refine wpAnyH_take (i := 10) (v := ?_) (op_at rfl) (by kernel_rfl) (by kernel_rfl) (by kernel_rfl) (fun _ _ _ h => h) (Or.inl ⟨by rfl, ?_⟩) hS ?_; rotate_left; focus ((intro w' hSw; clear hSw; go_simp) <;> with_reducible rfl)
            try simp only [Act.put, List.setIfInBounds_toArray, List.set_cons_zero, List.set_cons_succ]
            refine wpAnyH_done (by kernel_rfl) ?_ _
            obtain ⟨b0, b1, hb⟩ := hS
            gi_wp2_with fail
            gi_meet
            exact ⟨er, _, HE, rfl, rfl, N0.out, b0, b1, hb, d0_N0, d1_N0, dd_N0⟩
        ·
          go_simp
          obtain ⟨b0, b1, hb⟩ := hS
          have N0 : Hid (Blk (w1.alloc (.cells #[.int .i64 0, .int .u64 0, .int .i64 0] 24)) w1.heap.size 24 #[.int .i64 0, .int .u64 0, .int .i64 0]) := Lib.hid (Blk.new' rfl)
          have d0_N0 : ob ≠ w1.heap.size := Nat.ne_of_lt b0.lt
          have d1_N0 : w.heap.size ≠ w1.heap.size := Nat.ne_of_lt b1.lt
          have dd_N0 : w.heap.size ≤ w1.heap.size := hb.size
          refine hK.out _ _ ⟨b0.alloc _, b1.alloc _, below_alloc hb _⟩ (fun hS => ?_)
          clear hK K b0 b1 hb
          try simp only [Act.put, List.setIfInBounds_toArray, List.set_cons_zero, List.set_cons_succ]
          refine wpAnyH_ready (rs := [0]) (by kernel_rfl) (by simp) ?_
          refine (AllReadyH.cons (op_at rfl) (fun K hK => ?_) AllReadyH.nil)
          go_simp
          obtain ⟨b0, b1, hb⟩ := hS
          refine (joins_any _).mono ?_
          rintro e w5 ⟨rfl, hB⟩
          replace N0 := Lib.hid (N0.out.after hB)
          refine hK.out _ _ ⟨b0.after hB, b1.after hB, below_call hb hB⟩ (fun hS => ?_)
          clear hK K hB b0 b1 hb
          try simp only [Act.put, List.setIfInBounds_toArray, List.set_cons_zero, List.set_cons_succ]
          refine wpAnyH_ready (rs := [4]) (by kernel_rfl) (by simp) ?_
          refine (AllReadyH.cons (op_at rfl) (fun K hK => ?_) AllReadyH.nil)
          go_simp
          obtain ⟨b0, b1, hb⟩ := hS
          refine (of_step_is okO.out HNX.out _).mono ?_
          rintro e w6 ⟨er, rfl, HE, hB⟩
          replace N0 := Lib.hid (N0.out.after hB)
          refine hK.out _ _ ⟨b0.after hB, b1.after hB, below_call hb hB⟩ (fun hS => ?_)
          clear hK K hB b0 b1 hb
          try simp only [Act.put, List.setIfInBounds_toArray, List.set_cons_zero, List.set_cons_succ]
          refine wpAnyH_take (i := 5) (v := ?_) (op_at rfl) (by kernel_rfl) (by kernel_rfl) (by kernel_rfl) (fun _ _ _ h => h) (Or.inl ⟨by rfl, ?_⟩) hS ?_; rotate_left; focus ((intro w' hSw; clear hSw; go_simp) <;> with_reducible rfl)
          try simp only [Act.put, List.setIfInBounds_toArray, List.set_cons_zero, List.set_cons_succ]
          refine wpAnyH_take (i := 6) (v := ?_) (op_at rfl) (by kernel_rfl) (by kernel_rfl) (by kernel_rfl) (fun _ _ _ h => h) (Or.inl ⟨by rfl, ?_⟩) hS ?_; rotate_left; focus ((intro w' hSw; clear hSw; go_simp) <;> with_reducible rfl)
          try simp only [Act.put, List.setIfInBounds_toArray, List.set_cons_zero, List.set_cons_succ]
          refine wpAnyH_take (i := 7) (v := ?_) (op_at rfl) (by kernel_rfl) (by kernel_rfl) (by kernel_rfl) (fun _ _ _ h => h) (Or.inl ⟨by rfl, ?_⟩) hS ?_; rotate_left; focus ((intro w' hSw; clear hSw; go_simp) <;> with_reducible rfl)
          try simp only [Act.put, List.setIfInBounds_toArray, List.set_cons_zero, List.set_cons_succ]
          refine wpAnyH_ready (rs := [9]) (by kernel_rfl) (by simp) ?_
          refine (AllReadyH.cons (op_at rfl) (fun K hK => ?_) AllReadyH.nil)
          have p_0 := N0.out.at_ (i := 0) (v := .int .i64 0) rfl
          have f_0 := N0.out.frozen 0
          have p_1 := N0.out.at_ (i := 1) (v := .int .u64 0) rfl
          have f_1 := N0.out.frozen 1
          have p_2 := N0.out.at_ (i := 2) (v := .int .i64 0) rfl
          have f_2 := N0.out.frozen 2
          go_simp
          clear p_0 f_0 p_1 f_1 p_2 f_2
          obtain ⟨b0, b1, hb⟩ := hS
          refine hK.out _ _ ⟨(Blk.far (Blk.far (Blk.far b0 d0_N0 _) d0_N0 _) d0_N0 _), (Blk.far (Blk.far (Blk.far b1 d1_N0 _) d1_N0 _) d1_N0 _), (below_set (below_set (below_set hb dd_N0 _) dd_N0 _) dd_N0 _)⟩ (fun hS => ?_)
          replace N0 := Lib.hid (Blk.set' (u := .int .i64 nx.ig) (i := 2) (cs' := #[.int .i64 nx.lv, .int .u64 (u nx.c), .int .i64 nx.ig]) (Blk.set' (u := .int .u64 (u nx.c)) (i := 1) (cs' := #[.int .i64 nx.lv, .int .u64 (u nx.c), .int .i64 0]) (Blk.set' (u := .int .i64 nx.lv) (i := 0) (cs' := #[.int .i64 nx.lv, .int .u64 0, .int .i64 0]) N0.out rfl) rfl) rfl)
          clear hK K b0 b1 hb
          try simp only [Act.put, List.setIfInBounds_toArray, List.set_cons_zero, List.set_cons_succ]
          refine wpAnyH_take (i := 10) (v := ?_) (op_at rfl) (by kernel_rfl) (by kernel_rfl) (by kernel_rfl) (fun _ _ _ h => h) (Or.inl ⟨by rfl, ?_⟩) hS ?_; rotate_left; focus ((intro w' hSw; clear hSw; go_simp) <;> with_reducible rfl)
          try simp only [Act.put, List.setIfInBounds_toArray, List.set_cons_zero, List.set_cons_succ]
          refine wpAnyH_done (by kernel_rfl) ?_ _
          obtain ⟨b0, b1, hb⟩ := hS
          gi_wp2_with fail
          gi_meet
          exact ⟨er, _, HE, rfl, rfl, N0.out, b0, b1, hb, d0_N0, d1_N0, dd_N0⟩
      case rest =>
        obtain ⟨er, g6, HE, rfl, rfl, hn, h_0, h_1, hb, e0_g6, e1_g6, ee_g6⟩ := hcut
        replace B0 := Lib.hid h_0
        clear h_0
        replace B1 := Lib.hid h_1
        clear h_1
        have B2 := Lib.hid hn
        clear hn
        replace HB := Lib.hid hb
        clear hb
        have hJc := Lib.hid (HJ.out _ _ _ HJP.out (Turns.of_below HB.out))
        have hnext : NextJ ls pre (nx, u7) := ⟨x, HX.out, by rw [← HFO.out]; exact HNX.out.symm, HE⟩
        obtain ⟨fn, tmps, assign, body, hy, hR⟩ := HY.out pre (nx, u7) wc hJc.out hnext
        have HR := Lib.hid hR
        have HE2 := Lib.hid HE
        have HN2 := Lib.hid hnext
        clear hR HE hnext
        simp only [encJ] at hy
        have p_0 := B2.out.at_ (i := 0) (v := .int .i64 nx.lv) rfl
        have p_1 := B2.out.at_ (i := 1) (v := .int .u64 (u nx.c)) rfl
        have p_2 := B2.out.at_ (i := 2) (v := .int .i64 nx.ig) rfl
        gi_wp2_with fail
        refine HR.out.mono ?_
        rintro e W3 (⟨rfl, hJ3, hk3⟩ | ⟨rfl, hJx3, hk3⟩)
        · clear p_0 p_1 p_2
          have hg : W.heap.size ≤ g6 := by have := HTW.out; have := HB.out.size; omega
          have N2 : Blk W3 g6 24 #[.int .i64 nx.lv, .int .u64 (u nx.c), .int .i64 nx.ig] := hk3.block B2.out rfl (fun t => by have := (HU.out _ t).2; omega)
          have N0 : Blk W3 ob 24 #[.int .i64 o.lv, .int .u64 (u o.c), .int .i64 o.ig] := hk3.block B0.out rfl (fun t => by have := (HU.out _ t).2; omega)
          have p_0 := N2.at_ (i := 0) (v := .int .i64 nx.lv) rfl
          have p_1 := N2.at_ (i := 1) (v := .int .u64 (u nx.c)) rfl
          have p_2 := N2.at_ (i := 2) (v := .int .i64 nx.ig) rfl
          have q_0 := N0.at_ (i := 0) (v := .int .i64 o.lv) rfl
          have f_0 := N0.frozen 0
          have q_1 := N0.at_ (i := 1) (v := .int .u64 (u o.c)) rfl
          have f_1 := N0.frozen 1
          have q_2 := N0.at_ (i := 2) (v := .int .i64 o.ig) rfl
          have f_2 := N0.frozen 2
          have Q0 := Lib.hid (show Blk (((W3.setCell ⟨ob, 0, none⟩ (.int .i64 nx.lv)).setCell ⟨ob, 1, none⟩ (.int .u64 (u nx.c))).setCell ⟨ob, 2, none⟩ (.int .i64 nx.ig)) ob 24 #[.int .i64 nx.lv, .int .u64 (u nx.c), .int .i64 nx.ig] from (Blk.set' (u := .int .i64 nx.ig) (i := 2) (cs' := #[.int .i64 nx.lv, .int .u64 (u nx.c), .int .i64 nx.ig]) (Blk.set' (u := .int .u64 (u nx.c)) (i := 1) (cs' := #[.int .i64 nx.lv, .int .u64 (u nx.c), .int .i64 o.ig]) (Blk.set' (u := .int .i64 nx.lv) (i := 0) (cs' := #[.int .i64 nx.lv, .int .u64 (u o.c), .int .i64 o.ig]) N0 rfl) rfl) rfl))
          have QT := Lib.hid (show Turns (fun k => W.heap.size ≤ k) W3 (((W3.setCell ⟨ob, 0, none⟩ (.int .i64 nx.lv)).setCell ⟨ob, 1, none⟩ (.int .u64 (u nx.c))).setCell ⟨ob, 2, none⟩ (.int .i64 nx.ig)) from (((Turns.refl _ W3).setCell (p := ⟨ob, 0, none⟩) hob _).setCell (p := ⟨ob, 1, none⟩) hob _).setCell (p := ⟨ob, 2, none⟩) hob _)
          have HJ3 := Lib.hid hJ3
          have HK3 := Lib.hid hk3
          clear hJ3 hk3 N0 N2
          gi_wp2_with fail
          clear p_0 p_1 p_2 q_0 q_1 q_2 f_0 f_1 f_2
          go_roundw
          case rel => exact ⟨pre ++ [(nx, u7)], nx, by rw [List.length_append, List.length_singleton]; go_num, by rw [List.length_append, List.length_singleton]; omega, HN2.out.fold, HJ.out _ _ _ HJ3.out QT.out, Q0.out, Nat.le_trans (Nat.le_trans (Nat.le_trans HTW.out HB.out.size) HK3.out.size) QT.out.size, fun b' q x' hb hx => (QT.out.moves 0).cell (HK3.out.cell ((below_cell (HB.out)).1 b' q (by have := World.block_lt_of_cell? _ _ (HK.out b' q x' hb hx); exact this) |>.trans (HK.out b' q x' hb hx)) (fun t => by have := (HU.out b' t).1; omega)) (fun (t : W.heap.size ≤ b') => by omega)⟩
          case measure => simp [intOf]; omega
        · have HJX3 := Lib.hid hJx3
          clear hJx3 hk3 p_0 p_1 p_2
          gi_wp2_with fail
          rw [Exit.noGoto_normal]
          go_end0
          exact ⟨⟨_, rfl⟩, .inr ⟨_, trivial, HJX3.out⟩⟩
    · gi_wp2
      rw [Exit.noGoto_normal]
      go_end0
      exact ⟨⟨_, rfl⟩, .inl ⟨pre, by omega, HJP.out⟩⟩

theorem joined_any (A : Option Addr) (m c : Nat) (w : World) :
    Calls Tryd.prog 43 #[.slice A m c] w fun e w' => e = .returned (.func (.func 55) #[] #[.pointer (some ⟨w.heap.size, 0, none⟩)]) ∧ w.alloc (.cells #[.slice A m c] 35) = w' := by
  go_enter Tryd.func43, Tryd.ntmps43
  go_wp2
  go_ret
  exact ⟨rfl, rfl⟩
theorem callsIn_round {l n : Nat} {P : Program} {f : FuncId} {args : Array Value} {w : World} {R : Ending → World → Prop} (h : Calls P f args w R) : CallsIn (Fence.wide.inRound l) n P f args w R :=
  (show CallsIn Fence.wide n P f args w R from callsIn_wide.2 h)
def leastL (ls : List Lab) : Lab := if ls.all okL then foldsL ls else zeroL
def leastE (ls : List Lab) : Int := if ls.all okL then 0 else 20
/-- the loop of Least: between two rounds -/
structure LeastI (w : World) (b4 : Nat) (ls : List Lab) (n : Nat) (W : World) : Prop where
  le : n ≤ ls.length
  ok : ∀ x, x ∈ ls.take n → okL x = true
  o : Blk W b4 24 #[.int .i64 (foldsL (ls.take n)).lv, .int .u64 (u (foldsL (ls.take n)).c), .int .i64 (foldsL (ls.take n)).ig]
  r : Blk W w.heap.size 24 #[.int .i64 0, .int .u64 0, .int .i64 0]
  e : Blk W (w.heap.size + 1) 26 #[.int .i64 0]
  below : Below w.heap.size w W
theorem Blk.set3' {w : World} {g : Nat} {t : TypeId} {x0 x1 x2 : Value} (h : Blk w g t #[x0, x1, x2]) (a b c : Value) : Blk (((w.setCell ⟨g, 0, none⟩ a).setCell ⟨g, 1, none⟩ b).setCell ⟨g, 2, none⟩ c) g t #[a, b, c] :=
  Blk.set' (cs := #[a, b, x2]) (Blk.set' (cs := #[a, x1, x2]) (Blk.set' h rfl) rfl) rfl
theorem Blk.putObj {w : World} {g D : Nat} {t : TypeId} {cs : Array Value} (h : Blk w g t cs) (hne : g ≠ D) (o : Obj) : Blk (w.putObj D o) g t cs := (World.putObj_heap_other hne).trans h
theorem below_putD {w W : World} {D : Nat} {o o' : Obj} (h : Below w.heap.size w W) (_ : W.heap[D]? = some o) (hD : w.heap.size ≤ D) : Below w.heap.size w (W.putObj D o') :=
  h.grown (grownBy_putObj' W D o') h.size (fun k e => by cases e; exact hD)
/-- left -/
structure LeastX (w : World) (ls : List Lab) (W : World) : Prop where
  no : ∃ x, x ∈ ls ∧ okL x = false
  r : Blk W w.heap.size 24 #[.int .i64 0, .int .u64 0, .int .i64 0]
  e : Blk W (w.heap.size + 1) 26 #[.int .i64 20]
  below : Below w.heap.size w W
set_option maxRecDepth 100000 in
set_option maxHeartbeats 8000000 in
theorem Least_in (n : Nat) (hn : 3 ≤ n) (ls : List Lab) (v : Value) (w : World) (hl : LabsAt w.heap.size w v ls) (hh : Handle w) :
    CallsIn Fence.wide n Tryd.prog 27 #[v] w fun e w' => e = .returned (.tuple #[.agg #[.int .i64 (leastL ls).lv, .int .u64 (u (leastL ls).c), .int .i64 (leastL ls).ig], .int .i64 (leastE ls)]) ∧ Below w.heap.size w w' := by
  have h1 : 1 ≤ n := by omega
  obtain ⟨sA, sm, sc, rfl⟩ := hl.slice
  have HL := Lib.hid hl
  have HH := Lib.hid hh
  clear hl hh
  refine callsIn_of_wp_marks Tryd.func27 rfl trivial ?_ rfl
  simp only [Tryd.ntmps27, List.size_toArray, List.length_cons, List.length_nil, Nat.reduceAdd, Nat.reduceSub, Array.replicate_succ, Array.replicate_zero, List.push_toArray, List.append_toArray, List.nil_append, List.cons_append]
  gi_wp2_with (refine ⟨trivial, ?_⟩; gi_at_call 24; refine (callsIn_wide.2 (BottomL_any _)).mono ?_; rintro e w1 ⟨rfl, hB⟩)
  gi_wp2_with (refine ⟨trivial, ?_⟩; gi_at_call 43; refine (callsIn_wide.2 (joined_any _ _ _ _)).mono ?_; rintro e w2 ⟨rfl, rfl⟩)
  have hW0 : Below w.heap.size w w1 := below_call (below_alloc (below_alloc (Below.refl _ w) _) _) hB
  have r0 : Blk w1 w.heap.size 24 #[.int .i64 0, .int .u64 0, .int .i64 0] := ((Blk.new' rfl).alloc _).after hB
  have e0 : Blk w1 (w.heap.size + 1) 26 #[.int .i64 0] := (Blk.new' (by simp)).after hB
  obtain ⟨W0, hW⟩ : ∃ W0, (w1.alloc (.cells #[.int .i64 botL.lv, .int .u64 (u botL.c), .int .i64 botL.ig] 24)).alloc (.cells #[.slice sA sm sc] 35) = W0 := ⟨_, rfl⟩
  have hbox : W0.cell? ⟨w1.heap.size + 1, 0, none⟩ = some (.slice sA sm sc) := by
    rw [← hW]; exact (Blk.new' (t := 35) (cs := #[.slice sA sm sc]) (w := w1.alloc _) (by simp)).at_ rfl
  have hI0 : LeastI w w1.heap.size ls 0 W0 := by
    rw [← hW]
    exact ⟨Nat.zero_le _, fun x hx => by simp at hx, ((Blk.new' rfl).alloc _), (r0.alloc _).alloc _, (e0.alloc _).alloc _, below_alloc (below_alloc hW0 _) _⟩
  have hs0 : W0.heap.size = w1.heap.size + 2 := by rw [← hW]; simp
  have hs1 : w.heap.size + 2 ≤ w1.heap.size := by have := hB.size; simp at this; omega
  rw [hW]
  have HI0 := Lib.hid hI0
  have HBX := Lib.hid hbox
  clear hW hI0 hbox hB r0 e0 hW0
  generalize hb4 : w1.heap.size = b4 at *
  clear hb4
  have hT : ∀ {k : Nat}, W0.heap.size + 2 ≤ k → w.heap.size ≤ k := fun h => by omega
  refine wpIn_rangeFunc_M rfl h1 (gf := 55) (lb := #[.pointer (some ⟨b4 + 1, 0, none⟩)]) rfl trivial (enters_of Tryd.func55 (by kernel_rfl) rfl)
    (encs := encJ) (T := fun k => W0.heap.size + 2 ≤ k) (U := fun k => k = w.heap.size ∨ k = w.heap.size + 1 ∨ k = b4) (Y := fun pre it _ => NextJ ls pre it) (S := fun xs _ => xs.length = ls.length) (Sp := fun _ _ => True)
    (fun W1 hb hs => ?seq) (fun _ => rfl)
    (fun pre W => LeastI w b4 ls pre.length W) (fun c pre W => c = .ret ∧ LeastX w ls W) ?hI ?hIx (fun _ _ _ h _ => h) (fun _ _ _ h _ => h) HI0.out
    (fun pre it a' W => LeastI w b4 ls pre.length W ∧ NextJ ls pre it ∧ ∃ b5, b4 < b5 ∧ Blk W b5 24 #[.int .i64 it.1.lv, .int .u64 (u it.1.c), .int .i64 it.1.ig] ∧ a' = { tmps := #[.slice sA sm sc, undef, .pointer (some ⟨w.heap.size, 0, none⟩), .pointer (some ⟨w.heap.size + 1, 0, none⟩), .pointer (some ⟨b4, 0, none⟩), .pointer (some ⟨b5, 0, none⟩), it.2, .agg #[.int .i64 botL.lv, .int .u64 (u botL.c), .int .i64 botL.ig], .slice sA sm sc, .func (.func 55) #[] #[.pointer (some ⟨b4 + 1, 0, none⟩)], .agg #[.int .i64 it.1.lv, .int .u64 (u it.1.c), .int .i64 it.1.ig], it.2, undef, undef, undef, undef, undef, undef, undef], defers := [] }) ?hMid ?hassign ?hbody ?hdone ?hstop
  case seq =>
    have := joined_seq (n - 1) (by omega) ls (.slice sA sm sc) (b4 + 1) w.heap.size W0.heap.size W1 (fun k => k = w.heap.size ∨ k = w.heap.size + 1 ∨ k = b4) ((hb.cell (p := ⟨b4 + 1, 0, none⟩) (by show b4 + 1 < _; omega)).trans HBX.out) ((HL.out.below HI0.out.below).below (hb.mono (by omega))) (by omega) (fun k hk => by omega)
    rw [hs] at this
    exact this
  case hI => exact fun pre A B h hm => ⟨h.le, h.ok, hm.block h.o rfl (fun t => by omega), hm.block h.r rfl (fun t => by omega), hm.block h.e rfl (fun t => by omega), hm.below h.below (Nat.le_refl _) (by omega) (fun k t => hT t)⟩
  case hIx => exact fun c pre A B ⟨hc, h⟩ hm => ⟨hc, h.no, hm.block h.r rfl (fun t => by omega), hm.block h.e rfl (fun t => by omega), hm.below h.below (Nat.le_refl _) (by omega) (fun k t => hT t)⟩
  case hMid => exact fun pre it a' A B ⟨h, hn, b5, hb5, hB5, ha⟩ hm => ⟨⟨h.le, h.ok, hm.block h.o rfl id, hm.block h.r rfl id, hm.block h.e rfl id, hm.below h.below (Nat.le_refl _) (by omega) (fun k t => t.elim)⟩, hn, b5, hb5, hm.block hB5 rfl id, ha⟩
  case hassign =>
    intro l pre it W hi hnx
    have HI := Lib.hid hi
    have HN := Lib.hid hnx
    clear hi hnx
    obtain ⟨x, er⟩ := it
    simp only [encJ]
    gi_wp2
    have hlt := HI.out.o.lt
    exact ⟨(Turns.refl _ _).alloc _, ⟨HI.out.le, HI.out.ok, HI.out.o.alloc _, HI.out.r.alloc _, HI.out.e.alloc _, below_alloc HI.out.below _⟩, HN.out, _, hlt, Blk.new' rfl, rfl⟩
  case hbody =>
    rintro l pre ⟨nx, er⟩ a' W hsz ⟨hi, ⟨x, hx, hnx, hE⟩, b5, hb5, hB5, rfl⟩
    dsimp only at hx hnx hE hB5
    have hsnoc := take_snoc' hx
    have hxl : pre.length < ls.length := (List.getElem?_eq_some_iff.1 hx).1
    have HI := Lib.hid hi
    have HX := Lib.hid hx
    have HSN := Lib.hid hsnoc
    have HNX : Hid (foldsL (ls.take (pre.length + 1)) = nx) := by
      show _ = _
      rw [hsnoc, foldsL_snoc]; exact hnx.symm
    clear hi hx hnx hsnoc
    have p5_0 := hB5.at_ (i := 0) (v := .int .i64 nx.lv) rfl
    have p5_1 := hB5.at_ (i := 1) (v := .int .u64 (u nx.c)) rfl
    have p5_2 := hB5.at_ (i := 2) (v := .int .i64 nx.ig) rfl
    have B5 := Lib.hid hB5
    clear hB5
    rcases hE with ⟨ho, rfl⟩ | ⟨ho, y, rfl⟩
    · have HO := Lib.hid ho
      clear ho
      have p4_0 := HI.out.o.at_ (i := 0) rfl
      have p4_1 := HI.out.o.at_ (i := 1) rfl
      have p4_2 := HI.out.o.at_ (i := 2) rfl
      have f4_0 := HI.out.o.frozen 0
      have f4_1 := HI.out.o.frozen 1
      have f4_2 := HI.out.o.frozen 2
      gi_wp2_with fail
      have ln : (pre ++ [(nx, Value.nilIface)]).length = pre.length + 1 := by simp
      refine ⟨(((Turns.refl _ W).setCell (p := ⟨b4, 0, none⟩) (.inr (.inr rfl)) _).setCell (p := ⟨b4, 1, none⟩) (.inr (.inr rfl)) _).setCell (p := ⟨b4, 2, none⟩) (.inr (.inr rfl)) _, ?_⟩
      show LeastI w b4 ls (pre ++ [(nx, Value.nilIface)]).length _
      rw [ln]
      refine ⟨hxl, ?_, ?_, (Blk.far (Blk.far (Blk.far HI.out.r (by omega) _) (by omega) _) (by omega) _), (Blk.far (Blk.far (Blk.far HI.out.e (by omega) _) (by omega) _) (by omega) _), below_set (below_set (below_set HI.out.below (by omega) _) (by omega) _) (by omega) _⟩
      · intro z hz
        rw [HSN.out, List.mem_append] at hz
        rcases hz with hz | hz
        · exact HI.out.ok z hz
        · have hz' : z = x := by simpa using hz
          subst hz'; exact HO.out
      · rw [HNX.out]
        exact Blk.set3' HI.out.o _ _ _
    · have HO := Lib.hid ho
      clear ho
      have HW := Lib.hid (HH.out.up HI.out.below)
      gi_wp2_with fail
      refine ⟨trivial, (fun h => by cases h), ?_⟩
      refine (callsIn_round (told_wrong y _ HW.out)).mono ?_
      rintro e w5 ⟨rfl, hB⟩
      have R := HI.out.r.after hB
      have E := HI.out.e.after hB
      have HB := Lib.hid (below_call HI.out.below hB)
      have HT := Lib.hid (Turns.of_below (T := fun k => k = w.heap.size ∨ k = w.heap.size + 1 ∨ k = b4) hB)
      have r0 := R.at_ (i := 0) (v := .int .i64 0) rfl
      have r1 := R.at_ (i := 1) (v := .int .u64 0) rfl
      have r2 := R.at_ (i := 2) (v := .int .i64 0) rfl
      have e0 := E.at_ (i := 0) (v := .int .i64 0) rfl
      have q0 := R.frozen 0
      have q1 := R.frozen 1
      have q2 := R.frozen 2
      have q3 := E.frozen 0
      have HR := Lib.hid R
      have HEb := Lib.hid E
      clear R E hB p5_0 p5_1 p5_2
      gi_wp2_with fail
      refine ⟨(((HT.out.setCell (p := ⟨w.heap.size, 0, none⟩) (.inl rfl) _).setCell (p := ⟨w.heap.size, 1, none⟩) (.inl rfl) _).setCell (p := ⟨w.heap.size, 2, none⟩) (.inl rfl) _).setCell (p := ⟨w.heap.size + 1, 0, none⟩) (.inr (.inl rfl)) _, rfl, ⟨x, List.mem_of_getElem? HX.out, HO.out⟩, ?_, ?_, below_set (below_set (below_set (below_set HB.out (by omega) _) (by omega) _) (by omega) _) (by omega) _⟩
      · exact (Blk.set3' HR.out _ _ _).far (by omega) _
      · exact Blk.set' (Blk.far (Blk.far (Blk.far HEb.out (by omega) _) (by omega) _) (by omega) _) rfl
  case hdone =>
    intro D xs W hD hS hi hK
    have hall : ls.all okL = true := by
      rw [List.all_eq_true]
      intro z hz
      exact hi.ok z (by rw [hS, List.take_length]; exact hz)
    have eL : leastL ls = foldsL (ls.take xs.length) := by
      unfold leastL
      rw [if_pos hall, hS, List.take_length]
    have eE : leastE ls = 0 := by unfold leastE; rw [if_pos hall]
    have HI := Lib.hid hi
    have EL := Lib.hid eL
    have EE := Lib.hid eE
    clear hi eL eE hall
    obtain ⟨fo, hfo⟩ : ∃ fo, foldsL (ls.take xs.length) = fo := ⟨_, rfl⟩
    have BO := HI.out.o
    rw [hfo] at BO
    have HFO := Lib.hid hfo
    have HD : D ≠ w.heap.size ∧ D ≠ w.heap.size + 1 := ⟨by omega, by omega⟩
    have p4_0 := BO.at_ (i := 0) (v := .int .i64 fo.lv) rfl
    have p4_1 := BO.at_ (i := 1) (v := .int .u64 (u fo.c)) rfl
    have p4_2 := BO.at_ (i := 2) (v := .int .i64 fo.ig) rfl
    have r0 := HI.out.r.at_ (i := 0) (v := .int .i64 0) rfl
    have r1 := HI.out.r.at_ (i := 1) (v := .int .u64 0) rfl
    have r2 := HI.out.r.at_ (i := 2) (v := .int .i64 0) rfl
    have e0 := HI.out.e.at_ (i := 0) (v := .int .i64 0) rfl
    have q0 := HI.out.r.frozen 0
    have q1 := HI.out.r.frozen 1
    have q2 := HI.out.r.frozen 2
    have q3 := HI.out.e.frozen 0
    have HKK := Lib.hid hK
    have HDD := Lib.hid HD
    clear hfo BO hK HD
    gi_wp2_with fail
    have R : Blk ((((W.setCell ⟨w.heap.size, 0, none⟩ (.int .i64 fo.lv)).setCell ⟨w.heap.size, 1, none⟩ (.int .u64 (u fo.c))).setCell ⟨w.heap.size, 2, none⟩ (.int .i64 fo.ig)).setCell ⟨w.heap.size + 1, 0, none⟩ (.int .i64 0)) w.heap.size 24 #[.int .i64 fo.lv, .int .u64 (u fo.c), .int .i64 fo.ig] := (Blk.set3' HI.out.r _ _ _).far (by omega) _
    have E : Blk ((((W.setCell ⟨w.heap.size, 0, none⟩ (.int .i64 fo.lv)).setCell ⟨w.heap.size, 1, none⟩ (.int .u64 (u fo.c))).setCell ⟨w.heap.size, 2, none⟩ (.int .i64 fo.ig)).setCell ⟨w.heap.size + 1, 0, none⟩ (.int .i64 0)) (w.heap.size + 1) 26 #[.int .i64 0] := Blk.set' (Blk.far (Blk.far (Blk.far HI.out.e (by omega) _) (by omega) _) (by omega) _) rfl
    have hB : Below w.heap.size w ((((W.setCell ⟨w.heap.size, 0, none⟩ (.int .i64 fo.lv)).setCell ⟨w.heap.size, 1, none⟩ (.int .u64 (u fo.c))).setCell ⟨w.heap.size, 2, none⟩ (.int .i64 fo.ig)).setCell ⟨w.heap.size + 1, 0, none⟩ (.int .i64 0)) := below_set (below_set (below_set (below_set HI.out.below (by omega) _) (by omega) _) (by omega) _) (by omega) _
    have hK4 : (((((W.setCell ⟨w.heap.size, 0, none⟩ (.int .i64 fo.lv)).setCell ⟨w.heap.size, 1, none⟩ (.int .u64 (u fo.c))).setCell ⟨w.heap.size, 2, none⟩ (.int .i64 fo.ig)).setCell ⟨w.heap.size + 1, 0, none⟩ (.int .i64 0))).heap[D]? = some (.deferred (some [])) := (Below.heap_setCell _ _ _ D HDD.out.2).trans ((Below.heap_setCell _ _ _ D HDD.out.1).trans ((Below.heap_setCell _ _ _ D HDD.out.1).trans ((Below.heap_setCell _ _ _ D HDD.out.1).trans HKK.out)))
    refine ⟨by simp, .inl ⟨_, _, rfl, run_takeDeferred hK4, ?_⟩⟩
    have R' := R.putObj (D := D) (Ne.symm HDD.out.1) (.deferred none)
    have E' := E.putObj (D := D) (Ne.symm HDD.out.2) (.deferred none)
    have k0 := R'.at_ (i := 0) (v := .int .i64 fo.lv) rfl
    have k1 := R'.at_ (i := 1) (v := .int .u64 (u fo.c)) rfl
    have k2 := R'.at_ (i := 2) (v := .int .i64 fo.ig) rfl
    have k3 := E'.at_ (i := 0) (v := .int .i64 0) rfl
    refine ⟨_, ?_, rfl, below_putD hB hK4 (by omega)⟩
    rw [EL.out, EE.out, HFO.out]
    simp [results, Tryd.f27, go_sem, k0, k1, k2, k3]
  case hstop =>
    rintro D c pre W hD - ⟨rfl, hx⟩ hK
    obtain ⟨⟨x, hx, hno⟩, R, E, hB⟩ := hx
    have hall : ¬ ls.all okL = true := fun h => by rw [List.all_eq_true] at h; rw [h x hx] at hno; cases hno
    have eL : leastL ls = zeroL := if_neg hall
    have eE : leastE ls = 20 := if_neg hall
    have EL := Lib.hid eL
    have EE := Lib.hid eE
    have HKK := Lib.hid hK
    have HR := Lib.hid R
    have HE := Lib.hid E
    have HB := Lib.hid hB
    clear eL eE hall hx hno hK R E hB
    gi_wp2_with fail
    refine ⟨by simp, .inl ⟨_, _, rfl, run_takeDeferred HKK.out, ?_⟩⟩
    have R' := HR.out.putObj (D := D) (by omega) (.deferred none)
    have E' := HE.out.putObj (D := D) (by omega) (.deferred none)
    have k0 := R'.at_ (i := 0) (v := .int .i64 0) rfl
    have k1 := R'.at_ (i := 1) (v := .int .u64 0) rfl
    have k2 := R'.at_ (i := 2) (v := .int .i64 0) rfl
    have k3 := E'.at_ (i := 0) (v := .int .i64 20) rfl
    refine ⟨_, ?_, rfl, below_putD HB.out HKK.out (by omega)⟩
    rw [EL.out, EE.out, show zeroL.lv = 0 from rfl, show u zeroL.c = 0 from rfl, show zeroL.ig = 0 from rfl]
    simp [results, Tryd.f27, go_sem, k0, k1, k2, k3]
theorem Least_any (ls : List Lab) (v : Value) (w : World) (hl : LabsAt w.heap.size w v ls) (hh : Handle w) :
    Calls Tryd.prog 27 #[v] w fun e w' => e = .returned (.tuple #[.agg #[.int .i64 (leastL ls).lv, .int .u64 (u (leastL ls).c), .int .i64 (leastL ls).ig], .int .i64 (leastE ls)]) ∧ Below w.heap.size w w' :=
  callsIn_wide.1 (Least_in 3 (Nat.le_refl _) ls v w hl hh)
end Go.Proofs.YtmbafllkiofhnaaDoor
