/-
  PACKAGE ledger: Used, Seen, Total.
-/
import Derived.Test.YtbggaijjgnjknaaDoorLgC
namespace Go.Proofs.YtbggaijjgnjknaaDoor
open Go.RowKit Go.Shelf

attribute [local go_sem] Oper.semAt_some
attribute [local go_sem] u_and u_or u_andNot u_add u_sub u_bit u_eq_zero u_beq

theorem infoLn : (Tryd.prog.info? 42).map (fun i => (i.zero, i.size, i.bytes)) = some (some (.agg #[.int .i64 0, .int .u64 0, .int .i64 0, .int .i64 0]), 4, 32) := by kernel_rfl
def lcells (l : List Ln) : List Value := l.flatMap fun x => (encLn x).toList
theorem lcells_snoc (l : List Ln) (x : Ln) : lcells (l ++ [x]) = lcells l ++ [.int .i64 x.a.lv, .int .u64 (u x.a.c), .int .i64 x.a.ig, .int .i64 x.n] := by unfold lcells; rw [List.flatMap_append]; rfl
theorem cell_four_new (w : World) (a b c d : Value) (t : TypeId) : ∀ j u, [a, b, c, d][j]? = some u → (w.alloc (.cells #[a, b, c, d] t)).cell? ((⟨w.heap.size, 0, none⟩ : Addr).add j) = some u := by
  intro j u h
  have hb : Blk (w.alloc (.cells #[a, b, c, d] t)) w.heap.size t #[a, b, c, d] := Blk.new' rfl
  match j, h with
  | 0, h => exact hb.at_ (i := 0) h
  | 1, h => exact hb.at_ (i := 1) h
  | 2, h => exact hb.at_ (i := 2) h
  | 3, h => exact hb.at_ (i := 3) h
set_option maxRecDepth 100000 in
set_option maxHeartbeats 8000000 in
theorem LSeen_in (n : Nat) (hn : 3 ≤ n) (l : List Ln) (v : Value) (a : Lab) (w : World) (hl : LnsAt w v l) (hle : l.length ≤ 1000) :
    CallsIn Fence.wide n Tryd.prog 22 #[v, .agg #[.int .i64 a.lv, .int .u64 (u a.c), .int .i64 a.ig]] w fun e w' => ∃ v', e = .returned v' ∧ w'.ownsRow w.heap.size 42 4 v' (seenLn l a).length (lcells (seenLn l a)) ∧ Below w.heap.size w w' := by
  have h1 : 1 ≤ n := by omega
  obtain ⟨i0, hi, hz0, hz1, hz2⟩ := info_parts infoLn
  obtain ⟨sA, sc, rfl, _, _, _⟩ := hl.slice
  have HL := Lib.hid hl
  clear hl
  refine callsIn_of_wp_marks Tryd.func22 rfl trivial ?_ rfl
  simp only [Tryd.ntmps22, List.size_toArray, List.length_cons, List.length_nil, Nat.reduceAdd, Nat.reduceSub, Array.replicate_succ, Array.replicate_zero, List.push_toArray, List.append_toArray, List.nil_append, List.cons_append]
  gi_wp2_with fail
  refine ⟨trivial, ?_⟩
  refine (callsIn_wide.2 (underL_fn _ a _)).mono ?_
  rintro e w3 ⟨rfl, rfl⟩
  gi_wp2_with fail
  obtain ⟨W0, hW⟩ : ∃ W0, (((((w.alloc (.cells #[.int .i64 a.lv, .int .u64 (u a.c), .int .i64 a.ig] 25)).alloc (.cells #[.slice none 0 0] 22)).alloc (.cells #[.slice sA l.length sc] 49)).alloc (.cells #[.pointer (some ⟨w.heap.size + 1 + 1, 0, none⟩)] 64)).alloc (.cells #[.int .i64 a.lv, .int .u64 (u a.c), .int .i64 a.ig] 25)) = W0 := ⟨_, rfl⟩
  have hB0 : Below w.heap.size w W0 := by rw [← hW]; exact below_alloc (below_alloc (below_alloc (below_alloc (below_alloc (Below.refl _ _) _) _) _) _) _
  have hob : Boxed W0 (w.heap.size + 1) 22 (.slice none 0 0) := by
    rw [← hW]; exact (Blk.new' (t := 22) (cs := #[.slice none 0 0]) (w := w.alloc _) (by simp)).alloc _ |>.alloc _ |>.alloc _
  have htb : Blk W0 (w.heap.size + 1 + 1) 49 #[.slice sA l.length sc] := by
    rw [← hW]; exact (Blk.new' (w := (w.alloc _).alloc _) (by simp)).alloc _ |>.alloc _
  have hbt : Blk W0 (w.heap.size + 1 + 1 + 1) 64 #[.pointer (some ⟨w.heap.size + 1 + 1, 0, none⟩)] := by
    rw [← hW]; exact (Blk.new' (w := ((w.alloc _).alloc _).alloc _) (by simp)).alloc _
  have hba : Blk W0 (w.heap.size + 1 + 1 + 1 + 1) 25 #[.int .i64 a.lv, .int .u64 (u a.c), .int .i64 a.ig] := by
    rw [← hW]; exact (Blk.new' (w := (((w.alloc _).alloc _).alloc _).alloc _) (by simp))
  have hs0 : W0.heap.size = w.heap.size + 5 := by rw [← hW]; simp
  rw [hW]
  clear hW
  generalize e4 : w.heap.size + 1 + 1 + 1 + 1 = ba at *
  generalize e3 : w.heap.size + 1 + 1 + 1 = bt at *
  generalize e2 : w.heap.size + 1 + 1 = tb at *
  generalize e1 : w.heap.size + 1 = ob at *
  have HG : Gath w ob W0.heap.size 22 42 4 0 (lcells []) W0 := ⟨⟨_, hob, World.ownsRow_nil _ _ _ _⟩, hB0, Nat.le_refl _⟩
  have hwz : w.heap.size ≤ W0.heap.size := by omega
  refine wpIn_rangeFunc_M rfl h1 (gf := 55) (lb := #[.pointer (some ⟨bt, 0, none⟩), .pointer (some ⟨ba, 0, none⟩)]) rfl trivial (enters_of Tryd.func55 (by kernel_rfl) rfl)
    (encs := encL1) (T := fun _ => False) (U := fun k => k = ob ∨ W0.heap.size ≤ k) (Y := fun pre x _ => ∃ k, l[k]? = some x ∧ underL x.a a = true ∧ pre = fTo (fun x => underL x.a a) l k) (S := fun xs _ => xs = seenLn l a) (Sp := fun _ _ => True)
    (fun W1 hb hs => ?seq) (fun _ => rfl)
    (fun pre W => Gath w ob W0.heap.size 22 42 4 pre.length (lcells pre) W) (fun _ _ _ => False) (fun pre A B h m => h.moves m (fun _ t => t) hwz) (fun _ _ _ _ h _ => h) (fun _ _ _ h _ => h) (fun _ _ _ h _ => h) HG
    (fun pre x a' W => Gath w ob W0.heap.size 22 42 4 pre.length (lcells pre) W ∧ pre.length ≤ 1000 ∧ ∃ yb, Blk W yb 42 #[.int .i64 x.a.lv, .int .u64 (u x.a.c), .int .i64 x.a.ig, .int .i64 x.n] ∧ a' = { tmps := #[.slice sA l.length sc, .agg #[.int .i64 a.lv, .int .u64 (u a.c), .int .i64 a.ig], undef, .pointer (some ⟨w.heap.size, 0, none⟩), .slice none 0 0, .pointer (some ⟨ob, 0, none⟩), .pointer (some ⟨yb, 0, none⟩), .slice sA l.length sc, .agg #[.slice sA l.length sc], .pointer (some ⟨tb, 0, none⟩), .agg #[.int .i64 a.lv, .int .u64 (u a.c), .int .i64 a.ig], .func (.func 55) #[] #[.pointer (some ⟨bt, 0, none⟩), .pointer (some ⟨ba, 0, none⟩)], .agg #[.int .i64 x.a.lv, .int .u64 (u x.a.c), .int .i64 x.a.ig, .int .i64 x.n], undef, undef, undef, undef, undef], defers := [] })
    (fun pre k a' A B h m => ⟨h.1.moves m (fun _ t => t) hwz, h.2.1, h.2.2.elim fun yb hy => ⟨yb, m.block hy.1 rfl (fun t => t), hy.2⟩⟩) ?hassign ?hbody ?hdone ?hstop
  case seq =>
    have hw1 : Below w.heap.size w W1 := hB0.trans (hb.mono hwz)
    exact underL_seq (n - 1) (by omega) l _ a bt tb ba w.heap.size W0.heap.size W1 _ (hbt.after hb) ((htb.after hb).at_ rfl) (hba.after hb) (HL.out.below hw1) hw1.size (fun k hk => by omega)
  case hassign =>
    rintro lp pre x W hi ⟨k, hx, hp, hpre⟩
    have hlen : pre.length ≤ 1000 := by rw [hpre]; have := fTo_len (fun x => underL x.a a) l k; have := (List.getElem?_eq_some_iff.1 hx).1; omega
    simp only [encL1]
    gi_wp2
    exact ⟨(Turns.refl _ W).alloc _, hi.moves (((Turns.refl (fun _ => False) W).alloc _).moves W.heap.size) (fun _ t => t) hi.below.size, hlen, W.heap.size, Blk.new' rfl, rfl⟩
  case hbody =>
    rintro lp pre x a' W hlp ⟨⟨⟨v, hv, hrow⟩, hB, hsz⟩, hlen, yb, hy, rfl⟩
    have hc := hv.cell
    have q0 := hy.at_ (i := 0) (v := .int .i64 x.a.lv) rfl
    have q1 := hy.at_ (i := 1) (v := .int .u64 (u x.a.c)) rfl
    have q2 := hy.at_ (i := 2) (v := .int .i64 x.a.ig) rfl
    have q3 := hy.at_ (i := 3) (v := .int .i64 x.n) rfl
    gi_wp2_with (gi_at_builtin; refine wpListIn_append_own _ rfl _ _ 22 rfl W0.heap.size 42 i0 (.agg #[.int .i64 0, .int .u64 0, .int .i64 0, .int .i64 0]) 4 32 Tryd.underlying22 hi hz0 hz1 hz2 rfl (by decide) _ _ _ rfl (hrow.alloc _) ⟨W.heap.size, 0, none⟩ 1 1 [.int .i64 x.a.lv, .int .u64 (u x.a.c), .int .i64 x.a.ig, .int .i64 x.n] rfl rfl (cell_four_new _ _ _ _ _ _) (by simp [Value.oneCell']) (by unfold maxLen; omega) (by omega) (by simp; omega) ?_; intro v' w1 hown' hgrow _; obtain ⟨g', cap', rfl⟩ := ownsRow_succ hown'; obtain ⟨hG, hT, hc1, hf1⟩ := Gath.appended hB hsz hv (by decide) hrow hwz (by omega) hown' hgrow)
    exact ⟨hT, by show Gath w ob W0.heap.size 22 42 4 (pre ++ [x]).length (lcells (pre ++ [x])) _; rw [lcells_snoc]; simpa using hG⟩
  case hdone =>
    rintro D ys W hD rfl ⟨⟨v, hv, hrow⟩, hB, hsz⟩ hK
    have hc := hv.cell
    gi_wp2
    refine ⟨by simp, .inl ⟨_, _, rfl, run_takeDeferred hK, ?_⟩⟩
    exact ⟨_, results_tmp rfl _ _ _, v, rfl, ownsRow_base (ownsRow_putObj hrow _ hK rfl) hwz, hB.trans (belowK_b (w := w) (Nat.le_refl _) W D _ _ (by omega) hK rfl rfl)⟩
  case hstop =>
    rintro D c pre W _ _ h _
    exact h.elim
theorem LSeen_w (l : List Ln) (v : Value) (a : Lab) (w : World) (hl : LnsAt w v l) (hle : l.length ≤ 1000) :
    Calls Tryd.prog 22 #[v, .agg #[.int .i64 a.lv, .int .u64 (u a.c), .int .i64 a.ig]] w fun e w' => ∃ v', e = .returned v' ∧ w'.ownsRow w.heap.size 42 4 v' (seenLn l a).length (lcells (seenLn l a)) ∧ Below w.heap.size w w' :=
  callsIn_wide.1 (LSeen_in 3 (Nat.le_refl _) l v a w hl hle)
/-- what Used's loop leaves -/
structure UsedAt (w : World) (rb : Nat) (n : Int) (W : World) : Prop where
  below : Below w.heap.size w W
  r : Blk W rb 3 #[.int .i64 n]
theorem UsedAt.moves {n0 : Nat} {T : Nat → Prop} {w A B : World} {rb : Nat} {n : Int} (h : UsedAt w rb n A) (m : Moves n0 T A B) (hT : ∀ k, T k → False) (hn : w.heap.size ≤ n0) : UsedAt w rb n B :=
  ⟨m.below h.below (Nat.le_refl _) hn (fun k t => (hT k t).elim), m.block h.r rfl (fun t => hT _ t)⟩
set_option maxRecDepth 100000 in
set_option maxHeartbeats 8000000 in
theorem LUsed_in (n : Nat) (hn : 3 ≤ n) (l : List Ln) (v : Value) (a : Lab) (w : World) (hl : LnsAt w v l) :
    CallsIn Fence.wide n Tryd.prog 20 #[v, .agg #[.int .i64 a.lv, .int .u64 (u a.c), .int .i64 a.ig]] w fun e w' => e = .returned (.int .i64 (usedLn l a)) ∧ Below w.heap.size w w' := by
  have h1 : 1 ≤ n := by omega
  obtain ⟨sA, sc, rfl, _, _, _⟩ := hl.slice
  have HL := Lib.hid hl
  clear hl
  refine callsIn_of_wp_marks Tryd.func20 rfl trivial ?_ rfl
  simp only [Tryd.ntmps20, List.size_toArray, List.length_cons, List.length_nil, Nat.reduceAdd, Nat.reduceSub, Array.replicate_succ, Array.replicate_zero, List.push_toArray, List.append_toArray, List.nil_append, List.cons_append]
  gi_wp2_with fail
  refine ⟨trivial, ?_⟩
  refine (callsIn_wide.2 (of_fn _ a _)).mono ?_
  rintro e w3 ⟨rfl, rfl⟩
  gi_wp2_with fail
  obtain ⟨W0, hW⟩ : ∃ W0, (((((w.alloc (.cells #[.int .i64 a.lv, .int .u64 (u a.c), .int .i64 a.ig] 25)).alloc (.cells #[.int .i64 0] 3)).alloc (.cells #[.slice sA l.length sc] 49)).alloc (.cells #[.pointer (some ⟨w.heap.size + 1 + 1, 0, none⟩)] 64)).alloc (.cells #[.int .i64 a.lv, .int .u64 (u a.c), .int .i64 a.ig] 25)) = W0 := ⟨_, rfl⟩
  have hB0 : Below w.heap.size w W0 := by rw [← hW]; exact below_alloc (below_alloc (below_alloc (below_alloc (below_alloc (Below.refl _ _) _) _) _) _) _
  have hrb : Blk W0 (w.heap.size + 1) 3 #[.int .i64 0] := by
    rw [← hW]; exact (Blk.new' (t := 3) (cs := #[.int .i64 0]) (w := w.alloc _) (by simp)).alloc _ |>.alloc _ |>.alloc _
  have htb : Blk W0 (w.heap.size + 1 + 1) 49 #[.slice sA l.length sc] := by
    rw [← hW]; exact (Blk.new' (w := (w.alloc _).alloc _) (by simp)).alloc _ |>.alloc _
  have hbt : Blk W0 (w.heap.size + 1 + 1 + 1) 64 #[.pointer (some ⟨w.heap.size + 1 + 1, 0, none⟩)] := by
    rw [← hW]; exact (Blk.new' (w := ((w.alloc _).alloc _).alloc _) (by simp)).alloc _
  have hba : Blk W0 (w.heap.size + 1 + 1 + 1 + 1) 25 #[.int .i64 a.lv, .int .u64 (u a.c), .int .i64 a.ig] := by
    rw [← hW]; exact (Blk.new' (w := (((w.alloc _).alloc _).alloc _).alloc _) (by simp))
  have hs0 : W0.heap.size = w.heap.size + 5 := by rw [← hW]; simp
  rw [hW]
  clear hW
  generalize e4 : w.heap.size + 1 + 1 + 1 + 1 = ba at *
  generalize e3 : w.heap.size + 1 + 1 + 1 = bt at *
  generalize e2 : w.heap.size + 1 + 1 = tb at *
  generalize e1 : w.heap.size + 1 = rb at *
  have HG : UsedAt w rb 0 W0 := ⟨hB0, hrb⟩
  have hwz : w.heap.size ≤ W0.heap.size := by omega
  refine wpIn_rangeFunc_M rfl h1 (gf := 54) (lb := #[.pointer (some ⟨bt, 0, none⟩), .pointer (some ⟨ba, 0, none⟩)]) rfl trivial (enters_of Tryd.func54 (by kernel_rfl) rfl)
    (encs := encL1) (T := fun _ => False) (U := fun k => k = rb) (Y := fun pre x _ => ∃ k, l[k]? = some x ∧ eqL x.a a = true ∧ pre = fTo (fun x => eqL x.a a) l k) (S := fun xs _ => xs = l.filter (fun x => eqL x.a a)) (Sp := fun _ _ => True)
    (fun W1 hb hs => ?seq) (fun _ => rfl)
    (fun pre W => pre = [] ∧ UsedAt w rb 0 W) (fun c _ W => c = .ret ∧ ∃ x, l.find? (fun x => eqL x.a a) = some x ∧ UsedAt w rb x.n W) (fun pre A B h m => ⟨h.1, h.2.moves m (fun _ t => t) hwz⟩) (fun c _ A B h m => ⟨h.1, h.2.elim fun x hx => ⟨x, hx.1, hx.2.moves m (fun _ t => t) hwz⟩⟩) (fun _ _ _ h _ => h) (fun _ _ _ h _ => h) ⟨rfl, HG⟩
    (fun pre x a' W => l.find? (fun x => eqL x.a a) = some x ∧ UsedAt w rb 0 W ∧ ∃ yb, Blk W yb 42 #[.int .i64 x.a.lv, .int .u64 (u x.a.c), .int .i64 x.a.ig, .int .i64 x.n] ∧ a' = { tmps := #[.slice sA l.length sc, .agg #[.int .i64 a.lv, .int .u64 (u a.c), .int .i64 a.ig], undef, .pointer (some ⟨w.heap.size, 0, none⟩), .pointer (some ⟨rb, 0, none⟩), .pointer (some ⟨yb, 0, none⟩), .slice sA l.length sc, .agg #[.slice sA l.length sc], .pointer (some ⟨tb, 0, none⟩), .agg #[.int .i64 a.lv, .int .u64 (u a.c), .int .i64 a.ig], .func (.func 54) #[] #[.pointer (some ⟨bt, 0, none⟩), .pointer (some ⟨ba, 0, none⟩)], .agg #[.int .i64 x.a.lv, .int .u64 (u x.a.c), .int .i64 x.a.ig, .int .i64 x.n], undef, undef], defers := [] })
    (fun pre k a' A B h m => ⟨h.1, h.2.1.moves m (fun _ t => t) hwz, h.2.2.elim fun yb hy => ⟨yb, m.block hy.1 rfl (fun t => t), hy.2⟩⟩) ?hassign ?hbody ?hdone ?hstop
  case seq =>
    have hw1 : Below w.heap.size w W1 := hB0.trans (hb.mono hwz)
    exact of_seq (n - 1) (by omega) l _ a bt tb ba w.heap.size W0.heap.size W1 _ (hbt.after hb) ((htb.after hb).at_ rfl) (hba.after hb) (HL.out.below hw1) hw1.size (fun k hk => by omega)
  case hassign =>
    rintro lp pre x W ⟨hp0, hi⟩ ⟨k, hx, hp, hpre⟩
    simp only [encL1]
    gi_wp2
    exact ⟨(Turns.refl _ W).alloc _, fTo_first hx hp (hpre ▸ hp0), hi.moves (((Turns.refl (fun _ => False) W).alloc _).moves W.heap.size) (fun _ t => t) hi.below.size, W.heap.size, Blk.new' rfl, rfl⟩
  case hbody =>
    rintro lp pre x a' W hlp ⟨hf, hU, yb, hy, rfl⟩
    have q3 := hy.at_ (i := 3) (v := .int .i64 x.n) rfl
    have r0 := hU.r.at_ (i := 0) (v := .int .i64 0) rfl
    have r1 := hU.r.frozen 0
    have HF := Lib.hid hf
    have HU := Lib.hid hU
    clear hf hU hy
    gi_wp2
    exact ⟨(Turns.refl (fun k => k = rb) W).setCell (p := ⟨rb, 0, none⟩) rfl _, rfl, x, HF.out, below_set HU.out.below (by omega) _, HU.out.r.set' rfl⟩
  case hdone =>
    rintro D ys W hD rfl ⟨hn0, hU⟩ hK
    have r0 := hU.r.at_ (i := 0) (v := .int .i64 0) rfl
    have r1 := hU.r.frozen 0
    have hu := Lib.hid (show usedLn l a = 0 by unfold usedLn; rw [fTo_none hn0])
    gi_wp2
    have hne : D ≠ rb := fun e => by
      have h1 := hU.r
      unfold Blk at h1
      rw [← e, hK] at h1; cases h1
    have hK2 : (W.setCell ⟨rb, 0, none⟩ (.int .i64 0)).heap[D]? = some (.deferred (some [])) := (Below.heap_setCell W ⟨rb, 0, none⟩ _ D hne).trans hK
    have hU2 : UsedAt w rb 0 (W.setCell ⟨rb, 0, none⟩ (.int .i64 0)) := ⟨below_set hU.below (by omega) _, hU.r.set' rfl⟩
    have hU3 := hU2.moves (Moves.putObj (fun _ => False) (.deferred none) hK2 rfl (Nat.le_refl D)) (fun _ t => t) (by omega)
    have c0 := hU3.r.at_ (i := 0) (v := .int .i64 0) rfl
    refine ⟨by simp, .inl ⟨_, _, rfl, run_takeDeferred hK2, ?_⟩⟩
    exact ⟨.int .i64 0, by simp [results, Tryd.results20, go_sem, c0], by rw [hu.out], hU3.below⟩
  case hstop =>
    rintro D c pre W hD _ ⟨rfl, x, hf, hU⟩ hK
    have hu := Lib.hid (show usedLn l a = x.n by unfold usedLn; rw [hf])
    gi_wp2
    have hU3 := hU.moves (Moves.putObj (fun _ => False) (.deferred none) hK rfl (Nat.le_refl D)) (fun _ t => t) (by omega)
    have c0 := hU3.r.at_ (i := 0) (v := .int .i64 x.n) rfl
    refine ⟨by simp, .inl ⟨_, _, rfl, run_takeDeferred hK, ?_⟩⟩
    exact ⟨.int .i64 x.n, by simp [results, Tryd.results20, go_sem, c0], by rw [hu.out], hU3.below⟩
theorem LUsed_w (l : List Ln) (v : Value) (a : Lab) (w : World) (hl : LnsAt w v l) :
    Calls Tryd.prog 20 #[v, .agg #[.int .i64 a.lv, .int .u64 (u a.c), .int .i64 a.ig]] w fun e w' => e = .returned (.int .i64 (usedLn l a)) ∧ Below w.heap.size w w' :=
  callsIn_wide.1 (LUsed_in 3 (Nat.le_refl _) l v a w hl)
theorem sum_next {l : List Ln} {k : Nat} {x : Ln} (hx : l[k]? = some x) : sumLn (l.take (k + 1)) = sumLn (l.take k) + x.n := by
  unfold sumLn
  rw [List.take_add_one, hx]
  simp
theorem sum_le {l : List Ln} (h : ∀ x, x ∈ l → okLn x = true) : 0 ≤ sumLn l ∧ sumLn l ≤ 100000 * l.length := by
  induction l with
  | nil => exact ⟨by decide, by decide⟩
  | cons x r ih =>
    obtain ⟨h1, h2⟩ := ih (fun y hy => h y (List.mem_cons_of_mem _ hy))
    have h3 := h x List.mem_cons_self
    unfold okLn at h3
    simp only [Bool.and_eq_true, decide_eq_true_eq] at h3
    have e : sumLn (x :: r) = x.n + sumLn r := by unfold sumLn; simp
    rw [e, List.length_cons]
    omega
set_option maxRecDepth 100000 in
set_option maxHeartbeats 8000000 in
theorem LTotal_w (v : Value) (l : List Ln) (w : World) (hl : LnsAt w v l) :
    Calls Tryd.prog 21 #[v] w fun e w' => e = .returned (.int .i64 (totalLn l)) ∧ Below w.heap.size w w' := by
  have HL0 := Lib.hid hl
  obtain ⟨A, cA, rfl, _, hsc, _⟩ := hl.slice
  have HL := Lib.hid hl
  clear hl
  cases hr : rightLn l
  · have HR := Lib.hid hr
    have HT : Hid (totalLn l = 0) := Lib.hid (by unfold totalLn; rw [hr]; rfl)
    clear hr
    go_enter Tryd.func21, Tryd.ntmps21
    go_wp2_with fail
    refine (LRight_w _ l _ HL.out).mono ?_
    rintro e w1 ⟨rfl, hB⟩
    rw [HR.out]
    have B := Lib.hid hB
    clear hB
    go_wp2_with fail
    go_ret
    exact ⟨by rw [HT.out]; rfl, B.out⟩
  · have HR := Lib.hid hr
    have HT : Hid (totalLn l = sumLn l) := Lib.hid (by unfold totalLn; rw [hr]; rfl)
    have HO := Lib.hid (right_iff.1 hr).2
    clear hr
    go_enter Tryd.func21, Tryd.ntmps21
    go_wp2_with fail
    refine (LRight_w _ l _ HL.out).mono ?_
    rintro e w1 ⟨rfl, hB⟩
    rw [HR.out]
    have B := Lib.hid hB
    clear hB
    go_wp2_with fail
    go_loopw [3, 11] (fun nv s wr => ∃ k : Nat, nv = .int .i64 (sumLn (l.take k)) ∧ s = .int .i64 k ∧ k ≤ l.length ∧ Below w.heap.size w wr) (fun _ s _ => l.length - (intOf s).toNat)
    case atStart => exact ⟨0, rfl, rfl, Nat.zero_le _, B.out⟩
    case round =>
      obtain ⟨k, rfl, rfl, hk, hB⟩ := hrel
      have BR := Lib.hid hB
      clear hB
      by_cases hkl : k < l.length
      · obtain ⟨x, hx⟩ : ∃ x, l[k]? = some x := ⟨_, List.getElem?_eq_getElem hkl⟩
        obtain ⟨b, off, rfl, _, he⟩ := (HL.out.later BR.out BR.out.size).el hx (Nat.le_refl _)
        have hs := sum_le (l := l.take (k + 1)) (fun y hy => HO.out.1 y (List.mem_of_mem_take hy))
        have hlen := HO.out.2
        rw [List.length_take, sum_next hx] at hs
        have HX := Lib.hid hx
        have HLT := Lib.hid hkl
        have k0 : (0 : Int) ≤ (k : Int) := by omega
        have k1 : (k : Int) < (l.length : Int) := by omega
        have e10 : IntKind.i64.wrap ((k : Int) + 1) = ((k + 1 : Nat) : Int) := wrapI _ (by omega)
        have e11 : IntKind.i64.wrap (sumLn (l.take k) + x.n) = sumLn (l.take (k + 1)) := by rw [sum_next hx]; exact wrapI _ (by omega)
        have c0 : wr.cell? ⟨b, off + k * 4, none⟩ = some (.int .i64 x.a.lv) := he.at_ (i := 0) rfl
        have c1 : wr.cell? ⟨b, off + k * 4 + 1, none⟩ = some (.int .u64 (u x.a.c)) := he.at_ (i := 1) rfl
        have c2 : wr.cell? ⟨b, off + k * 4 + 2, none⟩ = some (.int .i64 x.a.ig) := he.at_ (i := 2) rfl
        have c3 : wr.cell? ⟨b, off + k * 4 + 3, none⟩ = some (.int .i64 x.n) := he.at_ (i := 3) rfl
        have d3 := (Blk.new' (w := wr) (t := 42) (cs := #[.int .i64 x.a.lv, .int .u64 (u x.a.c), .int .i64 x.a.ig, .int .i64 x.n]) rfl).at_ (i := 3) (v := .int .i64 x.n) rfl
        clear he hx hkl hk hs hlen
        go_wp2_with fail
        go_roundw
        case rel => exact ⟨k + 1, by first | rfl | go_num, by first | rfl | go_num, HLT.out, below_alloc BR.out _⟩
        case measure => have := HLT.out; simp [intOf]; omega
      · obtain rfl : k = l.length := by omega
        have HS : Hid (sumLn (l.take l.length) = sumLn l) := Lib.hid (by rw [List.take_length])
        clear hk hkl
        go_wp2_with fail
        go_ret
        exact ⟨by rw [HT.out, ← HS.out]; rfl, BR.out⟩
end Go.Proofs.YtbggaijjgnjknaaDoor
