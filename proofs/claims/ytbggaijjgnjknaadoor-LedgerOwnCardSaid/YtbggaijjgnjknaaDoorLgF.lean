/-
  PACKAGE slices at lines: Clone, Delete.
-/
import Derived.Test.YtbggaijjgnjknaaDoorLgE
import Derived.Laws.OwnMore
import Derived.Laws.CopyRow
import Derived.Lib.SliceRun
import Derived.Lib.AppendZerosOnto
namespace Go.Proofs.YtbggaijjgnjknaaDoor
open Go.RowKit

theorem lcells_len (l : List Ln) : (lcells l).length = l.length * 4 := flat_len (enc := encLn) (s := 4) (fun _ => rfl) l
theorem lcells_app (l m : List Ln) : lcells (l ++ m) = lcells l ++ lcells m := by unfold lcells; rw [List.flatMap_append]
theorem lcells_one (l : List Ln) : ∀ u, u ∈ lcells l → u.oneCell' = true := by
  intro u hu
  unfold lcells at hu
  obtain ⟨x, _, hx⟩ := List.mem_flatMap.1 hu
  simp only [encLn, List.mem_cons, List.not_mem_nil, or_false] at hx
  rcases hx with rfl | rfl | rfl | rfl <;> rfl
theorem lcells_take (l : List Ln) (k : Nat) : (lcells l).take (k * 4) = lcells (l.take k) := by
  induction l generalizing k with
  | nil => simp [lcells]
  | cons x r ih =>
    match k with
    | 0 => simp [lcells]
    | k + 1 =>
      have e : lcells (x :: r) = [.int .i64 x.a.lv, .int .u64 (u x.a.c), .int .i64 x.a.ig, .int .i64 x.n] ++ lcells r := rfl
      rw [e, List.take_append, List.take_of_length_le (by simp; omega), show (k + 1) * 4 - [Value.int .i64 x.a.lv, .int .u64 (u x.a.c), .int .i64 x.a.ig, .int .i64 x.n].length = k * 4 by simp; omega, ih]
      rfl
theorem lcells_drop (l : List Ln) (k : Nat) : (lcells l).drop (k * 4) = lcells (l.drop k) := by
  have h1 := List.take_append_drop (k * 4) (lcells l)
  have h2 : lcells (l.take k) ++ lcells (l.drop k) = lcells l := by rw [← lcells_app, List.take_append_drop]
  rw [lcells_take] at h1
  exact List.append_cancel_left (h1.trans h2.symm)
/-- a row of lines of the call's own -/
abbrev OwnL (b : Nat) (W : World) (v : Value) (l : List Ln) : Prop := W.ownsRow b 42 4 v l.length (lcells l)
/-- .. laid open -/
structure RowL (W : World) (g cap : Nat) (cur : Array Value) (l : List Ln) : Prop where
  hp : W.heap[g]? = some (.cells cur 42 (0, 0))
  le : l.length ≤ cap
  mx : cap ≤ maxLen
  sz : cur.size = cap * 4
  tk : cur.toList.take (l.length * 4) = lcells l
theorem OwnL.open {b : Nat} {W : World} {v : Value} {l : List Ln} (h : OwnL b W v l) (hn : l ≠ []) : ∃ g cap cur, v = .slice (some ⟨g, 0, none⟩) l.length cap ∧ b ≤ g ∧ RowL W g cap cur l := by
  rcases h.2 with ⟨_, h0⟩ | ⟨g, cap, cur, hv, hb, hh, hc, hm, hs, ht⟩
  · exact absurd (List.length_eq_zero_iff.1 h0) hn
  · exact ⟨g, cap, cur, hv, hb, ⟨hh, hc, hm, hs, ht⟩⟩
theorem RowL.own {b : Nat} {W : World} {g cap : Nat} {cur : Array Value} {l : List Ln} (h : RowL W g cap cur l) (hb : b ≤ g) {n : Nat} (hn : l.length = n) : OwnL b W (.slice (some ⟨g, 0, none⟩) n cap) l := by
  subst hn
  exact ⟨lcells_len l, .inr ⟨g, cap, cur, rfl, hb, h.hp, h.le, h.mx, h.sz, h.tk⟩⟩
theorem RowL.pre {W : World} {g cap : Nat} {cur : Array Value} {l : List Ln} (h : RowL W g cap cur l) (k : Nat) (hk : k ≤ l.length) : RowL W g cap cur (l.take k) := by
  refine ⟨h.hp, ?_, h.mx, h.sz, ?_⟩
  · have := h.le; rw [List.length_take]; omega
  · rw [List.length_take, Nat.min_eq_left hk, ← lcells_take, ← h.tk, List.take_take, Nat.min_eq_left (by omega)]
theorem RowL.cell {W : World} {g cap : Nat} {cur : Array Value} {l : List Ln} (h : RowL W g cap cur l) {k : Nat} {x : Ln} (hx : l[k]? = some x) : Els W g (k * 4) #[.int .i64 x.a.lv, .int .u64 (u x.a.c), .int .i64 x.a.ig, .int .i64 x.n] := by
  have hb : Blk W g 42 cur := h.hp
  refine ⟨hb.lt, fun j u hu => ?_⟩
  have hj : j < 4 := (Array.getElem?_eq_some_iff.1 hu).1
  have hk : k < l.length := (List.getElem?_eq_some_iff.1 hx).1
  refine hb.at_ ?_
  rw [← Array.getElem?_toList]
  have e : (lcells l)[k * 4 + j]? = some u := by
    have := lcells_drop l k
    have hd : l.drop k = x :: l.drop (k + 1) := by
      obtain ⟨h1, e⟩ := List.getElem?_eq_some_iff.1 hx
      rw [List.drop_eq_getElem_cons h1, e]
    rw [hd] at this
    rw [← List.getElem?_drop, this]
    have e2 : lcells (x :: l.drop (k + 1)) = (encLn x).toList ++ lcells (l.drop (k + 1)) := rfl
    rw [e2, List.getElem?_append_left (by simp [encLn]; omega), Array.getElem?_toList]
    exact hu
  rw [← h.tk, List.getElem?_take] at e
  split at e
  · exact e
  · cases e
theorem OwnL.lns {b : Nat} {W : World} {v : Value} {l : List Ln} (h : OwnL b W v l) : LnsAt W v l := RowsAt.of_own (enc := encLn) (s := 4) (fun _ => rfl) h rfl
theorem OwnL.val {b : Nat} {W : World} {v : Value} {l : List Ln} (h : OwnL b W v l) : ∃ p cap, v = .slice p l.length cap := by
  rcases h.2 with ⟨h1, h2⟩ | ⟨g, cap, cur, h1, _⟩
  · exact ⟨none, 0, by rw [h1, h2]⟩
  · exact ⟨_, cap, h1⟩
theorem OwnL.keepT {b : Nat} {W W' : World} {v : Value} {l : List Ln} {T : Nat → Prop} (h : OwnL b W v l) (k : Turns T W W') (hT : ∀ g, v.ownBlock = some g → ¬ T g) : OwnL b W' v l := by
  obtain ⟨h1, h2⟩ := h
  refine ⟨h1, ?_⟩
  rcases h2 with h2 | ⟨g, cap, cur, rfl, hg, hh, r⟩
  · exact .inl h2
  · exact .inr ⟨g, cap, cur, rfl, hg, k.same _ _ hh (.inl (hT g rfl)), r⟩
theorem OwnL.after {b : Nat} {W W' : World} {v : Value} {l : List Ln} (h : OwnL b W v l) (hb : Below W.heap.size W W') : OwnL b W' v l := h.keepT (T := fun _ => False) (Turns.of_below hb) (fun _ _ => id)
theorem OwnL.blk {b : Nat} {W : World} {v : Value} {l : List Ln} (h : OwnL b W v l) {g : Nat} (hg : v.ownBlock = some g) : b ≤ g ∧ ∃ cs, Blk W g 42 cs := by
  obtain ⟨h1, h2⟩ := h
  rcases h2 with ⟨rfl, _⟩ | ⟨g', cap, cur, rfl, hb, hh, r⟩
  · simp [Value.ownBlock] at hg
  · obtain rfl : g' = g := by simpa [Value.ownBlock] using hg
    exact ⟨hb, cur, hh⟩
theorem OwnL.base {b b' : Nat} {W : World} {v : Value} {l : List Ln} (h : OwnL b W v l) (hb : b' ≤ b) : OwnL b' W v l := by
  obtain ⟨h1, h2⟩ := h
  refine ⟨h1, ?_⟩
  rcases h2 with h2 | ⟨g, cap, cur, hv, hg, r⟩
  · exact .inl h2
  · exact .inr ⟨g, cap, cur, hv, Nat.le_trans hb hg, r⟩
theorem nilSl (a : Option Addr) (n c : Nat) (w : World) : (binOp .eql 22 (.slice a n c) (.slice none 0 0)).run Tryd.prog w = .ok (.bool a.isNone) w := Lib.run_eql_slice_nil w _ _ a n c 0 0 Tryd.underlying22
set_option maxRecDepth 100000 in
set_option maxHeartbeats 8000000 in
theorem Clone_w (v : Value) (l : List Ln) (w : World) (hl : LnsAt w v l) (hle : l.length ≤ 2000) :
    Calls Tryd.prog 47 #[v] w fun e w' => ∃ v', e = .returned v' ∧ OwnL w.heap.size w' v' l ∧ Below w.heap.size w w' := by
  obtain ⟨i0, hi, hz0, hz1, hz2⟩ := info_parts infoLn
  obtain ⟨A, cA, rfl, hcA, hsc, hA0⟩ := hl.slice
  have HL := Lib.hid hl
  clear hl
  have hq := nilSl A l.length cA
  cases A with
  | none =>
    obtain rfl : cA = 0 := hA0 rfl
    obtain rfl : l = [] := List.length_eq_zero_iff.1 (by omega)
    clear hA0
    simp only [List.length_nil] at hq ⊢
    go_enter Tryd.func47, Tryd.ntmps47
    go_wp2_with fail
    go_ret
    exact ⟨_, rfl, World.ownsRow_nil _ _ _ _, Below.refl _ _⟩
  | some ad =>
    clear hA0
    have hsrc : Src (w.alloc (.cells #[] 42)) 4 (some ad) l.length (lcells l) := (RowsAt.src (enc := encLn) (s := 4) (fun _ => rfl) (by decide) (HL.out.later (below_alloc (Below.refl _ _) (.cells #[] 42)) (by simp))).1
    have hown : (w.alloc (.cells #[] 42)).ownsRow w.heap.size 42 4 (.slice (some ⟨w.heap.size, 0, none⟩) 0 0) 0 [] := World.ownsRow_made w #[] 0 (Nat.le_refl _) (Nat.zero_le _) rfl
    go_enter Tryd.func47, Tryd.ntmps47
    go_wp2_with (at_builtin; refine wpList_append_src _ rfl _ _ 22 rfl w.heap.size 42 i0 (.agg #[.int .i64 0, .int .u64 0, .int .i64 0, .int .i64 0]) 4 32 Tryd.underlying22 hi hz0 hz1 hz2 rfl (by decide) _ _ _ rfl hown _ l.length cA (lcells l) rfl hsrc (lcells_one l) (by unfold maxLen; omega) (by omega) (by simp) ?_; intro v' w1 hown' hgrow ho)
    have hg2 : (w.alloc (.cells #[] 42)).grownBy w1 (some w.heap.size) := hgrow
    have hB : Below w.heap.size w w1 := (((Turns.refl (fun k => w.heap.size ≤ k) w).alloc (.cells #[] 42)).grown hg2 (fun k hk => by
      cases hk
      exact ⟨Nat.le_refl _, fun o ho => by rw [World.alloc_heap_new] at ho; cases ho; rfl⟩)).down (Nat.le_refl _) (fun _ hk => hk)
    have HB := Lib.hid hB
    have HO : Hid (OwnL w.heap.size w1 v' l) := Lib.hid (by have h := hown'; rw [Nat.zero_add, List.nil_append] at h; exact h)
    clear hB hown' hgrow hg2 ho hown hsrc
    go_wp2_with fail
    go_ret
    exact ⟨v', rfl, HO.out, HB.out⟩
/-- copy into a row that is known whole, four cells an element -/
theorem run_copy4 (w : World) (ty : TypeId) (g o dLen dCap : Nat) (a : Addr) (sLen sCap m : Nat) (cur : Array Value) (t : TypeId) (cs : List Value) (hg : w.heap[g]? = some (.cells cur t (0, 0))) (hm : m = Nat.min sLen dLen) (hn : cs.length = m * 4)
    (hsrc : ∀ j v, cs[j]? = some v → w.cell? (a.add j) = some v) (hfit : o + cs.length ≤ cur.size) (h1 : ∀ v ∈ cs, v.oneCell' = true) :
    (Builtin.copy_ #[22, 22] ty #[.slice (some ⟨g, o, none⟩) dLen dCap, .slice (some a) sLen sCap]).run Tryd.prog w = .ok (goInt m) (w.setRow g (cur.toList.take o ++ cs ++ cur.toList.drop (o + cs.length)).toArray) := by
  obtain ⟨i0, hi, hz0, hz1, hz2⟩ := info_parts infoLn
  have hl := run_loadCells_list (P := Tryd.prog) w a cs hsrc
  have hst := run_storeCells_at Tryd.prog g o t cs 0 cur w hg (by simpa using hfit) h1
  rw [hn] at hl
  simp [Builtin.copy_, run_underlying Tryd.underlying22, Builtin.lenOf, Builtin.firstCells, sizeOf, typeInfo, hi, hz1, ← hm, hl, hst]
theorem run_clear4 (w : World) (ty : TypeId) (g o c : Nat) (cur : Array Value) (t : TypeId) (hg : w.heap[g]? = some (.cells cur t (0, 0))) (hfit : o + 4 ≤ cur.size) :
    (Builtin.clear_ #[22] ty #[.slice (some ⟨g, o, none⟩) 1 c]).run Tryd.prog w = .ok (.tuple #[]) (w.setRow g (cur.toList.take o ++ [Value.int .i64 0, Value.int .u64 0, Value.int .i64 0, Value.int .i64 0] ++ cur.toList.drop (o + 4)).toArray) := by
  obtain ⟨i0, hi, hz0, hz1, hz2⟩ := info_parts infoLn
  have hst := run_storeCells_at Tryd.prog g o t [.int .i64 0, .int .u64 0, .int .i64 0, .int .i64 0] 0 cur w hg (by simpa using hfit) (by simp [Value.oneCell'])
  have hzc : (Builtin.zeroCells (Value.agg #[.int .i64 0, .int .u64 0, .int .i64 0, .int .i64 0]).cells 1).toList = [.int .i64 0, .int .u64 0, .int .i64 0, .int .i64 0] := by simp [Builtin.zeroCells, Value.cells]; first | rfl | decide
  simp [Builtin.clear_, run_underlying Tryd.underlying22, zeroValue, typeInfo, hi, hz0, hzc, hst]
end Go.Proofs.YtbggaijjgnjknaaDoor
