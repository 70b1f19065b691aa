/-
  PACKAGE ledger: the iterators of, under; Used, Seen.
-/
import Derived.Test.YtbggaijjgnjknaaDoorLgB
import Derived.RangeFuncNested
import Derived.RangeFuncBound
import Derived.RangeFuncCalls
import Derived.RangeFuncLeaves
import Derived.RangeFuncBox
import Derived.Shelf.Abstract
import Derived.Shelf.RegionOpen
import Derived.OwnWalkIn
import Derived.TacticsInMore
import Derived.LoopNIn
import Derived.LoopIn
import Derived.WalkMore
namespace Go.Proofs.YtbggaijjgnjknaaDoor
open Go.RowKit Go.Shelf

attribute [local go_sem] Oper.semAt_some
attribute [local go_sem] u_and u_or u_andNot u_add u_sub u_bit u_eq_zero u_beq

theorem ownsRow_moves {n0 : Nat} {T : Nat → Prop} {A B : World} {base : Nat} {e : TypeId} {size n : Nat} {v : Value} {xs : List Value} (h : A.ownsRow base e size v n xs) (m : Moves n0 T A B) (hT : ∀ k, T k → False) : B.ownsRow base e size v n xs := by
  obtain ⟨h1, h2⟩ := h
  refine ⟨h1, ?_⟩
  rcases h2 with h2 | ⟨g, cap, cur, hv, hb, hh, r⟩
  · exact .inl h2
  · exact .inr ⟨g, cap, cur, hv, hb, m.block hh rfl (fun t => hT _ t), r⟩
theorem boxed_moves {n0 : Nat} {T : Nat → Prop} {A B : World} {b : Nat} {t : TypeId} {v : Value} (h : Boxed A b t v) (m : Moves n0 T A B) (hT : ∀ k, T k → False) : Boxed B b t v := m.block h rfl (fun t => hT _ t)
/-- what a loop's body gathers: the box ob holds a slice that owns the row f pre, in blocks from nb on -/
structure Gath (w : World) (ob nb : Nat) (st e : TypeId) (size : Nat) (len : Nat) (xs : List Value) (W : World) : Prop where
  box : ∃ v, Boxed W ob st v ∧ W.ownsRow nb e size v len xs
  below : Below w.heap.size w W
  size : nb ≤ W.heap.size
theorem Gath.moves {n0 : Nat} {T : Nat → Prop} {w A B : World} {ob nb : Nat} {st e : TypeId} {size len : Nat} {xs : List Value} (h : Gath w ob nb st e size len xs A) (m : Moves n0 T A B) (hT : ∀ k, T k → False) (hn : w.heap.size ≤ n0) : Gath w ob nb st e size len xs B := by
  obtain ⟨⟨v, hv, hr⟩, hb, hs⟩ := h
  exact ⟨⟨v, boxed_moves hv m hT, ownsRow_moves hr m hT⟩, m.below hb (Nat.le_refl _) hn (fun k t => (hT k t).elim), Nat.le_trans hs m.size⟩
/-- one append more -/
theorem Gath.appended {w W w1 : World} {ob nb : Nat} {st e : TypeId} {size len m : Nat} {v v' : Value} {xs ys : List Value} {tmp : Obj} (hb : Below w.heap.size w W) (hs : nb ≤ W.heap.size) (hv : Boxed W ob st v) (hte : st ≠ e) (hr : W.ownsRow nb e size v len xs) (hn : w.heap.size ≤ nb) (hob : w.heap.size ≤ ob)
    (hown' : w1.ownsRow nb e size v' m ys) (hgrow : (W.alloc tmp).grownBy w1 v.ownBlock) :
    Gath w ob nb st e size m ys (w1.setCell ⟨ob, 0, none⟩ v') ∧ Turns (fun k => k = ob ∨ nb ≤ k) W (w1.setCell ⟨ob, 0, none⟩ v') ∧ w1.cell? ⟨ob, 0, none⟩ = some v ∧ w1.frozen? ⟨ob, 0, none⟩ = false := by
  have hv1 : Boxed w1 ob st v := (hv.alloc tmp).kept hgrow (hv.not_row hte hr)
  have hrow : ∀ k, v.ownBlock = some k → nb ≤ k ∧ ∀ o, (W.alloc tmp).heap[k]? = some o → o.isCells = true := by
    intro k hk
    rcases (hr.alloc tmp).2 with ⟨rfl, _⟩ | ⟨g, cap, cur, rfl, hg, hgb, _⟩
    · simp [Value.ownBlock] at hk
    · obtain rfl : g = k := by simpa [Value.ownBlock] using hk
      exact ⟨hg, fun o ho => by rw [hgb] at ho; cases ho; rfl⟩
  have hT : Turns (fun k => k = ob ∨ nb ≤ k) W (w1.setCell ⟨ob, 0, none⟩ v') := (((Turns.refl _ W).alloc tmp).grown hgrow (fun k hk => ⟨.inr (hrow k hk).1, (hrow k hk).2⟩)).setCell (p := ⟨ob, 0, none⟩) (.inl rfl) v'
  exact ⟨⟨⟨v', hv1.set v', hown'.kept (grownBy_setCell' w1 ob v') (.inr (hv1.not_row hte hown').symm)⟩, (hT.moves (w.heap.size)).below hb (Nat.le_refl _) (Nat.le_refl _) (fun k t => by omega), Nat.le_trans hs hT.size⟩, hT, hv1.cell, hv1.frozen⟩
theorem ownsRow_base {A : World} {base base' : Nat} {e : TypeId} {size n : Nat} {v : Value} {xs : List Value} (h : A.ownsRow base' e size v n xs) (hb : base ≤ base') : A.ownsRow base e size v n xs := by
  obtain ⟨h1, h2⟩ := h
  refine ⟨h1, ?_⟩
  rcases h2 with h2 | ⟨g, cap, cur, hv, hg, r⟩
  · exact .inl h2
  · exact .inr ⟨g, cap, cur, hv, Nat.le_trans hb hg, r⟩
theorem wpInW_scope {n : Nat} {P : Program} {Q : Exit → Act → World → Prop} {a : Act} {w : World} {c : Code} (h : c.wpIn Fence.wide n P (Exit.noGoto Q) a w) : (Code.scope c).wpIn Fence.wide n P Q a w :=
  wpIn_wide.2 (wp_scope_straight (wpIn_wide.1 h))
theorem eql_ln (x : Ln) (a : Lab) (w : World) : (binOp .eql 42 (.agg #[.int .i64 x.a.lv, .int .u64 (u x.a.c), .int .i64 x.a.ig, .int .i64 x.n]) (.agg #[.int .i64 a.lv, .int .u64 (u a.c), .int .i64 a.ig, .int .i64 x.n])).run Tryd.prog w = .ok (.bool (eqL x.a a)) w := by
  obtain ⟨b, n⟩ := x
  by_cases h1 : b.lv = a.lv <;> by_cases h2 : b.c = a.c <;> by_cases h3 : b.ig = a.ig <;> go_simp <;> simp [eqL, h1, h2, h3]
def encL1 (x : Ln) : Array Value := #[.agg #[.int .i64 x.a.lv, .int .u64 (u x.a.c), .int .i64 x.a.ig, .int .i64 x.n]]
/-- those of the first k that p takes -/
def fTo (p : Ln → Bool) (l : List Ln) (k : Nat) : List Ln := (l.take k).filter p
theorem fTo_yes {p : Ln → Bool} {l : List Ln} {k : Nat} {x : Ln} (hx : l[k]? = some x) (h : p x = true) : fTo p l (k + 1) = fTo p l k ++ [x] := by
  unfold fTo; rw [List.take_add_one, hx, List.filter_append]; simp [h]
theorem fTo_no {p : Ln → Bool} {l : List Ln} {k : Nat} {x : Ln} (hx : l[k]? = some x) (h : p x = false) : fTo p l (k + 1) = fTo p l k := by
  unfold fTo; rw [List.take_add_one, hx, List.filter_append]; simp [h]
theorem fTo_len (p : Ln → Bool) (l : List Ln) (k : Nat) : (fTo p l k).length ≤ k := by
  unfold fTo
  have := List.length_filter_le p (l.take k)
  have h2 := List.length_take_le k l
  omega
theorem fTo_all (p : Ln → Bool) (l : List Ln) : fTo p l l.length = l.filter p := by unfold fTo; rw [List.take_length]
theorem fTo_first {p : Ln → Bool} {l : List Ln} {k : Nat} {x : Ln} (hx : l[k]? = some x) (h : p x = true) (h0 : fTo p l k = []) : l.find? p = some x := by
  have : l = l.take k ++ l.drop k := (List.take_append_drop k l).symm
  have hd : l.drop k = x :: l.drop (k + 1) := by
    obtain ⟨hk, e⟩ := List.getElem?_eq_some_iff.1 hx
    rw [List.drop_eq_getElem_cons hk, e]
  rw [this, List.find?_append, hd]
  have hn : (l.take k).find? p = none := by
    rw [List.find?_eq_none]
    intro y hy hp
    have : y ∈ fTo p l k := List.mem_filter.2 ⟨hy, hp⟩
    rw [h0] at this; cases this
  rw [hn]
  simp [h]
theorem fTo_none {p : Ln → Bool} {l : List Ln} (h : l.filter p = []) : l.find? p = none := by
  rw [List.find?_eq_none]
  intro y hy hp
  have : y ∈ l.filter p := List.mem_filter.2 ⟨hy, hp⟩
  rw [h] at this; cases this
theorem of_fn (tb : Nat) (a : Lab) (w : World) :
    Calls Tryd.prog 38 #[.pointer (some ⟨tb, 0, none⟩), .agg #[.int .i64 a.lv, .int .u64 (u a.c), .int .i64 a.ig]] w fun e w' => e = .returned (.func (.func 54) #[] #[.pointer (some ⟨w.heap.size, 0, none⟩), .pointer (some ⟨w.heap.size + 1, 0, none⟩)]) ∧
      (w.alloc (.cells #[.pointer (some ⟨tb, 0, none⟩)] 64)).alloc (.cells #[.int .i64 a.lv, .int .u64 (u a.c), .int .i64 a.ig] 25) = w' := by
  go_enter Tryd.func38, Tryd.ntmps38
  go_wp2
  go_ret
  exact ⟨rfl, rfl⟩
theorem underL_fn (tb : Nat) (a : Lab) (w : World) :
    Calls Tryd.prog 39 #[.pointer (some ⟨tb, 0, none⟩), .agg #[.int .i64 a.lv, .int .u64 (u a.c), .int .i64 a.ig]] w fun e w' => e = .returned (.func (.func 55) #[] #[.pointer (some ⟨w.heap.size, 0, none⟩), .pointer (some ⟨w.heap.size + 1, 0, none⟩)]) ∧
      (w.alloc (.cells #[.pointer (some ⟨tb, 0, none⟩)] 64)).alloc (.cells #[.int .i64 a.lv, .int .u64 (u a.c), .int .i64 a.ig] 25) = w' := by
  go_enter Tryd.func39, Tryd.ntmps39
  go_wp2
  go_ret
  exact ⟨rfl, rfl⟩
set_option maxRecDepth 100000 in
set_option maxHeartbeats 8000000 in
theorem of_seq (n : Nat) (hn : 1 ≤ n) (l : List Ln) (v : Value) (a : Lab) (bt tb ba B n0 : Nat) (W : World) (U : Nat → Prop) (hbt : Blk W bt 64 #[.pointer (some ⟨tb, 0, none⟩)]) (htb : W.cell? ⟨tb, 0, none⟩ = some v) (hba : Blk W ba 25 #[.int .i64 a.lv, .int .u64 (u a.c), .int .i64 a.ig])
    (hl : RowsAt encLn 4 B W v l) (hBW : B ≤ W.heap.size) (hU : ∀ k, U k → B ≤ k ∧ k ≠ ba) :
    SeqM Fence.wide n Tryd.prog 54 #[.pointer (some ⟨bt, 0, none⟩), .pointer (some ⟨ba, 0, none⟩)] encL1 n0 (fun _ => False) U (fun pre x _ => ∃ k, l[k]? = some x ∧ eqL x.a a = true ∧ pre = fTo (fun x => eqL x.a a) l k)
      (fun xs _ => xs = l.filter (fun x => eqL x.a a)) (fun _ _ => True) W := by
  intro lp J Jx hJ hJx hY h0
  have HY := Lib.hid hY
  have HJ := Lib.hid hJ
  have HJX := Lib.hid hJx
  have H0 := Lib.hid h0
  have HU := Lib.hid hU
  have BT := Lib.hid hbt
  have BA := Lib.hid hba
  have hbtl : bt < W.heap.size := hbt.lt
  have hbal : ba < W.heap.size := hba.lt
  have pt := hbt.at_ (i := 0) (v := .pointer (some ⟨tb, 0, none⟩)) rfl
  have htl : tb < W.heap.size := World.block_lt_of_cell? _ _ htb
  clear hY hJ hJx h0 hU hbt hba
  refine callsIn_of_wp Tryd.func54 rfl trivial ?_ rfl
  simp only [Tryd.ntmps54, List.size_toArray, List.length_cons, List.length_nil, Nat.reduceAdd, Nat.reduceSub, Array.replicate_succ, Array.replicate_zero, List.push_toArray, List.append_toArray, List.nil_append, List.cons_append]
  refine wpInW_scope ?_
  gi_wp2_with fail
  refine wpIn_label ?_
  simp only [Exit.then]
  obtain ⟨sA, sc, rfl, hcap, hsc, _⟩ := hl.slice
  have HL := Lib.hid hl
  clear hl
  gi_wp2
  gi_loopw [11] (fun s wr => ∃ k : Nat, s = .int .i64 k ∧ k ≤ l.length ∧ J (fTo (fun x => eqL x.a a) l k) wr ∧ Blk wr ba 25 #[.int .i64 a.lv, .int .u64 (u a.c), .int .i64 a.ig] ∧ W.heap.size ≤ wr.heap.size ∧ (∀ b' q x', b' < B → W.cell? ⟨b', q, none⟩ = some x' → wr.cell? ⟨b', q, none⟩ = some x')) (fun s _ => l.length - (intOf s).toNat)
  case atStart => exact ⟨0, rfl, Nat.zero_le _, H0.out, BA.out, Nat.le_refl _, fun _ _ _ _ hx => hx⟩
  case round =>
    obtain ⟨k, rfl, hlen, hJp, hA, hsz, hK⟩ := hrel
    have HJP := Lib.hid hJp
    have BB := Lib.hid hA
    have HK := Lib.hid hK
    have HSZ := Lib.hid hsz
    have q0 := hA.at_ (i := 0) (v := .int .i64 a.lv) rfl
    have q1 := hA.at_ (i := 1) (v := .int .u64 (u a.c)) rfl
    have q2 := hA.at_ (i := 2) (v := .int .i64 a.ig) rfl
    have hal : ba < wr.heap.size := hA.lt
    have hal1 : ba < wr.heap.size + 1 := by omega
    clear hJp hA hK hsz
    by_cases hkl : k < l.length
    · obtain ⟨x, hx⟩ : ∃ x, l[k]? = some x := ⟨_, List.getElem?_eq_getElem hkl⟩
      obtain ⟨b, off, hA, hlt, he⟩ := (HL.out.keep HK.out).el hx (by have := HSZ.out; omega)
      subst hA
      have p0 : wr.cell? ⟨b, off + k * 4, none⟩ = some (.int .i64 x.a.lv) := he.at_ (i := 0) rfl
      have p1 : wr.cell? ⟨b, off + k * 4 + 1, none⟩ = some (.int .u64 (u x.a.c)) := he.at_ (i := 1) rfl
      have p2 : wr.cell? ⟨b, off + k * 4 + 2, none⟩ = some (.int .i64 x.a.ig) := he.at_ (i := 2) rfl
      have p3 : wr.cell? ⟨b, off + k * 4 + 3, none⟩ = some (.int .i64 x.n) := he.at_ (i := 3) rfl
      have pl : b < wr.heap.size := he.lt
      have hkz : (0 : Int) ≤ (k : Int) := by omega
      have hkz2 : (k : Int) < (l.length : Int) := by omega
      have e10 : IntKind.i64.wrap ((k : Int) + 1) = ((k + 1 : Nat) : Int) := wrapI _ (by omega)
      have HX := Lib.hid hx
      have HLT := Lib.hid hkl
      clear hx he hlen hkl
      have hE := eql_ln x a
      cases hp : eqL x.a a
      · have HN := Lib.hid (fTo_no (p := fun x => eqL x.a a) HX.out hp)
        have HP := Lib.hid hp
        rw [hp] at hE
        clear hp
        gi_wp2_with fail
        refine ⟨(fun _ h => by cases h), ?_⟩
        gi_wp2_with fail
        go_roundw
        case rel => exact ⟨k + 1, by first | rfl | go_num, HLT.out, by rw [HN.out]; exact HJ.out _ _ _ HJP.out ((Turns.refl _ wr).alloc _), BB.out.alloc _, by have := HSZ.out; simp; omega, fun b' q x' hb hx => (World.cell?_alloc_lt _ _ _ (World.block_lt_of_cell? _ _ (HK.out b' q x' hb hx))).trans (HK.out b' q x' hb hx)⟩
        case measure => have := HLT.out; simp [intOf]; omega
      · have HN := Lib.hid (fTo_yes (p := fun x => eqL x.a a) HX.out hp)
        have HP := Lib.hid hp
        rw [hp] at hE
        clear hp
        have HB := Lib.hid (show Below wr.heap.size wr (wr.alloc (.cells #[.int .i64 x.a.lv, .int .u64 (u x.a.c), .int .i64 x.a.ig, .int .i64 x.n] 42)) from below_alloc (Below.refl _ _) _)
        have HJ2 := Lib.hid (HJ.out _ _ _ HJP.out (Turns.of_below HB.out))
        obtain ⟨fn, tmps, assign, body, hy, hR⟩ := HY.out (fTo (fun x => eqL x.a a) l k) x _ HJ2.out ⟨k, HX.out, HP.out, rfl⟩
        have HR := Lib.hid hR
        clear hR
        simp only [encL1] at hy
        gi_wp2_with fail
        refine HR.out.mono ?_
        rintro e W3 (⟨rfl, hJ3, hk3⟩ | ⟨rfl, hJx3, hk3⟩)
        · have BA3 : Blk W3 ba 25 #[.int .i64 a.lv, .int .u64 (u a.c), .int .i64 a.ig] := hk3.block (BB.out.after HB.out) rfl (fun t => (HU.out _ t).2 rfl)
          have HJ3 := Lib.hid hJ3
          have hK3 : Hid (∀ b' q x', b' < B → W.cell? ⟨b', q, none⟩ = some x' → W3.cell? ⟨b', q, none⟩ = some x') := fun b' q x' hb hx => by
            have h1 := HK.out b' q x' hb hx
            have h3 := (HB.out.cell (p := ⟨b', q, none⟩) (World.block_lt_of_cell? _ _ h1)).trans h1
            exact hk3.cell h3 (fun t => by have := (HU.out b' t).1; omega)
          have hz3 : Hid (W.heap.size ≤ W3.heap.size) := Lib.hid (by have := HSZ.out; have := hk3.size; have := HB.out.size; omega)
          have HA3 := Lib.hid BA3
          clear hJ3 hk3 BA3
          gi_wp2_with fail
          go_roundw
          case rel => exact ⟨k + 1, by first | rfl | go_num, HLT.out, by rw [HN.out]; exact HJ3.out, HA3.out, hz3.out, hK3.out⟩
          case measure => have := HLT.out; simp [intOf]; omega
        · have HJX3 := Lib.hid hJx3
          clear hJx3 hk3
          gi_wp2_with fail
          rw [Exit.noGoto_normal]
          exact bodyPost_end (results_none rfl _ _ _) rfl ⟨⟨_, rfl⟩, .inr ⟨_, trivial, HJX3.out⟩⟩
    · have hke : k = l.length := by omega
      subst hke
      gi_wp2
      rw [Exit.noGoto_normal]
      go_end0
      exact ⟨⟨_, rfl⟩, .inl ⟨_, fTo_all _ _, HJP.out⟩⟩
set_option maxRecDepth 100000 in
set_option maxHeartbeats 8000000 in
theorem underL_seq (n : Nat) (hn : 1 ≤ n) (l : List Ln) (v : Value) (a : Lab) (bt tb ba B n0 : Nat) (W : World) (U : Nat → Prop) (hbt : Blk W bt 64 #[.pointer (some ⟨tb, 0, none⟩)]) (htb : W.cell? ⟨tb, 0, none⟩ = some v) (hba : Blk W ba 25 #[.int .i64 a.lv, .int .u64 (u a.c), .int .i64 a.ig])
    (hl : RowsAt encLn 4 B W v l) (hBW : B ≤ W.heap.size) (hU : ∀ k, U k → B ≤ k ∧ k ≠ ba) :
    SeqM Fence.wide n Tryd.prog 55 #[.pointer (some ⟨bt, 0, none⟩), .pointer (some ⟨ba, 0, none⟩)] encL1 n0 (fun _ => False) U (fun pre x _ => ∃ k, l[k]? = some x ∧ underL x.a a = true ∧ pre = fTo (fun x => underL x.a a) l k)
      (fun xs _ => xs = l.filter (fun x => underL x.a a)) (fun _ _ => True) W := by
  intro lp J Jx hJ hJx hY h0
  have HY := Lib.hid hY
  have HJ := Lib.hid hJ
  have HJX := Lib.hid hJx
  have H0 := Lib.hid h0
  have HU := Lib.hid hU
  have BT := Lib.hid hbt
  have BA := Lib.hid hba
  have hbtl : bt < W.heap.size := hbt.lt
  have hbal : ba < W.heap.size := hba.lt
  have pt := hbt.at_ (i := 0) (v := .pointer (some ⟨tb, 0, none⟩)) rfl
  have htl : tb < W.heap.size := World.block_lt_of_cell? _ _ htb
  clear hY hJ hJx h0 hU hbt hba
  refine callsIn_of_wp Tryd.func55 rfl trivial ?_ rfl
  simp only [Tryd.ntmps55, List.size_toArray, List.length_cons, List.length_nil, Nat.reduceAdd, Nat.reduceSub, Array.replicate_succ, Array.replicate_zero, List.push_toArray, List.append_toArray, List.nil_append, List.cons_append]
  obtain ⟨sA, sc, rfl, hcap, hsc, _⟩ := hl.slice
  have HL := Lib.hid hl
  clear hl
  gi_wp2
  gi_loopw [11] (fun s wr => ∃ k : Nat, s = .int .i64 k ∧ k ≤ l.length ∧ J (fTo (fun x => underL x.a a) l k) wr ∧ Blk wr ba 25 #[.int .i64 a.lv, .int .u64 (u a.c), .int .i64 a.ig] ∧ W.heap.size ≤ wr.heap.size ∧ (∀ b' q x', b' < B → W.cell? ⟨b', q, none⟩ = some x' → wr.cell? ⟨b', q, none⟩ = some x')) (fun s _ => l.length - (intOf s).toNat)
  case atStart => exact ⟨0, rfl, Nat.zero_le _, H0.out, BA.out, Nat.le_refl _, fun _ _ _ _ hx => hx⟩
  case round =>
    obtain ⟨k, rfl, hlen, hJp, hA, hsz, hK⟩ := hrel
    have HJP := Lib.hid hJp
    have BB := Lib.hid hA
    have HK := Lib.hid hK
    have HSZ := Lib.hid hsz
    have q0 := hA.at_ (i := 0) (v := .int .i64 a.lv) rfl
    have q1 := hA.at_ (i := 1) (v := .int .u64 (u a.c)) rfl
    have q2 := hA.at_ (i := 2) (v := .int .i64 a.ig) rfl
    have hal : ba < wr.heap.size := hA.lt
    have hal1 : ba < wr.heap.size + 1 := by omega
    clear hJp hA hK hsz
    by_cases hkl : k < l.length
    · obtain ⟨x, hx⟩ : ∃ x, l[k]? = some x := ⟨_, List.getElem?_eq_getElem hkl⟩
      obtain ⟨b, off, hA, hlt, he⟩ := (HL.out.keep HK.out).el hx (by have := HSZ.out; omega)
      subst hA
      have p0 : wr.cell? ⟨b, off + k * 4, none⟩ = some (.int .i64 x.a.lv) := he.at_ (i := 0) rfl
      have p1 : wr.cell? ⟨b, off + k * 4 + 1, none⟩ = some (.int .u64 (u x.a.c)) := he.at_ (i := 1) rfl
      have p2 : wr.cell? ⟨b, off + k * 4 + 2, none⟩ = some (.int .i64 x.a.ig) := he.at_ (i := 2) rfl
      have p3 : wr.cell? ⟨b, off + k * 4 + 3, none⟩ = some (.int .i64 x.n) := he.at_ (i := 3) rfl
      have pl : b < wr.heap.size := he.lt
      have hkz : (0 : Int) ≤ (k : Int) := by omega
      have hkz2 : (k : Int) < (l.length : Int) := by omega
      have e10 : IntKind.i64.wrap ((k : Int) + 1) = ((k + 1 : Nat) : Int) := wrapI _ (by omega)
      have HX := Lib.hid hx
      have HLT := Lib.hid hkl
      clear hx he hlen hkl
      cases hp : underL x.a a
      · have HN := Lib.hid (fTo_no (p := fun x => underL x.a a) HX.out hp)
        have HP := Lib.hid hp
        clear hp
        gi_wp2_with fail
        refine ⟨trivial, ?_⟩
        refine (callsIn_wide.2 (Under_any x.a a _)).mono ?_
        rintro e w2 ⟨rfl, hB⟩
        rw [HP.out]
        have HB := Lib.hid (below_call (w := wr) (below_alloc (Below.refl wr.heap.size wr) _) hB)
        clear hB
        gi_wp2_with fail
        refine ⟨(fun _ h => by cases h), ?_⟩
        gi_wp2_with fail
        go_roundw
        case rel => exact ⟨k + 1, by first | rfl | go_num, HLT.out, by rw [HN.out]; exact HJ.out _ _ _ HJP.out (Turns.of_below HB.out), BB.out.after HB.out, by have := HSZ.out; have := HB.out.size; omega, fun b' q x' hb hx => (HB.out.cell (p := ⟨b', q, none⟩) (World.block_lt_of_cell? _ _ (HK.out b' q x' hb hx))).trans (HK.out b' q x' hb hx)⟩
        case measure => have := HLT.out; simp [intOf]; omega
      · have HN := Lib.hid (fTo_yes (p := fun x => underL x.a a) HX.out hp)
        have HP := Lib.hid hp
        clear hp
        gi_wp2_with fail
        refine ⟨trivial, ?_⟩
        refine (callsIn_wide.2 (Under_any x.a a _)).mono ?_
        rintro e w2 ⟨rfl, hB⟩
        rw [HP.out]
        have HB := Lib.hid (below_call (w := wr) (below_alloc (Below.refl wr.heap.size wr) _) hB)
        have X2 := Lib.hid ((Blk.new' (w := wr) (t := 42) (cs := #[.int .i64 x.a.lv, .int .u64 (u x.a.c), .int .i64 x.a.ig, .int .i64 x.n]) rfl).after hB)
        have hz2 : wr.heap.size < w2.heap.size := by have := hB.size; simp at this; omega
        have t0 := X2.out.at_ (i := 0) (v := .int .i64 x.a.lv) rfl
        have t1 := X2.out.at_ (i := 1) (v := .int .u64 (u x.a.c)) rfl
        have t2 := X2.out.at_ (i := 2) (v := .int .i64 x.a.ig) rfl
        have t3 := X2.out.at_ (i := 3) (v := .int .i64 x.n) rfl
        clear hB
        have HJ2 := Lib.hid (HJ.out _ _ _ HJP.out (Turns.of_below HB.out))
        obtain ⟨fn, tmps, assign, body, hy, hR⟩ := HY.out (fTo (fun x => underL x.a a) l k) x _ HJ2.out ⟨k, HX.out, HP.out, rfl⟩
        have HR := Lib.hid hR
        clear hR
        simp only [encL1] at hy
        gi_wp2_with fail
        refine HR.out.mono ?_
        rintro e W3 (⟨rfl, hJ3, hk3⟩ | ⟨rfl, hJx3, hk3⟩)
        · have BA3 : Blk W3 ba 25 #[.int .i64 a.lv, .int .u64 (u a.c), .int .i64 a.ig] := hk3.block (BB.out.after HB.out) rfl (fun t => (HU.out _ t).2 rfl)
          have HJ3 := Lib.hid hJ3
          have hK3 : Hid (∀ b' q x', b' < B → W.cell? ⟨b', q, none⟩ = some x' → W3.cell? ⟨b', q, none⟩ = some x') := fun b' q x' hb hx => by
            have h1 := HK.out b' q x' hb hx
            have h3 := (HB.out.cell (p := ⟨b', q, none⟩) (World.block_lt_of_cell? _ _ h1)).trans h1
            exact hk3.cell h3 (fun t => by have := (HU.out b' t).1; omega)
          have hz3 : Hid (W.heap.size ≤ W3.heap.size) := Lib.hid (by have := HSZ.out; have := hk3.size; have := HB.out.size; omega)
          have HA3 := Lib.hid BA3
          clear hJ3 hk3 BA3
          gi_wp2_with fail
          go_roundw
          case rel => exact ⟨k + 1, by first | rfl | go_num, HLT.out, by rw [HN.out]; exact HJ3.out, HA3.out, hz3.out, hK3.out⟩
          case measure => have := HLT.out; simp [intOf]; omega
        · have HJX3 := Lib.hid hJx3
          clear hJx3 hk3
          gi_wp2_with fail
          exact bodyPost_ret (results_none rfl _ _ _) rfl ⟨⟨_, rfl⟩, .inr ⟨_, trivial, HJX3.out⟩⟩
    · have hke : k = l.length := by omega
      subst hke
      gi_wp2
      go_end0
      exact ⟨⟨_, rfl⟩, .inl ⟨_, fTo_all _ _, HJP.out⟩⟩
end Go.Proofs.YtbggaijjgnjknaaDoor
