/-
  PACKAGE slots: All.
-/
import Derived.Test.YtgjnmpbahekbfaaDoorSlM
import Derived.Test.YtgjnmpbahekbfaaDoorSlWa
namespace Go.Proofs.YtgjnmpbahekbfaaDoor
open Go.RowKit Go.Shelf

attribute [local go_sem] Oper.semAt_some

theorem infoHd : (Tryd.prog.info? 28).map (fun i => (i.zero, i.size, i.bytes)) = some (some (.agg #[.int .i64 0, .int .i64 0]), 2, 16) := by kernel_rfl
def hcells (l : List Hd) : List Value := l.flatMap fun x => [.int .i64 x.slot, .int .i64 x.gen]
theorem hcells_snoc (l : List Hd) (x : Hd) : hcells (l ++ [x]) = hcells l ++ [.int .i64 x.slot, .int .i64 x.gen] := by simp [hcells]
theorem cell_two_new (w : World) (x y : Value) (t : TypeId) : ∀ j u, [x, y][j]? = some u → (w.alloc (.cells #[x, y] t)).cell? ((⟨w.heap.size, 0, none⟩ : Addr).add j) = some u := by
  intro j u h
  have hb : Blk (w.alloc (.cells #[x, y] t)) w.heap.size t #[x, y] := Blk.new' rfl
  match j, h with
  | 0, h => exact hb.at_ (i := 0) h
  | 1, h => exact hb.at_ (i := 1) h
theorem ownsRow_moves {n0 : Nat} {T : Nat → Prop} {A B : World} {base : Nat} {e : TypeId} {size n : Nat} {v : Value} {xs : List Value} (h : A.ownsRow base e size v n xs) (m : Moves n0 T A B) (hT : ∀ k, T k → False) : B.ownsRow base e size v n xs := by
  obtain ⟨h1, h2⟩ := h
  refine ⟨h1, ?_⟩
  rcases h2 with h2 | ⟨g, cap, cur, hv, hb, hh, r⟩
  · exact .inl h2
  · exact .inr ⟨g, cap, cur, hv, hb, m.block hh rfl (fun t => hT _ t), r⟩
theorem boxed_moves {n0 : Nat} {T : Nat → Prop} {A B : World} {b : Nat} {t : TypeId} {v : Value} (h : Boxed A b t v) (m : Moves n0 T A B) (hT : ∀ k, T k → False) : Boxed B b t v := m.block h rfl (fun t => hT _ t)
/-- what a loop's body gathers: the box ob holds a slice that owns the row f pre, in blocks from nb on -/
structure Gath (w : World) (ob nb : Nat) (st e : TypeId) (size : Nat) (len : Nat) (xs : List Value) (W : World) : Prop where
  box : ∃ v, Boxed W ob st v ∧ W.ownsRow nb e size v len xs
  below : Below w.heap.size w W
  size : nb ≤ W.heap.size
theorem Gath.moves {n0 : Nat} {T : Nat → Prop} {w A B : World} {ob nb : Nat} {st e : TypeId} {size len : Nat} {xs : List Value} (h : Gath w ob nb st e size len xs A) (m : Moves n0 T A B) (hT : ∀ k, T k → False) (hn : w.heap.size ≤ n0) : Gath w ob nb st e size len xs B := by
  obtain ⟨⟨v, hv, hr⟩, hb, hs⟩ := h
  exact ⟨⟨v, boxed_moves hv m hT, ownsRow_moves hr m hT⟩, m.below hb (Nat.le_refl _) hn (fun k t => (hT k t).elim), Nat.le_trans hs m.size⟩
/-- one append more -/
theorem Gath.appended {w W w1 : World} {ob nb : Nat} {st e : TypeId} {size len m : Nat} {v v' : Value} {xs ys : List Value} {tmp : Obj} (hb : Below w.heap.size w W) (hs : nb ≤ W.heap.size) (hv : Boxed W ob st v) (hte : st ≠ e) (hr : W.ownsRow nb e size v len xs) (hn : w.heap.size ≤ nb) (hob : w.heap.size ≤ ob)
    (hown' : w1.ownsRow nb e size v' m ys) (hgrow : (W.alloc tmp).grownBy w1 v.ownBlock) :
    Gath w ob nb st e size m ys (w1.setCell ⟨ob, 0, none⟩ v') ∧ Turns (fun k => k = ob ∨ nb ≤ k) W (w1.setCell ⟨ob, 0, none⟩ v') ∧ w1.cell? ⟨ob, 0, none⟩ = some v ∧ w1.frozen? ⟨ob, 0, none⟩ = false := by
  have hv1 : Boxed w1 ob st v := (hv.alloc tmp).kept hgrow (hv.not_row hte hr)
  have hrow : ∀ k, v.ownBlock = some k → nb ≤ k ∧ ∀ o, (W.alloc tmp).heap[k]? = some o → o.isCells = true := by
    intro k hk
    rcases (hr.alloc tmp).2 with ⟨rfl, _⟩ | ⟨g, cap, cur, rfl, hg, hgb, _⟩
    · simp [Value.ownBlock] at hk
    · obtain rfl : g = k := by simpa [Value.ownBlock] using hk
      exact ⟨hg, fun o ho => by rw [hgb] at ho; cases ho; rfl⟩
  have hT : Turns (fun k => k = ob ∨ nb ≤ k) W (w1.setCell ⟨ob, 0, none⟩ v') := (((Turns.refl _ W).alloc tmp).grown hgrow (fun k hk => ⟨.inr (hrow k hk).1, (hrow k hk).2⟩)).setCell (p := ⟨ob, 0, none⟩) (.inl rfl) v'
  exact ⟨⟨⟨v', hv1.set v', hown'.kept (grownBy_setCell' w1 ob v') (.inr (hv1.not_row hte hown').symm)⟩, (hT.moves (w.heap.size)).below hb (Nat.le_refl _) (Nat.le_refl _) (fun k t => by omega), Nat.le_trans hs hT.size⟩, hT, hv1.cell, hv1.frozen⟩
theorem ownsRow_base {A : World} {base base' : Nat} {e : TypeId} {size n : Nat} {v : Value} {xs : List Value} (h : A.ownsRow base' e size v n xs) (hb : base ≤ base') : A.ownsRow base e size v n xs := by
  obtain ⟨h1, h2⟩ := h
  refine ⟨h1, ?_⟩
  rcases h2 with h2 | ⟨g, cap, cur, hv, hg, r⟩
  · exact .inl h2
  · exact .inr ⟨g, cap, cur, hv, Nat.le_trans hb hg, r⟩
set_option maxRecDepth 100000 in
set_option maxHeartbeats 8000000 in
theorem All_in (n : Nat) (hn : 3 ≤ n) (sb gb tb : Nat) (v : Value) (gen : List Int) (tk : List Bool) (un : Int) (w : World)
    (hs : Blk w sb 57 (slotsC v (.slice (some ⟨gb, 0, none⟩) gen.length gen.length) (.slice (some ⟨tb, 0, none⟩) gen.length gen.length) un)) (hg : Blk w gb 3 ⟨gen.map vI⟩) (ht : Blk w tb 4 ⟨tk.map vB⟩)
    (htl : tk.length = gen.length) (hle : gen.length ≤ 900) :
    CallsIn Fence.wide n Tryd.prog 14 #[.pointer (some ⟨sb, 0, none⟩)] w fun e w' => ∃ v', e = .returned v' ∧ w'.ownsRow w.heap.size 28 2 v' (liveTo gen tk gen.length).length (hcells (liveTo gen tk gen.length)) ∧ Below w.heap.size w w' := by
  have h1 : 1 ≤ n := by omega
  obtain ⟨i0, hi, hz0, hz1, hz2⟩ := info_parts infoHd
  have HS := Lib.hid hs
  have HG0 := Lib.hid hg
  have HT := Lib.hid ht
  have hsl := hs.lt
  have hgl := hg.lt
  have htl2 := ht.lt
  clear hs hg ht
  refine callsIn_of_wp_marks Tryd.func14 rfl trivial ?_ rfl
  simp only [Tryd.ntmps14, List.size_toArray, List.length_cons, List.length_nil, Nat.reduceAdd, Nat.reduceSub, Array.replicate_succ, Array.replicate_zero, List.push_toArray, List.append_toArray, List.nil_append, List.cons_append]
  gi_wp2_with fail
  refine ⟨trivial, ?_⟩
  refine (callsIn_wide.2 (live_fn sb _)).mono ?_
  rintro e w3 ⟨rfl, rfl⟩
  gi_wp2_with fail
  obtain ⟨W0, hW⟩ : ∃ W0, ((w.alloc (.cells #[.slice none 0 0] 35)).alloc (.cells #[.pointer (some ⟨sb, 0, none⟩)] 23)) = W0 := ⟨_, rfl⟩
  have hB0 : Below w.heap.size w W0 := by rw [← hW]; exact below_alloc (below_alloc (Below.refl _ _) _) _
  have hob : Boxed W0 w.heap.size 35 (.slice none 0 0) := by
    rw [← hW]; exact (Blk.new' (t := 35) (cs := #[.slice none 0 0]) (w := w) rfl).alloc _
  have hbt : Blk W0 (w.heap.size + 1) 23 #[.pointer (some ⟨sb, 0, none⟩)] := by
    rw [← hW]; exact Blk.new' (w := w.alloc _) (by simp)
  have hs0 : W0.heap.size = w.heap.size + 2 := by rw [← hW]; simp
  rw [hW]
  clear hW
  have HE : LiveEnv W0 (w.heap.size + 1) sb gb tb v gen tk un := ⟨hbt, HS.out.after hB0, HG0.out.after hB0, HT.out.after hB0⟩
  generalize e1 : w.heap.size + 1 = bt at *
  have HG : Gath w w.heap.size W0.heap.size 35 28 2 0 (hcells []) W0 := ⟨⟨_, hob, World.ownsRow_nil _ _ _ _⟩, hB0, Nat.le_refl _⟩
  have hwz : w.heap.size ≤ W0.heap.size := by omega
  have hUn : ∀ b, b = bt ∨ b = sb ∨ b = gb ∨ b = tb → ¬ (b = w.heap.size ∨ W0.heap.size ≤ b) := by omega
  have HU := Lib.hid hUn
  have HEN := Lib.hid HE
  clear hUn HE hbt hob
  refine wpIn_rangeFunc_M rfl h1 (gf := 35) (lb := #[.pointer (some ⟨bt, 0, none⟩)]) rfl trivial (enters_of Tryd.func35 (by kernel_rfl) rfl)
    (encs := encH) (T := fun _ => False) (U := fun k => k = w.heap.size ∨ W0.heap.size ≤ k) (Y := fun pre _ _ => pre.length < 900) (S := fun xs _ => xs = liveTo gen tk gen.length) (Sp := fun _ _ => True)
    (fun W1 hb hs => ?seq) (fun _ => rfl)
    (fun pre W => Gath w w.heap.size W0.heap.size 35 28 2 pre.length (hcells pre) W) (fun _ _ _ => False) (fun pre A B h m => h.moves m (fun _ t => t) hwz) (fun _ _ _ _ h _ => h) (fun _ _ _ h _ => h) (fun _ _ _ h _ => h) HG
    (fun pre y a' W => Gath w w.heap.size W0.heap.size 35 28 2 pre.length (hcells pre) W ∧ pre.length < 900 ∧ ∃ yb, Blk W yb 28 #[.int .i64 y.slot, .int .i64 y.gen] ∧ a' = { tmps := #[.pointer (some ⟨sb, 0, none⟩), undef, .slice none 0 0, .pointer (some ⟨w.heap.size, 0, none⟩), .pointer (some ⟨yb, 0, none⟩), .pointer (some ⟨sb, 0, none⟩), .bool false, .pointer (some ⟨sb, 0, none⟩), .func (.func 35) #[] #[.pointer (some ⟨bt, 0, none⟩)], .agg #[.int .i64 y.slot, .int .i64 y.gen], undef, undef, undef, undef, undef], defers := [] })
    (fun pre k a' A B h m => ⟨h.1.moves m (fun _ t => t) hwz, h.2.1, h.2.2.elim fun yb hy => ⟨yb, m.block hy.1 rfl (fun t => t), hy.2⟩⟩) ?hassign ?hbody ?hdone ?hstop
  case seq =>
    exact live_seq (n - 1) (by omega) bt sb gb tb W0.heap.size v gen tk un W1 _ (HEN.out.keepT (Turns.of_below hb) (fun b _ h => h)) htl hle HU.out
  case hassign =>
    intro lp pre y W hi hy
    simp only [encH]
    gi_wp2
    exact ⟨(Turns.refl _ W).alloc _, hi.moves (((Turns.refl (fun _ => False) W).alloc _).moves W.heap.size) (fun _ t => t) hi.below.size, by omega, W.heap.size, Blk.new' rfl, rfl⟩
  case hbody =>
    rintro lp pre y a' W hlp ⟨⟨⟨v, hv, hrow⟩, hB, hsz⟩, hlen, yb, hy, rfl⟩
    have hc := hv.cell
    have q4 := hy.at_ (i := 0) (v := .int .i64 y.slot) rfl
    have q5 := hy.at_ (i := 1) (v := .int .i64 y.gen) rfl
    gi_wp2_with (gi_at_builtin; refine wpListIn_append_own _ rfl _ _ 35 rfl W0.heap.size 28 i0 (.agg #[.int .i64 0, .int .i64 0]) 2 16 Tryd.underlying35 hi hz0 hz1 hz2 rfl (by decide) _ _ _ rfl (hrow.alloc _) ⟨W.heap.size, 0, none⟩ 1 1 [.int .i64 y.slot, .int .i64 y.gen] rfl rfl (cell_two_new _ _ _ _) (by simp [Value.oneCell']) (by unfold maxLen; omega) (by omega) (by simp; omega) ?_; intro v' w1 hown' hgrow _; obtain ⟨g', cap', rfl⟩ := ownsRow_succ hown'; obtain ⟨hG, hT, hc1, hf1⟩ := Gath.appended hB hsz hv (by decide) hrow hwz (by omega) hown' hgrow)
    exact ⟨hT, by show Gath w w.heap.size W0.heap.size 35 28 2 (pre ++ [y]).length (hcells (pre ++ [y])) _; rw [hcells_snoc]; simpa using hG⟩
  case hdone =>
    rintro D ys W hD rfl ⟨⟨v, hv, hrow⟩, hB, hsz⟩ hK
    have hc := hv.cell
    gi_wp2
    refine ⟨by simp, .inl ⟨_, _, rfl, run_takeDeferred hK, ?_⟩⟩
    exact ⟨_, results_tmp rfl _ _ _, v, rfl, ownsRow_base (ownsRow_putObj hrow _ hK rfl) hwz, hB.trans (belowK_b (w := w) (Nat.le_refl _) W D _ _ (by omega) hK rfl rfl)⟩
  case hstop =>
    rintro D c pre W _ _ h _
    exact h.elim
/-- All: the live handles, by their slots -/
theorem All_w (base sb gb tb : Nat) (v : Value) (n : Nat) (gen : List Int) (tk : List Bool) (w : World) (H : Well base w sb gb tb v n gen tk) :
    Calls Tryd.prog 14 #[.pointer (some ⟨sb, 0, none⟩)] w fun e w' => ∃ v', e = .returned v' ∧ w'.ownsRow w.heap.size 28 2 v' (liveTo gen tk n).length (hcells (liveTo gen tk n)) ∧ Below w.heap.size w w' := by
  obtain ⟨h, un, H, G⟩ := H
  have hn := G.nl
  have hg := G.gl
  rw [← hg]
  exact callsIn_wide.1 (All_in 3 (Nat.le_refl _) sb gb tb v gen tk un w H.s H.g H.t H.tl (by omega))
end Go.Proofs.YtgjnmpbahekbfaaDoor
