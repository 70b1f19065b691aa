/-
  A RANGE OVER A FUNCTION WHOSE ITERATOR WRITES CELLS OF ITS OWN BETWEEN TWO ROUNDS, no program in sight: which blocks the iterator may turn (T) and which the loop's body may turn (U) are said by sets of block numbers.
-/
import Derived.Test.YtbggaijjgnjknaaDoorStep
import Derived.RangeFuncNested
import Derived.RangeFuncBound
namespace Go.Proofs.YtbggaijjgnjknaaDoor
open Go Go.RowKit

/-- Cells outside T, and whatever lay below n0 outside T, lie as they lay. -/
structure Moves (n0 : Nat) (T : Nat → Prop) (A B : World) : Prop where
  os : B.os = A.os
  tape : B.tape = A.tape
  output : B.output = A.output
  size : A.heap.size ≤ B.heap.size
  same : ∀ (k : Nat) (o : Obj), A.heap[k]? = some o → ¬ T k → (o.isCells = true ∨ k < n0) → B.heap[k]? = some o
/-- Whatever lay outside T, and whatever is no cells, lies as it lay. -/
structure Turns (T : Nat → Prop) (A B : World) : Prop where
  os : B.os = A.os
  tape : B.tape = A.tape
  output : B.output = A.output
  size : A.heap.size ≤ B.heap.size
  same : ∀ (k : Nat) (o : Obj), A.heap[k]? = some o → (¬ T k ∨ o.isCells = false) → B.heap[k]? = some o

theorem Moves.refl (n0 : Nat) (T : Nat → Prop) (A : World) : Moves n0 T A A := ⟨rfl, rfl, rfl, Nat.le_refl _, fun _ _ h _ _ => h⟩
theorem Moves.trans {n0 : Nat} {T : Nat → Prop} {A B C : World} (h : Moves n0 T A B) (k : Moves n0 T B C) : Moves n0 T A C :=
  ⟨k.os.trans h.os, k.tape.trans h.tape, k.output.trans h.output, Nat.le_trans h.size k.size, fun i o hi ht hc => k.same i o (h.same i o hi ht hc) ht hc⟩
theorem Moves.mono {n0 : Nat} {T T' : Nat → Prop} {A B : World} (h : Moves n0 T A B) (hT : ∀ k, T k → T' k) : Moves n0 T' A B :=
  ⟨h.os, h.tape, h.output, h.size, fun i o hi ht hc => h.same i o hi (fun e => ht (hT i e)) hc⟩
theorem Turns.refl (T : Nat → Prop) (A : World) : Turns T A A := ⟨rfl, rfl, rfl, Nat.le_refl _, fun _ _ h _ => h⟩
theorem Turns.trans {T : Nat → Prop} {A B C : World} (h : Turns T A B) (k : Turns T B C) : Turns T A C :=
  ⟨k.os.trans h.os, k.tape.trans h.tape, k.output.trans h.output, Nat.le_trans h.size k.size, fun i o hi ht => k.same i o (h.same i o hi ht) ht⟩
theorem Turns.mono {T T' : Nat → Prop} {A B : World} (h : Turns T A B) (hT : ∀ k, T k → T' k) : Turns T' A B :=
  ⟨h.os, h.tape, h.output, h.size, fun i o hi ht => h.same i o hi (ht.imp (fun e t => e (hT i t)) id)⟩
theorem Turns.moves {T : Nat → Prop} {A B : World} (h : Turns T A B) (n0 : Nat) : Moves n0 T A B :=
  ⟨h.os, h.tape, h.output, h.size, fun i o hi ht _ => h.same i o hi (.inl ht)⟩
/-- a new block -/
theorem Turns.alloc {T : Nat → Prop} {A B : World} (h : Turns T A B) (o : Obj) : Turns T A (B.alloc o) :=
  h.trans ⟨rfl, rfl, rfl, by simp, fun k o' hk _ => (Below.heap_alloc B o k (Array.getElem?_eq_some_iff.1 hk).1).trans hk⟩
/-- a store into a block of T -/
theorem Turns.setCell {T : Nat → Prop} {A B : World} (h : Turns T A B) {p : Addr} (hp : T p.block) (v : Value) : Turns T A (B.setCell p v) :=
  h.trans ⟨rfl, rfl, rfl, (KeepsWalks.setCell B p v).size, fun k o hk ht => by
    rcases ht with ht | ht
    · exact (Below.heap_setCell B p v k (fun e => ht (e ▸ hp))).trans hk
    · exact (KeepsOthers.setCell B p v).same k o hk ht⟩
theorem Turns.drew {T : Nat → Prop} {A B : World} (h : Turns T A B) : Turns T A B.drew := ⟨h.os, h.tape, h.output, h.size, h.same⟩
/-- a call that turns nothing that lay -/
theorem Turns.below {T : Nat → Prop} {A B C : World} (h : Turns T A B) (hb : Below B.heap.size B C) : Turns T A C :=
  h.trans ⟨hb.os, hb.tape, hb.output, hb.size, fun k _ hk _ => (hb.block k (Array.getElem?_eq_some_iff.1 hk).1).trans hk⟩
/-- an append: one block of T may have turned -/
theorem Turns.grown {T : Nat → Prop} {A B C : World} {row : Option Nat} (h : Turns T A B) (hg : B.grownBy C row) (hr : ∀ k, row = some k → T k ∧ ∀ o, B.heap[k]? = some o → o.isCells = true) : Turns T A C :=
  h.trans ⟨hg.os, hg.tape, hg.output, hg.size, fun k o hk ht => by
    refine (hg.block k (Array.getElem?_eq_some_iff.1 hk).1 (fun e => ?_)).trans hk
    obtain ⟨h1, h2⟩ := hr k e.symm
    rcases ht with ht | ht
    · exact ht h1
    · rw [h2 o hk] at ht; cases ht⟩
theorem Moves.putObj {n0 : Nat} (T : Nat → Prop) {A : World} {l : Nat} {o : Obj} (o' : Obj) (hl : A.heap[l]? = some o) (hc : o.isCells = false) (hn : n0 ≤ l) : Moves n0 T A (A.putObj l o') :=
  ⟨rfl, rfl, rfl, by simp, fun k o2 hk _ ht => by
    have hne : k ≠ l := fun e => by
      subst e; rw [hl] at hk; cases hk
      rcases ht with ht | ht
      · rw [hc] at ht; cases ht
      · omega
    exact (World.putObj_heap_other hne).trans hk⟩
theorem Moves.alloc {n0 : Nat} {T : Nat → Prop} {A B : World} (h : Moves n0 T A B) (o : Obj) : Moves n0 T A (B.alloc o) := h.trans (((Turns.refl T B).alloc o).moves n0)
/-- a cell outside T -/
theorem Moves.cell {n0 : Nat} {T : Nat → Prop} {A B : World} (h : Moves n0 T A B) {p : Addr} {v : Value} (hc : A.cell? p = some v) (ht : ¬ T p.block) : B.cell? p = some v := by
  obtain ⟨o, ho, hc'⟩ := cells_of_cell hc
  exact (World.cell?_of_block ((h.same _ _ ho ht (.inl hc')).trans ho.symm)).trans hc
theorem Moves.frozen {n0 : Nat} {T : Nat → Prop} {A B : World} (h : Moves n0 T A B) {p : Addr} {v : Value} {f : Bool} (hc : A.cell? p = some v) (hf : A.frozen? p = f) (ht : ¬ T p.block) : B.frozen? p = f := by
  obtain ⟨o, ho, hc'⟩ := cells_of_cell hc
  exact (World.frozen?_of_block ((h.same _ _ ho ht (.inl hc')).trans ho.symm)).trans hf
/-- what lay below n0 -/
theorem Moves.below {n0 n : Nat} {T : Nat → Prop} {w A B : World} (h : Moves n0 T A B) (hb : Below n w A) (hw : n ≤ w.heap.size) (hn : n ≤ n0) (hT : ∀ k, T k → n ≤ k) : Below n w B :=
  ⟨h.os.trans hb.os, h.tape.trans hb.tape, h.output.trans hb.output, Nat.le_trans hb.size h.size, fun k hk => by
    have e := hb.block k hk
    have hlt : k < w.heap.size := by omega
    rw [Array.getElem?_eq_getElem hlt] at e ⊢
    exact h.same k _ e (fun t => by have := hT k t; omega) (.inr (by omega))⟩
theorem Turns.down {n : Nat} {T : Nat → Prop} {A B : World} (h : Turns T A B) (hn : n ≤ A.heap.size) (hT : ∀ k, T k → n ≤ k) : Below n A B :=
  (h.moves n).below (Below.refl _ _) hn (Nat.le_refl _) hT
theorem Moves.block {n0 : Nat} {T : Nat → Prop} {A B : World} (h : Moves n0 T A B) {k : Nat} {o : Obj} (hk : A.heap[k]? = some o) (hc : o.isCells = true) (ht : ¬ T k) : B.heap[k]? = some o := h.same _ _ hk ht (.inl hc)
theorem Turns.of_below {T : Nat → Prop} {A B : World} (hb : Below A.heap.size A B) : Turns T A B := (Turns.refl T A).below hb

theorem below_turns {w W W' : World} {b : Nat} (h : Below w.heap.size w W) (k : Turns (· = b) W W') (hb : w.heap.size ≤ b) : Below w.heap.size w W' :=
  h.trans (k.down h.size (fun _ e => by subst e; exact hb))
theorem Blk.turned {W W' : World} {g b : Nat} {t : TypeId} {cs : Array Value} (h : Blk W g t cs) (k : Turns (· = b) W W') (hg : g ≠ b) : Blk W' g t cs := k.same _ _ h (.inl hg)
/-- THE ITERATOR's CONTRACT at the world W of its call: between two rounds it turns cells of T alone; the body turns those of U alone. Y: what the iterator lays at a round's begin; S: where all have come; Sp: where it was stopped. -/
def SeqM {α : Type} (F : Fence) (n : Nat) (P : Program) (g : Nat) (lb : Array Value) (encs : α → Array Value) (n0 : Nat) (T U : Nat → Prop) (Y : List α → α → World → Prop) (S Sp : List α → World → Prop) (W : World) : Prop :=
  ∀ (l : Nat) (J Jx : List α → World → Prop), (∀ s A B, J s A → Turns T A B → J s B) → (∀ s A B, Jx s A → Turns T A B → Jx s B) →
    (∀ pre x W1, J pre W1 → Y pre x W1 → YieldAt F (n - 1) P l (encs x) W1 fun e W' =>
      (e = .returned (.bool true) ∧ J (pre ++ [x]) W' ∧ Moves n0 U W1 W') ∨ (e = .returned (.bool false) ∧ Jx (pre ++ [x]) W' ∧ Moves n0 U W1 W')) →
    J [] W →
    CallsIn F n P g (#[.func (.yield l) #[] #[]] ++ lb) W fun e W' => (∃ v, e = .returned v) ∧ ((∃ xs, S xs W' ∧ J xs W') ∨ (∃ pre, Sp pre W' ∧ Jx pre W'))

/-- HOW THE BODY OF A ROUND MAY BE LEFT. -/
def postM {α : Type} (U : Nat → Prop) (I : List α → World → Prop) (Ix : Code → List α → World → Prop) (xs : List α) (W : World) : Exit → Act → World → Prop
  | .normal, _, W' => Turns U W W' ∧ I xs W'
  | .ret, _, W' => Turns U W W' ∧ Ix .ret xs W'
  | .exit id, _, W' => Turns U W W' ∧ Ix (.exit id) xs W'
  | .goto t, _, W' => Turns U W W' ∧ Ix (.goto t) xs W'
  | .panic _, _, _ => False
  | .outgrown, _, _ => False

variable {F : Fence} {n : Nat} {P : Program}
theorem wpIn_rangeFunc_M {α : Type} {g : Operand} {ps : Array Tmp} {assign body : Code} {Q : Exit → Act → World → Prop} {a : Act} {w : World}
    (hro : F.round = none) (h1 : 1 ≤ n) {gf : Nat} {lb : Array Value} (hg : a.eval g = .func (.func gf) #[] lb) (hFg : F.fn gf) (eg : ∀ args w, (callFunc gf args).run P w = .ok (.enter gf args) w)
    {encs : α → Array Value} {T U : Nat → Prop} {Y : List α → α → World → Prop} {S Sp : List α → World → Prop}
    (hseq : ∀ W1, Below w.heap.size w W1 → W1.heap.size = w.heap.size + 2 → SeqM F (n - 1) P gf lb encs w.heap.size T U Y S Sp W1)
    (hps : ∀ x, (encs x).size = ps.size)
    (I : List α → World → Prop) (Ix : Code → List α → World → Prop) (hI : ∀ s A B, I s A → Moves w.heap.size T A B → I s B) (hIx : ∀ c s A B, Ix c s A → Moves w.heap.size T A B → Ix c s B)
    (hS : ∀ s A B, S s A → Moves w.heap.size (fun _ => False) A B → S s B) (hSp : ∀ s A B, Sp s A → Moves w.heap.size (fun _ => False) A B → Sp s B) (h0 : I [] w)
    (Mid : List α → α → Act → World → Prop) (hMid : ∀ pre x a' A B, Mid pre x a' A → Moves w.heap.size (fun _ => False) A B → Mid pre x a' B)
    (hassign : ∀ (l : Nat) (pre : List α) (x : α) (W : World), I pre W → Y pre x W →
      assign.wpIn (F.inRound l) (n - 1 - 1) P (Exit.then (fun a' W' => Turns U W W' ∧ Mid pre x a' W') (fun _ _ _ => False)) { tmps := (ps.zip (encs x)).foldl (fun t (p, v) => t.setIfInBounds p v) a.tmps, defers := [] } W)
    (hbody : ∀ (l : Nat) (pre : List α) (x : α) (a' : Act) (W : World), w.heap.size ≤ l → Mid pre x a' W → body.wpIn (F.inRound l) (n - 1 - 1) P (postM U I Ix (pre ++ [x]) W) a' W)
    (hdone : ∀ (D : Nat) (xs : List α) (W : World), w.heap.size ≤ D → S xs W → I xs W → W.heap[D]? = some (.deferred (some [])) → Q .normal { a with defers := { target := .collected D, args := #[] } :: a.defers } W)
    (hstop : ∀ (D : Nat) (c : Code) (pre : List α) (W : World), w.heap.size ≤ D → Sp pre W → Ix c pre W → W.heap[D]? = some (.deferred (some [])) → c.wpIn F n P Q { a with defers := { target := .collected D, args := #[] } :: a.defers } W) :
    (Code.rangeFunc g ps assign body).wpIn F n P Q a w := by
  have hMv : ∀ {A B : World}, Moves w.heap.size (fun _ => False) A B → Moves w.heap.size T A B := fun h => h.mono (fun _ e => e.elim)
  have hMu : ∀ {A B : World}, Moves w.heap.size (fun _ => False) A B → Moves w.heap.size U A B := fun h => h.mono (fun _ e => e.elim)
  refine wpIn_rangeFunc ?_
  intro fn hfn
  rw [hro]
  obtain ⟨rec, hrec⟩ : ∃ rec : LoopState → Option Code → Loop, rec = fun st pe => { state := st, pending := pe, fn, tmps := a.tmps, params := ps, assign, body, defers := w.heap.size } := ⟨_, rfl⟩
  obtain ⟨W1, hW1⟩ : ∃ W1, (w.alloc (.deferred (some []))).alloc (.loop (rec .ready none)) = W1 := ⟨_, rfl⟩
  have hL1 : W1.heap[w.heap.size + 1]? = some (.loop (rec .ready none)) := by
    rw [← hW1]; have := World.alloc_heap_new (w.alloc (.deferred (some []))) (.loop (rec .ready none)); rwa [World.size_alloc] at this
  have hK1 : W1.heap[w.heap.size]? = some (.deferred (some [])) := by
    rw [← hW1]; exact (Below.heap_alloc _ _ _ (by simp)).trans (World.alloc_heap_new w _)
  have hI1 : I [] W1 := by rw [← hW1]; exact hI _ _ _ h0 (((Moves.refl _ _ w).alloc _).alloc _)
  have hb1 : Below w.heap.size w W1 := by rw [← hW1]; exact ((Below.refl _ w).alloc (Nat.le_refl _) _).alloc (by simp) _
  have hs1 : W1.heap.size = w.heap.size + 2 := by rw [← hW1]; simp
  refine ⟨w.heap.size + 1, [{ target := .collected w.heap.size, args := #[] }], W1, { target := .fn (.func gf) lb, args := #[.func (.yield (w.heap.size + 1)) #[] #[]] }, W1, gf,
    #[.func (.yield (w.heap.size + 1)) #[] #[]] ++ lb, W1, ?_, ?_, ?_, ?_, fun _ => h1, ?_⟩
  · rw [← hW1, hrec]; exact run_enterLoop_outer _ _ _ _ _
  · simp only [resolve, hg]
    simp [go_sem]
  · intro f' hf'; simp [Target.leads] at hf'; subst hf'; exact hFg
  · simp [invoke, go_sem, eg]
  · refine (hseq W1 hb1 hs1 (w.heap.size + 1)
      (fun pre W => I pre W ∧ W.heap[w.heap.size + 1]? = some (.loop (rec .ready none)) ∧ W.heap[w.heap.size]? = some (.deferred (some [])))
      (fun pre W => ∃ c, Ix c pre W ∧ W.heap[w.heap.size + 1]? = some (.loop (rec .done (some c))) ∧ W.heap[w.heap.size]? = some (.deferred (some [])))
      (fun s A B hs ht => ⟨hI s A B hs.1 (ht.moves _), ht.same _ _ hs.2.1 (.inr rfl), ht.same _ _ hs.2.2 (.inr rfl)⟩)
      (fun s A B hs ht => by
        obtain ⟨c, hc, hl, hk⟩ := hs
        exact ⟨c, hIx c s A B hc (ht.moves _), ht.same _ _ hl (.inr rfl), ht.same _ _ hk (.inr rfl)⟩)
      ?_ ⟨hI1, hL1, hK1⟩).mono ?_
    · rintro pre x W ⟨hi, hl, hk⟩ hYx
      have hy := run_yield (P := P) (args := encs x) hl (by rw [hrec]; exact hps x)
      rw [hrec] at hy
      refine ⟨fn, _, assign, body, hy, roundIn_of_wpIn hfn (wpIn_mono (hassign _ pre x W hi hYx) ?_)⟩
      clear hy
      intro e a' Wa hpost
      cases e with
      | normal =>
        obtain ⟨hta, hmid⟩ := hpost
        have hl' := hta.same _ _ hl (.inr rfl)
        have hk' := hta.same _ _ hk (.inr rfl)
        have hlt : w.heap.size + 1 < Wa.heap.size := (Array.getElem?_eq_some_iff.1 hl').1
        refine ⟨_, run_beginRound hl' (by rw [hrec]), ?_⟩
        have hl2 : (Wa.putObj (w.heap.size + 1) (.loop { rec .ready none with state := .busy })).heap[w.heap.size + 1]? = some (.loop { rec .ready none with state := .busy }) := World.putObj_heap_same hlt
        have hk2 : (Wa.putObj (w.heap.size + 1) (.loop { rec .ready none with state := .busy })).heap[w.heap.size]? = some (.deferred (some [])) := (World.putObj_heap_other (by omega)).trans hk'
        have hw2 : Moves w.heap.size (fun _ => False) Wa (Wa.putObj (w.heap.size + 1) (.loop { rec .ready none with state := .busy })) := Moves.putObj _ _ hl' rfl (by omega)
        refine wpIn_mono (hbody _ pre x a' _ (by omega) (hMid _ _ _ _ _ hmid hw2)) ?_
        have fin : ∀ (jump : Option Code) (W3 : World), Turns U (Wa.putObj (w.heap.size + 1) (.loop { rec .ready none with state := .busy })) W3 →
            (Instr.endRound (w.heap.size + 1) jump).run P W3 = .ok (.bool jump.isNone) (W3.putObj (w.heap.size + 1) (.loop (rec (if jump.isNone then .ready else .done) jump))) ∧
            Moves w.heap.size (fun _ => False) W3 (W3.putObj (w.heap.size + 1) (.loop (rec (if jump.isNone then .ready else .done) jump))) ∧
            Moves w.heap.size U W (W3.putObj (w.heap.size + 1) (.loop (rec (if jump.isNone then .ready else .done) jump))) ∧
            (W3.putObj (w.heap.size + 1) (.loop (rec (if jump.isNone then .ready else .done) jump))).heap[w.heap.size + 1]? = some (.loop (rec (if jump.isNone then .ready else .done) jump)) ∧
            (W3.putObj (w.heap.size + 1) (.loop (rec (if jump.isNone then .ready else .done) jump))).heap[w.heap.size]? = some (.deferred (some [])) := fun jump W3 hk3 => by
          have hl3 := hk3.same _ _ hl2 (.inr rfl)
          have hmv : Moves w.heap.size (fun _ => False) W3 (W3.putObj (w.heap.size + 1) (.loop (rec (if jump.isNone then .ready else .done) jump))) := Moves.putObj _ _ hl3 rfl (by omega)
          have := run_endRound (P := P) jump hl3
          rw [hrec] at this ⊢
          rw [hrec] at hmv
          exact ⟨this, hmv, (((hta.moves _).trans (hMu hw2)).trans (hk3.moves _)).trans (hMu hmv), World.putObj_heap_same (Array.getElem?_eq_some_iff.1 hl3).1, (World.putObj_heap_other (by omega)).trans (hk3.same _ _ hk2 (.inr rfl))⟩
        rintro e a3 W3 hp
        cases e with
        | normal =>
          obtain ⟨hk3, hi3⟩ := hp
          obtain ⟨hr, hm3, hu3, hl4, hk4⟩ := fin none W3 hk3
          exact ⟨_, _, hr, .inl ⟨rfl, ⟨hI _ _ _ hi3 (hMv hm3), hl4, hk4⟩, hu3⟩⟩
        | ret =>
          obtain ⟨hk3, hi3⟩ := hp
          obtain ⟨hr, hm3, hu3, hl4, hk4⟩ := fin (some .ret) W3 hk3
          exact ⟨_, _, hr, .inr ⟨rfl, ⟨.ret, hIx _ _ _ _ hi3 (hMv hm3), hl4, hk4⟩, hu3⟩⟩
        | exit id =>
          obtain ⟨hk3, hi3⟩ := hp
          obtain ⟨hr, hm3, hu3, hl4, hk4⟩ := fin (some (.exit id)) W3 hk3
          exact ⟨_, _, hr, .inr ⟨rfl, ⟨.exit id, hIx _ _ _ _ hi3 (hMv hm3), hl4, hk4⟩, hu3⟩⟩
        | goto t =>
          obtain ⟨hk3, hi3⟩ := hp
          obtain ⟨hr, hm3, hu3, hl4, hk4⟩ := fin (some (.goto t)) W3 hk3
          exact ⟨_, _, hr, .inr ⟨rfl, ⟨.goto t, hIx _ _ _ _ hi3 (hMv hm3), hl4, hk4⟩, hu3⟩⟩
        | panic ch => exact hp.elim
        | outgrown => exact hp.elim
      | ret => exact hpost.elim
      | exit id => exact hpost.elim
      | goto t => exact hpost.elim
      | panic ch => exact hpost.elim
      | outgrown => exact hpost.elim
    · rintro e W2 ⟨⟨v, rfl⟩, (⟨xs, hSx, hi, hl, hk⟩ | ⟨pre, hSpx, c, hi, hl, hk⟩)⟩
      · have hm : Moves w.heap.size (fun _ => False) W2 (W2.putObj (w.heap.size + 1) (.loop { rec .ready none with state := .exhausted })) := Moves.putObj _ _ hl rfl (by omega)
        rw [hrec] at hm
        exact ⟨none, _, by have := run_endLoop (P := P) hl (by rw [hrec]; simp); rw [hrec] at this; exact this, hdone _ xs _ (Nat.le_refl _) (hS _ _ _ hSx hm) (hI _ _ _ hi (hMv hm)) ((World.putObj_heap_other (by omega)).trans hk)⟩
      · have hm : Moves w.heap.size (fun _ => False) W2 (W2.putObj (w.heap.size + 1) (.loop { rec .done (some c) with state := .exhausted })) := Moves.putObj _ _ hl rfl (by omega)
        rw [hrec] at hm
        exact ⟨some c, _, by have := run_endLoop (P := P) hl (by rw [hrec]; simp); rw [hrec] at this; exact this, hstop _ c pre _ (Nat.le_refl _) (hSp _ _ _ hSpx hm) (hIx _ _ _ _ hi (hMv hm)) ((World.putObj_heap_other (by omega)).trans hk)⟩
end Go.Proofs.YtbggaijjgnjknaaDoor
