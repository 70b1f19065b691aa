/-
  PACKAGE slots: take, where one is left.
-/
import Derived.Test.YtgjnmpbahekbfaaDoorSlI
namespace Go.Proofs.YtgjnmpbahekbfaaDoor
open Go.RowKit

attribute [local go_sem] assertI

theorem Blk.keepT {W W' : World} {g : Nat} {t : TypeId} {cs : Array Value} {T : Nat → Prop} (h : Blk W g t cs) (k : Turns T W W') (hg : ¬ T g) : Blk W' g t cs := k.same _ _ h (.inl hg)
theorem HeapAt.keepT {base : Nat} {W W' : World} {v : Value} {h : List Int} {T : Nat → Prop} (H : HeapAt base W v h) (k : Turns T W W') (hg : ∀ g, v.ownBlock = some g → ¬ T g) : HeapAt base W' v h := by
  rcases H with ⟨h0, ⟨h1, h2⟩ | ⟨g, cap, cs, hv, hb, hh, h1, h2, h3, h4⟩⟩
  · exact ⟨h0, .inl ⟨h1, h2⟩⟩
  · exact ⟨h0, .inr ⟨g, cap, cs, hv, hb, k.same _ _ hh (.inl (hg g (by rw [hv]; rfl))), h1, h2, h3, h4⟩⟩
theorem HeapAt.own_lt {base : Nat} {W : World} {v : Value} {h : List Int} (H : HeapAt base W v h) {g : Nat} (hg : v.ownBlock = some g) : base ≤ g ∧ g < W.heap.size := by
  rcases H with ⟨h0, ⟨rfl, h2⟩ | ⟨g', cap, cs, rfl, hb, hh, h1, h2, h3, h4⟩⟩
  · cases hg
  · cases hg
    exact ⟨hb, (Array.getElem?_eq_some_iff.1 hh).1⟩
theorem HeapAt.own_ne {base sb : Nat} {t : TypeId} {xs : Array Value} {W : World} {v : Value} {h : List Int} (H : HeapAt base W v h) (k : Blk W sb t xs) (ht : t ≠ 3) {g : Nat} (hg : v.ownBlock = some g) : g ≠ sb := by
  rcases H with ⟨h0, ⟨rfl, h2⟩ | ⟨g', cap, cs, rfl, hb, hh, h1, h2, h3, h4⟩⟩
  · cases hg
  · cases hg
    exact Ne.symm (blk_apart k hh ht)
theorem HeapAt.alloc {base : Nat} {W : World} {v : Value} {h : List Int} (H : HeapAt base W v h) (o : Obj) : HeapAt base (W.alloc o) v h := H.keepT (T := fun _ => False) ((Turns.refl _ W).alloc o) (fun _ _ => id)
theorem HeapAt.form {base : Nat} {W : World} {v : Value} {h : List Int} (H : HeapAt base W v h) : ∃ A c, v = .slice A h.length c := by
  rcases H with ⟨h0, ⟨rfl, h2⟩ | ⟨g', cap, cs, rfl, _⟩⟩
  · exact ⟨none, 0, by rw [h2]⟩
  · exact ⟨_, _, rfl⟩
theorem set_map {α β : Type} (f : α → β) (l : List α) (i : Nat) (x : α) : (⟨l.map f⟩ : Array β).setIfInBounds i (f x) = ⟨(l.set i x).map f⟩ := by
  rw [List.setIfInBounds_toArray, List.map_set]
abbrev vB (b : Bool) : Value := .bool b
/-- slots as they lie: the block sb, the generations at gb, what is taken at tb, the heap v -/
structure SlotsAt (base : Nat) (w : World) (sb gb tb : Nat) (v : Value) (gen : List Int) (tk : List Bool) (h : List Int) (un : Int) : Prop where
  s : Blk w sb 57 (slotsC v (.slice (some ⟨gb, 0, none⟩) gen.length gen.length) (.slice (some ⟨tb, 0, none⟩) gen.length gen.length) un)
  h : HeapAt base w v h
  g : Blk w gb 3 ⟨gen.map vI⟩
  t : Blk w tb 4 ⟨tk.map vB⟩
  gl : gb < base
  tl : tk.length = gen.length
  bl : base ≤ w.heap.size
/-- what a turn of slots may touch -/
abbrev OwnS (sb gb tb : Nat) (v : Value) (n : Nat) (k : Nat) : Prop := k = sb ∨ k = gb ∨ k = tb ∨ v.ownBlock = some k ∨ n ≤ k
theorem map_get {α : Type} {f : α → Value} {l : List α} {i : Nat} {x : α} (h : l[i]? = some x) : (⟨l.map f⟩ : Array Value)[i]? = some (f x) := by
  rw [List.getElem?_toArray, List.getElem?_map, h]; rfl

set_option maxRecDepth 100000 in
set_option maxHeartbeats 8000000 in
theorem take_any (base sb gb tb i : Nat) (v : Value) (gen : List Int) (tk : List Bool) (h : List Int) (un x : Int) (b : Bool) (w : World) (H : SlotsAt base w sb gb tb v gen tk h un) (hn : h ≠ []) (hle : h.length ≤ 900)
    (hi : at0 (popL h) (h.length - 1) = (i : Int)) (hx : gen[i]? = some x) (hb : tk[i]? = some b) (hgl : gen.length ≤ 900) (hx0 : 0 ≤ x ∧ x < 1000) (hun : 0 ≤ un ∧ un < 1000) :
    Calls Tryd.prog 23 #[.pointer (some ⟨sb, 0, none⟩)] w fun e w' => e = .returned (.tuple #[.agg #[.int .i64 i, .int .i64 (x + 1)], .nilIface]) ∧ ∃ v', SlotsAt base w' sb gb tb v' (gen.set i (x + 1)) (tk.set i true) ((popL h).take (h.length - 1)) (un + 1) ∧ v'.ownBlock = v.ownBlock ∧ Turns (OwnS sb gb tb v w.heap.size) w w' := by
  obtain ⟨A, c, hv⟩ := H.h.form
  have hil : i < gen.length := (List.getElem?_eq_some_iff.1 hx).1
  have hsl : sb < w.heap.size := H.s.lt
  have hgl2 : gb < w.heap.size := H.g.lt
  have htl2 : tb < w.heap.size := H.t.lt
  have n1 : sb ≠ gb := blk_apart H.s H.g (by decide)
  have n2 : sb ≠ tb := blk_apart H.s H.t (by decide)
  have n3 : tb ≠ gb := blk_apart H.t H.g (by decide)
  have hpos : h.length ≠ 0 := fun e => hn (List.length_eq_zero_iff.1 e)
  have hg1 : ¬ Own sb v (w.heap.size + 1) gb := by
    rintro (e | e | e)
    · exact n1 e.symm
    · have := H.gl; have := (H.h.own_lt e).1; omega
    · omega
  have ht1 : ¬ Own sb v (w.heap.size + 1) tb := by
    rintro (e | e | e)
    · exact n2 e.symm
    · exact H.h.own_ne H.t (by decide) e rfl
    · omega
  have hr1 : ¬ Own sb v (w.heap.size + 1) w.heap.size := by
    rintro (e | e | e)
    · omega
    · have := (H.h.own_lt e).2; omega
    · omega
  have e1 : wrap64 (x + 1) = x + 1 := by unfold wrap64; omega
  have e1' : IntKind.i64.wrap (x + 1) = x + 1 := by rw [wrapIs]; exact e1
  have e2 : (0 : Int) ≤ (i : Int) := by omega
  have e3 : (i : Int) < (gen.length : Int) := by omega
  have e4 : wrap64 (un + 1) = un + 1 := by unfold wrap64; omega
  have HH := Lib.hid H
  have HV := Lib.hid hv
  have HHN := Lib.hid hn
  have HLE := Lib.hid hle
  have HI := Lib.hid hi
  have HX := Lib.hid hx
  have HB := Lib.hid hb
  have HGL := Lib.hid hgl
  have p0 : (w.alloc (.cells #[.int .i64 0, .int .i64 0] 28)).cell? ⟨sb, 0, none⟩ = some (.slice A h.length c) := (H.s.alloc _).at_ (i := 0) (by rw [hv]; rfl)
  have ez : (((h.length : Int)) == 0) = false := by simp; omega
  clear H hv hn hle hi hx hb hgl
  go_enter Tryd.func23, Tryd.ntmps23
  go_wp2_with fail
  refine (Len_any sb h.length c A _ p0).mono ?_
  rintro e w' ⟨rfl, rfl⟩
  clear p0
  go_wp2_with fail
  refine (HPop_any base sb v _ _ un h _ (HH.out.s.alloc _) (HH.out.h.alloc _) HHN.out HLE.out).mono ?_
  rintro e w1 ⟨rfl, g, c1, hv1, hS1, hH1, hT1⟩
  rw [show ((w.alloc (.cells #[.int .i64 0, .int .i64 0] 28)).heap.size) = w.heap.size + 1 from Array.size_push _] at hT1
  rw [HI.out]
  have G1 := Lib.hid ((HH.out.g.alloc _).keepT hT1 hg1)
  have T1 := Lib.hid ((HH.out.t.alloc _).keepT hT1 ht1)
  have R1 := Lib.hid ((Blk.new' (w := w) (t := 28) (cs := #[.int .i64 0, .int .i64 0]) rfl).keepT hT1 hr1)
  have S1 := Lib.hid hS1
  have H1 := Lib.hid hH1
  have HT1 := Lib.hid hT1
  have HV1 := Lib.hid hv1
  clear hS1 hH1 hT1 hv1
  have q1 := S1.out.at_ (i := 1) (v := .slice (some ⟨gb, 0, none⟩) gen.length gen.length) rfl
  have q2 := S1.out.at_ (i := 2) (v := .slice (some ⟨tb, 0, none⟩) gen.length gen.length) rfl
  have q3 : w1.cell? ⟨gb, i, none⟩ = some (.int .i64 x) := G1.out.at_ (map_get HX.out)
  have q4 := G1.out.frozen i
  have q5 : w1.cell? ⟨tb, i, none⟩ = some (.bool b) := T1.out.at_ (map_get HB.out)
  have q6 := T1.out.frozen i
  go_wp2_with fail
  have S2 : Blk ((w1.setCell ⟨gb, i, none⟩ (.int .i64 (x + 1))).setCell ⟨tb, i, none⟩ (.bool true)) sb 57 _ := (S1.out.far n1 _).far n2 _
  refine (Add_any sb 3 un 1 _ (S2.at_ rfl) (S2.frozen 3)).mono ?_
  rintro e w4 ⟨rfl, hw4⟩
  rw [e4] at hw4 ⊢
  have m1 : w.heap.size ≠ gb := by omega
  have m2 : w.heap.size ≠ tb := by omega
  have m3 : w.heap.size ≠ sb := by omega
  have S4 : Hid (Blk w4 sb 57 (slotsC (.slice (some ⟨g, 0, none⟩) (h.length - 1) c1) (.slice (some ⟨gb, 0, none⟩) gen.length gen.length) (.slice (some ⟨tb, 0, none⟩) gen.length gen.length) (un + 1))) := Lib.hid (by rw [hw4]; exact S2.set' rfl)
  have G4 : Hid (Blk w4 gb 3 ⟨(gen.set i (x + 1)).map vI⟩) := Lib.hid (by rw [hw4]; exact ((G1.out.set' (set_map vI gen i (x + 1))).far (Ne.symm n3) _).far (Ne.symm n1) _)
  have T4 : Hid (Blk w4 tb 4 ⟨(tk.set i true).map vB⟩) := Lib.hid (by rw [hw4]; exact ((T1.out.far n3 _).set' (set_map vB tk i true)).far (Ne.symm n2) _)
  have R4 : Hid (Blk w4 w.heap.size 28 #[.int .i64 0, .int .i64 0]) := Lib.hid (by rw [hw4]; exact ((R1.out.far m1 _).far m2 _).far m3 _)
  have TT : Turns (fun k => k = gb ∨ k = tb ∨ k = sb) w1 w4 := by
    rw [hw4]
    exact (((Turns.refl _ w1).setCell (p := ⟨gb, i, none⟩) (.inl rfl) _).setCell (p := ⟨tb, i, none⟩) (.inr (.inl rfl)) _).setCell (p := ⟨sb, 3, none⟩) (.inr (.inr rfl)) _
  have hgne : g ≠ gb ∧ g ≠ tb ∧ g ≠ sb ∧ g < w.heap.size := by
    have hl := HH.out.h.own_lt HV1.out
    refine ⟨?_, HH.out.h.own_ne HH.out.t (by decide) HV1.out, HH.out.h.own_ne HH.out.s (by decide) HV1.out, hl.2⟩
    have := HH.out.gl; omega
  have H4 : Hid (HeapAt base w4 (.slice (some ⟨g, 0, none⟩) (h.length - 1) c1) ((popL h).take (h.length - 1))) := Lib.hid (H1.out.keepT TT (by
    rintro g' hg' (e | e | e)
    · cases hg'; exact hgne.1 e
    · cases hg'; exact hgne.2.1 e
    · cases hg'; exact hgne.2.2.1 e))
  have HT4 := Lib.hid TT
  have HGN := Lib.hid hgne
  clear hw4 S2 q1 q2 q3 q4 q5 q6 TT hgne
  have r1 := S4.out.at_ (i := 1) (v := .slice (some ⟨gb, 0, none⟩) gen.length gen.length) rfl
  have r2 : w4.cell? ⟨gb, i, none⟩ = some (.int .i64 (x + 1)) := G4.out.at_ (map_get (List.getElem?_set_self hil))
  have k0 := R4.out.at_ (i := 0) (v := .int .i64 0) rfl
  have k1 := R4.out.at_ (i := 1) (v := .int .i64 0) rfl
  have f0 := R4.out.frozen 0
  have f1 := R4.out.frozen 1
  go_wp2_with fail
  have R5 : Blk ((w4.setCell ⟨w.heap.size, 0, none⟩ (.int .i64 i)).setCell ⟨w.heap.size, 1, none⟩ (.int .i64 (x + 1))) w.heap.size 28 #[.int .i64 i, .int .i64 (x + 1)] := (R4.out.set' (i := 0) (cs' := #[.int .i64 i, .int .i64 0]) rfl).set' (i := 1) rfl
  have j0 := R5.at_ (i := 0) (v := .int .i64 i) rfl
  have j1 := R5.at_ (i := 1) (v := .int .i64 (x + 1)) rfl
  have U5 : Turns (· = w.heap.size) w4 ((w4.setCell ⟨w.heap.size, 0, none⟩ (.int .i64 i)).setCell ⟨w.heap.size, 1, none⟩ (.int .i64 (x + 1))) := ((Turns.refl (· = w.heap.size) w4).setCell (p := ⟨w.heap.size, 0, none⟩) rfl _).setCell (p := ⟨w.heap.size, 1, none⟩) rfl _
  refine bodyPost_ret (v := .tuple #[.agg #[.int .i64 i, .int .i64 (x + 1)], .nilIface]) (by simp [results, Tryd.results23, go_sem, j0, j1]) rfl ⟨rfl, .slice (some ⟨g, 0, none⟩) (h.length - 1) c1, ?_, HV1.out.symm, ?_⟩
  · have hl : (gen.set i (x + 1)).length = gen.length := List.length_set
    refine ⟨?_, H4.out.keepT U5 (fun g' hg' e => ?_), G4.out.keepT U5 (Ne.symm m1), T4.out.keepT U5 (Ne.symm m2), HH.out.gl, ?_, ?_⟩
    · rw [hl]; exact S4.out.keepT U5 (Ne.symm m3)
    · cases hg'; have := HGN.out.2.2.2; have e' : g = w.heap.size := e; omega
    · rw [List.length_set, hl]; exact HH.out.tl
    · have h1 := HT1.out.size
      have h2 := HT4.out.size
      have h3 := U5.size
      have h4 := HH.out.bl
      have h5 : (w.alloc (.cells #[.int .i64 0, .int .i64 0] 28)).heap.size = w.heap.size + 1 := Array.size_push _
      omega
  · refine ((((Turns.refl _ w).alloc _).trans (HT1.out.mono (fun k hk => ?_))).trans (HT4.out.mono (fun k hk => ?_))).trans (U5.mono (fun k hk => ?_))
    · rcases hk with e | e | e
      · exact .inl e
      · exact .inr (.inr (.inr (.inl e)))
      · exact .inr (.inr (.inr (.inr (by omega))))
    · rcases hk with e | e | e
      · exact .inr (.inl e)
      · exact .inr (.inr (.inl e))
      · exact .inl e
    · exact .inr (.inr (.inr (.inr (by omega))))
end Go.Proofs.YtgjnmpbahekbfaaDoor
