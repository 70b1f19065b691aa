/-
  PACKAGE slots: isLive at one handle.
-/
import Derived.Test.YtgjnmpbahekbfaaDoorSlL
namespace Go.Proofs.YtgjnmpbahekbfaaDoor
open Go.RowKit Go.Shelf

attribute [local go_sem] Oper.semAt_some

theorem eq_hd (a b : Hd) (w : World) : (binOp .eql 28 (.agg #[.int .i64 a.slot, .int .i64 a.gen]) (.agg #[.int .i64 b.slot, .int .i64 b.gen])).run Tryd.prog w = .ok (.bool (decide (a = b))) w := by
  obtain ⟨p, q⟩ := a
  obtain ⟨r, s⟩ := b
  by_cases h0 : p = r
  · by_cases h1 : q = s
    · go_simp
    · go_simp
  · go_simp
theorem live_fn (sb : Nat) (w : World) :
    Calls Tryd.prog 27 #[.pointer (some ⟨sb, 0, none⟩)] w fun e w' => e = .returned (.func (.func 35) #[] #[.pointer (some ⟨w.heap.size, 0, none⟩)]) ∧
      w.alloc (.cells #[.pointer (some ⟨sb, 0, none⟩)] 23) = w' := by
  go_enter Tryd.func27, Tryd.ntmps27
  go_wp2
  go_ret
  exact ⟨rfl, rfl⟩
/-- what isLive's inner loop keeps -/
structure Found (w : World) (xb fb : Nat) (x : Hd) (f : Bool) (W : World) : Prop where
  below : Below w.heap.size w W
  x : Blk W xb 28 #[.int .i64 x.slot, .int .i64 x.gen]
  f : Blk W fb 4 #[.bool f]
theorem Found.moves {n0 : Nat} {T : Nat → Prop} {w A B : World} {xb fb : Nat} {x : Hd} {f : Bool} (h : Found w xb fb x f A) (m : Moves n0 T A B) (hT : ∀ k, T k → False) (hn : w.heap.size ≤ n0) : Found w xb fb x f B :=
  ⟨m.below h.below (Nat.le_refl _) hn (fun k t => (hT k t).elim), m.block h.x rfl (fun t => hT _ t), m.block h.f rfl (fun t => hT _ t)⟩
theorem Found.set {w W : World} {xb fb : Nat} {x : Hd} {f : Bool} (h : Found w xb fb x f W) (hw : w.heap.size ≤ fb) (hne : xb ≠ fb) {g b : Bool} (hb : b = g) : Turns (· = fb) W (W.setCell ⟨fb, 0, none⟩ (.bool g)) ∧ Found w xb fb x b (W.setCell ⟨fb, 0, none⟩ (.bool g)) := by
  subst hb
  exact ⟨(Turns.refl (· = fb) W).setCell (p := ⟨fb, 0, none⟩) rfl _, below_set h.below hw _, h.x.far hne _, h.f.set' rfl⟩
set_option maxRecDepth 100000 in
set_option maxHeartbeats 8000000 in
theorem isLive_in (n : Nat) (hn : 3 ≤ n) (sb gb tb hb : Nat) (v : Value) (gen : List Int) (tk : List Bool) (un : Int) (x : Hd) (w : World)
    (hs : Blk w sb 57 (slotsC v (.slice (some ⟨gb, 0, none⟩) gen.length gen.length) (.slice (some ⟨tb, 0, none⟩) gen.length gen.length) un)) (hg : Blk w gb 3 ⟨gen.map vI⟩) (ht : Blk w tb 4 ⟨tk.map vB⟩)
    (htl : tk.length = gen.length) (hle : gen.length ≤ 900) (hx : Blk w hb 28 #[.int .i64 x.slot, .int .i64 x.gen]) :
    CallsIn Fence.wide n Tryd.prog 28 #[.pointer (some ⟨sb, 0, none⟩), .slice (some ⟨hb, 0, none⟩) 1 1] w fun e w' => e = .returned (.bool (decide (x ∈ liveTo gen tk gen.length))) ∧ Below w.heap.size w w' := by
  have h1 : 1 ≤ n := by omega
  have HS := Lib.hid hs
  have HG := Lib.hid hg
  have HT := Lib.hid ht
  have HX := Lib.hid hx
  have hsl := hs.lt
  have hgl := hg.lt
  have htl2 := ht.lt
  have hxl := hx.lt
  clear hs hg ht hx
  refine callsIn_of_wp_marks Tryd.func28 rfl trivial ?_ rfl
  simp only [Tryd.ntmps28, List.size_toArray, List.length_cons, List.length_nil, Nat.reduceAdd, Nat.reduceSub, Array.replicate_succ, Array.replicate_zero, List.push_toArray, List.append_toArray, List.nil_append, List.cons_append]
  have p0 := HX.out.at_ (i := 0) (v := .int .i64 x.slot) rfl
  have p1 := HX.out.at_ (i := 1) (v := .int .i64 x.gen) rfl
  gi_wp2_with fail
  refine wpIn_loop_rounds 2 ?_
  rw [roundsIn_succ]
  gi_wp2_with fail
  refine ⟨trivial, ?_⟩
  refine (callsIn_wide.2 (live_fn sb _)).mono ?_
  rintro e w3 ⟨rfl, rfl⟩
  gi_wp2_with fail
  obtain ⟨W0, hW⟩ : ∃ W0, ((w.alloc (.cells #[.int .i64 x.slot, .int .i64 x.gen] 28)).alloc (.cells #[.bool false] 4)).alloc (.cells #[.pointer (some ⟨sb, 0, none⟩)] 23) = W0 := ⟨_, rfl⟩
  have hB0 : Below w.heap.size w W0 := by rw [← hW]; exact below_alloc (below_alloc (below_alloc (Below.refl _ _) _) _) _
  have hxb : Blk W0 w.heap.size 28 #[.int .i64 x.slot, .int .i64 x.gen] := by
    rw [← hW]; exact ((Blk.new' rfl).alloc _).alloc _
  have hfb : Blk W0 (w.heap.size + 1) 4 #[.bool false] := by
    rw [← hW]; exact (Blk.new' (w := w.alloc _) (by simp)).alloc _
  have hbt : Blk W0 (w.heap.size + 1 + 1) 23 #[.pointer (some ⟨sb, 0, none⟩)] := by
    rw [← hW]; exact Blk.new' (w := (w.alloc _).alloc _) (by simp)
  have hs0 : W0.heap.size = w.heap.size + 3 := by rw [← hW]; simp
  rw [hW]
  clear hW
  have HE : LiveEnv W0 (w.heap.size + 1 + 1) sb gb tb v gen tk un := ⟨hbt, HS.out.after hB0, HG.out.after hB0, HT.out.after hB0⟩
  generalize e2 : w.heap.size + 1 + 1 = bt at *
  generalize e1 : w.heap.size + 1 = fb at *
  have HF : Found w w.heap.size fb x (decide (x ∈ [])) W0 := ⟨hB0, hxb, by simpa using hfb⟩
  have hUn : ∀ b, b = bt ∨ b = sb ∨ b = gb ∨ b = tb → ¬ b = fb := by omega
  have HU := Lib.hid hUn
  have HEN := Lib.hid HE
  have HF0 := Lib.hid HF
  clear hbt hxb hfb hUn HE HF p0 p1
  refine wpIn_rangeFunc_M rfl h1 (gf := 35) (lb := #[.pointer (some ⟨bt, 0, none⟩)]) rfl trivial (enters_of Tryd.func35 (by kernel_rfl) rfl)
    (encs := encH) (T := fun _ => False) (U := fun k => k = fb) (Y := fun pre _ _ => pre.length < 900) (S := fun xs _ => xs = liveTo gen tk gen.length) (Sp := fun _ _ => True)
    (fun W1 hb hs => ?seq) (fun _ => rfl)
    (fun pre W => Found w w.heap.size fb x (decide (x ∈ pre)) W) (fun _ _ _ => False) (fun pre A B h m => h.moves m (fun _ t => t) (by omega)) (fun _ _ _ _ h _ => h) (fun _ _ _ h _ => h) (fun _ _ _ h _ => h) HF0.out
    (fun pre y a' W => Found w w.heap.size fb x (decide (x ∈ pre)) W ∧ ∃ yb, Blk W yb 28 #[.int .i64 y.slot, .int .i64 y.gen] ∧ yb ≠ fb ∧ a' = { tmps := #[.pointer (some ⟨sb, 0, none⟩), .slice (some ⟨hb, 0, none⟩) 1 1, undef, undef, .bool false, undef, .pointer (some ⟨w.heap.size, 0, none⟩), .pointer (some ⟨fb, 0, none⟩), .pointer (some ⟨yb, 0, none⟩), .slice (some ⟨hb, 0, none⟩) 1 1, .int .i64 1, .int .i64 0, .bool true, .pointer (some ⟨hb, 0, none⟩), .agg #[.int .i64 x.slot, .int .i64 x.gen], .pointer (some ⟨sb, 0, none⟩), .func (.func 35) #[] #[.pointer (some ⟨bt, 0, none⟩)], .agg #[.int .i64 y.slot, .int .i64 y.gen], undef, undef, undef, undef, undef, undef, undef, undef, undef], defers := [] })
    (fun pre k a' A B h m => ⟨h.1.moves m (fun _ t => t) (by omega), h.2.elim fun yb hy => ⟨yb, m.block hy.1 rfl (fun t => t), hy.2⟩⟩) ?hassign ?hbody ?hdone ?hstop
  case seq =>
    exact live_seq (n - 1) (by omega) bt sb gb tb W0.heap.size v gen tk un W1 _ (HEN.out.keepT (Turns.of_below hb) (fun b _ h => h)) htl hle HU.out
  case hassign =>
    intro lp pre y W hi hy
    simp only [encH]
    gi_wp2
    exact ⟨(Turns.refl _ W).alloc _, hi.moves (((Turns.refl (fun _ => False) W).alloc _).moves W.heap.size) (fun _ t => t) hi.below.size, W.heap.size, Blk.new' rfl, by have := hi.f.lt; omega, rfl⟩
  case hbody =>
    rintro lp pre y a' W hlp ⟨hF, yb, hy, hne, rfl⟩
    have q0 := hF.f.at_ (i := 0) (v := .bool (decide (x ∈ pre))) rfl
    have q1 := hF.f.frozen 0
    have q2 := hF.x.at_ (i := 0) (v := .int .i64 x.slot) rfl
    have q3 := hF.x.at_ (i := 1) (v := .int .i64 x.gen) rfl
    have q4 := hy.at_ (i := 0) (v := .int .i64 y.slot) rfl
    have q5 := hy.at_ (i := 1) (v := .int .i64 y.gen) rfl
    have HFF := Lib.hid hF
    have hfl : w.heap.size ≤ fb := by omega
    have hfn : w.heap.size ≠ fb := by omega
    clear hF hy
    cases hd : decide (x ∈ pre)
    · rw [hd] at q0
      have HD := Lib.hid (of_decide_eq_false hd)
      clear hd
      by_cases hyx : y = x
      · subst hyx
        gi_wp2_with fail
        exact HFF.out.set hfl hfn (by simp)
      · have HYX := Lib.hid hyx
        by_cases h0 : y.slot = x.slot
        · have h2 : ¬ y.gen = x.gen := fun e => HYX.out (by cases y; cases x; simp_all)
          clear hyx
          gi_wp2_with fail
          exact HFF.out.set hfl hfn (by simp [HD.out, Ne.symm HYX.out])
        · clear hyx
          gi_wp2_with fail
          exact HFF.out.set hfl hfn (by simp [HD.out, Ne.symm HYX.out])
    · rw [hd] at q0
      have HD := Lib.hid (of_decide_eq_true hd)
      clear hd
      gi_wp2_with fail
      exact HFF.out.set hfl hfn (by simp [HD.out])
  case hdone =>
    rintro D ys W hD rfl hF hK
    have q0 := hF.f.at_ (i := 0) (v := .bool (decide (x ∈ liveTo gen tk gen.length))) rfl
    cases hd : decide (x ∈ liveTo gen tk gen.length)
    · rw [hd] at q0
      gi_wp2_with fail
      refine ⟨by simp, .inl ⟨_, _, rfl, run_takeDeferred hK, ?_⟩⟩
      refine ⟨_, results_tmp rfl _ _ _, ?_, hF.below.trans (belowK_b (w := w) (Nat.le_refl _) W D _ _ (by omega) hK rfl rfl)⟩
      exact congrArg (fun b => Ending.returned (Value.bool b)) hd.symm
    · rw [hd] at q0
      gi_wp2_with fail
      rw [roundsIn_succ]
      gi_wp2_with fail
      refine ⟨by simp, .inl ⟨_, _, rfl, run_takeDeferred hK, ?_⟩⟩
      refine ⟨_, results_tmp rfl _ _ _, ?_, hF.below.trans (belowK_b (w := w) (Nat.le_refl _) W D _ _ (by omega) hK rfl rfl)⟩
      exact congrArg (fun b => Ending.returned (Value.bool b)) hd.symm
  case hstop =>
    rintro D c pre W _ _ h _
    exact h.elim
theorem isLive_any (sb gb tb hb : Nat) (v : Value) (gen : List Int) (tk : List Bool) (un : Int) (x : Hd) (w : World)
    (hs : Blk w sb 57 (slotsC v (.slice (some ⟨gb, 0, none⟩) gen.length gen.length) (.slice (some ⟨tb, 0, none⟩) gen.length gen.length) un)) (hg : Blk w gb 3 ⟨gen.map vI⟩) (ht : Blk w tb 4 ⟨tk.map vB⟩)
    (htl : tk.length = gen.length) (hle : gen.length ≤ 900) (hx : Blk w hb 28 #[.int .i64 x.slot, .int .i64 x.gen]) :
    Calls Tryd.prog 28 #[.pointer (some ⟨sb, 0, none⟩), .slice (some ⟨hb, 0, none⟩) 1 1] w fun e w' => e = .returned (.bool (decide (x ∈ liveTo gen tk gen.length))) ∧ Below w.heap.size w w' :=
  callsIn_wide.1 (isLive_in 3 (Nat.le_refl _) sb gb tb hb v gen tk un x w hs hg ht htl hle hx)
end Go.Proofs.YtgjnmpbahekbfaaDoor
