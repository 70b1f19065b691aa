/-
  THE WALKS OF PACKAGE label, part three: Join, Meet.
-/
import Derived.Test.YtmbafllkiofhnaaDoorLabB
import Derived.Test.YtmbafllkiofhnaaDoorLabF
import Derived.Deep.DeepCutAuto
namespace Go.Proofs.YtmbafllkiofhnaaDoor
open Go.RowKit

attribute [local go_sem] u_and u_or u_andNot u_add u_sub u_bit u_eq_zero u_beq

/-- the result's own block is still to be written -/
structure Pre (w wx : World) : Prop where
  r0 : wx.cell? ⟨w.heap.size + 1 + 1, 0, none⟩ = some (.int .i64 0)
  r1 : wx.cell? ⟨w.heap.size + 1 + 1, 1, none⟩ = some (.int .u64 0)
  r2 : wx.cell? ⟨w.heap.size + 1 + 1, 2, none⟩ = some (.int .i64 0)
  f0 : wx.frozen? ⟨w.heap.size + 1 + 1, 0, none⟩ = false
  f1 : wx.frozen? ⟨w.heap.size + 1 + 1, 1, none⟩ = false
  f2 : wx.frozen? ⟨w.heap.size + 1 + 1, 2, none⟩ = false
  below : Below w.heap.size w wx
  gt : w.heap.size + 1 + 1 < wx.heap.size
theorem Pre.drew {w wx : World} (p : Pre w wx) : Pre w wx.drew := ⟨p.r0, p.r1, p.r2, p.f0, p.f1, p.f2, p.below.drew, p.gt⟩
theorem Pre.lift {w wx wy : World} (p : Pre w wx) (h : Below wx.heap.size wx wy) : Pre w wy where
  r0 := ((below_cell h).1 _ _ p.gt).trans p.r0
  r1 := ((below_cell h).1 _ _ p.gt).trans p.r1
  r2 := ((below_cell h).1 _ _ p.gt).trans p.r2
  f0 := ((below_cell h).2 _ _ p.gt).trans p.f0
  f1 := ((below_cell h).2 _ _ p.gt).trans p.f1
  f2 := ((below_cell h).2 _ _ p.gt).trans p.f2
  below := below_lift p.below h
  gt := Nat.lt_of_lt_of_le p.gt h.size
theorem Pre.alloc {w wx : World} (p : Pre w wx) (o : Obj) : Pre w (wx.alloc o) where
  r0 := (World.cell?_alloc_lt _ _ _ p.gt).trans p.r0
  r1 := (World.cell?_alloc_lt _ _ _ p.gt).trans p.r1
  r2 := (World.cell?_alloc_lt _ _ _ p.gt).trans p.r2
  f0 := (World.frozen?_alloc_old _ _ _ (Nat.ne_of_lt p.gt)).trans p.f0
  f1 := (World.frozen?_alloc_old _ _ _ (Nat.ne_of_lt p.gt)).trans p.f1
  f2 := (World.frozen?_alloc_old _ _ _ (Nat.ne_of_lt p.gt)).trans p.f2
  below := p.below.alloc (by have := p.gt; omega) _
  gt := by have := p.gt; simp; omega
theorem Pre.set {w wx : World} (p : Pre w wx) (g i : Nat) (v : Value) (hg : w.heap.size + 1 + 1 < g) : Pre w (wx.setCell ⟨g, i, none⟩ v) where
  r0 := (World.cell?_setCell_far _ _ _ _ (by dsimp only; omega)).trans p.r0
  r1 := (World.cell?_setCell_far _ _ _ _ (by dsimp only; omega)).trans p.r1
  r2 := (World.cell?_setCell_far _ _ _ _ (by dsimp only; omega)).trans p.r2
  f0 := (World.frozen?_setCell _ _ _ _).trans p.f0
  f1 := (World.frozen?_setCell _ _ _ _).trans p.f1
  f2 := (World.frozen?_setCell _ _ _ _).trans p.f2
  below := p.below.setCell (by dsimp only; omega) _
  gt := by have := p.gt; simp; omega
/-- behind the first region of Join, Meet: the answer lies in block g, the result's own block is still to be written -/
structure Joined (w wx : World) (g : Nat) (lv : Int) (c : Int) (ig : Int) : Prop where
  c0 : wx.cell? ⟨g, 0, none⟩ = some (.int .i64 lv)
  c1 : wx.cell? ⟨g, 1, none⟩ = some (.int .u64 c)
  c2 : wx.cell? ⟨g, 2, none⟩ = some (.int .i64 ig)
  pre : Pre w wx
  ne : w.heap.size + 1 + 1 < g
  lt : g < wx.heap.size
theorem Pre.joined {w wx : World} (p : Pre w wx) (lv : Int) (c : Int) (ig : Int) (t : TypeId) : Joined w (wx.alloc (.cells #[.int .i64 lv, .int .u64 c, .int .i64 ig] t)) wx.heap.size lv c ig where
  c0 := World.cell?_alloc_at _ _ _ _ rfl
  c1 := World.cell?_alloc_at _ _ _ _ rfl
  c2 := World.cell?_alloc_at _ _ _ _ rfl
  pre := p.alloc _
  ne := p.gt
  lt := by simp
theorem Pre.stored {w wx : World} (p : Pre w wx) (g : Nat) (hg : w.heap.size + 1 + 1 < g) (hl : g < wx.heap.size) (h0 : (wx.cell? ⟨g, 0, none⟩).isSome = true) (h1 : (wx.cell? ⟨g, 1, none⟩).isSome = true) (h2 : (wx.cell? ⟨g, 2, none⟩).isSome = true)
    (lv : Int) (c : Int) (ig : Int) : Joined w (((wx.setCell ⟨g, 0, none⟩ (.int .i64 lv)).setCell ⟨g, 1, none⟩ (.int .u64 c)).setCell ⟨g, 2, none⟩ (.int .i64 ig)) g lv c ig where
  c0 := (World.cell?_setCell_other _ _ _ _ (by simp)).trans ((World.cell?_setCell_other _ _ _ _ (by simp)).trans (World.cell?_setCell_same' _ _ _ h0))
  c1 := (World.cell?_setCell_other _ _ _ _ (by simp)).trans (World.cell?_setCell_same' _ _ _ ((congrArg Option.isSome (World.cell?_setCell_other _ _ _ _ (by simp))).trans h1))
  c2 := World.cell?_setCell_same' _ _ _ ((congrArg Option.isSome ((World.cell?_setCell_other _ _ _ _ (by simp)).trans (World.cell?_setCell_other _ _ _ _ (by simp)))).trans h2)
  pre := ((p.set g 0 _ hg).set g 1 _ hg).set g 2 _ hg
  ne := hg
  lt := by simpa using hl
theorem isSome_of {α : Type} {x : Option α} {v : α} (h : x = some v) : x.isSome = true := by rw [h]; rfl
theorem set3_cells {wx : World} {g : Nat} {v0 v1 v2 : Value} (h0 : wx.cell? ⟨g, 0, none⟩ = some v0) (h1 : wx.cell? ⟨g, 1, none⟩ = some v1) (h2 : wx.cell? ⟨g, 2, none⟩ = some v2) (x y z : Value) :
    (((wx.setCell ⟨g, 0, none⟩ x).setCell ⟨g, 1, none⟩ y).setCell ⟨g, 2, none⟩ z).cell? ⟨g, 0, none⟩ = some x ∧
    (((wx.setCell ⟨g, 0, none⟩ x).setCell ⟨g, 1, none⟩ y).setCell ⟨g, 2, none⟩ z).cell? ⟨g, 1, none⟩ = some y ∧
    (((wx.setCell ⟨g, 0, none⟩ x).setCell ⟨g, 1, none⟩ y).setCell ⟨g, 2, none⟩ z).cell? ⟨g, 2, none⟩ = some z :=
  ⟨(World.cell?_setCell_other _ _ _ _ (by simp)).trans ((World.cell?_setCell_other _ _ _ _ (by simp)).trans (World.cell?_setCell_same _ _ _ h0)),
    (World.cell?_setCell_other _ _ _ _ (by simp)).trans (World.cell?_setCell_same _ _ _ ((World.cell?_setCell_other _ _ _ _ (by simp)).trans h1)),
    World.cell?_setCell_same _ _ _ ((World.cell?_setCell_other _ _ _ _ (by simp)).trans ((World.cell?_setCell_other _ _ _ _ (by simp)).trans h2))⟩
theorem set3_below {w wx wy : World} {g : Nat} (h : Below w.heap.size w wx) (h1 : Below wx.drew.heap.size wx.drew wy) (hg : w.heap.size < g) (x y z : Value) :
    Below w.heap.size w (((wy.setCell ⟨g, 0, none⟩ x).setCell ⟨g, 1, none⟩ y).setCell ⟨g, 2, none⟩ z) :=
  (((below_lift (w1 := wx.drew) h.drew h1).setCell (by dsimp only; omega) _).setCell (by dsimp only; omega) _).setCell (by dsimp only; omega) _
/-- the answer's block is made last -/
theorem join_last {w W0 w1 w2 : World} (p : Pre w W0) (h1 : Below W0.drew.heap.size W0.drew w1) (h2 : Below w1.heap.size w1 w2) (lv : Int) (c : Int) (ig : Int) (t : TypeId) :
    Joined w (w2.alloc (.cells #[.int .i64 lv, .int .u64 c, .int .i64 ig] t)) w2.heap.size lv c ig :=
  ((p.drew.lift h1).lift h2).joined _ _ _ _
/-- between the two calls -/
theorem join_mid {w W0 w1 w2 : World} (p : Pre w W0) (h1 : Below W0.drew.heap.size W0.drew w1) (t : TypeId)
    (h2 : Below (w1.alloc (.cells #[.int .i64 0, .int .u64 0, .int .i64 0] t)).heap.size (w1.alloc (.cells #[.int .i64 0, .int .u64 0, .int .i64 0] t)) w2) (lv : Int) (c : Int) (ig : Int) :
    Joined w (((w2.setCell ⟨w1.heap.size, 0, none⟩ (.int .i64 lv)).setCell ⟨w1.heap.size, 1, none⟩ (.int .u64 c)).setCell ⟨w1.heap.size, 2, none⟩ (.int .i64 ig)) w1.heap.size lv c ig :=
  (((p.drew.lift h1).alloc _).lift h2).stored _ (p.drew.lift h1).gt (Nat.lt_of_lt_of_le (by simp) h2.size)
    (isSome_of (((below_cell h2).1 _ _ (by simp)).trans (World.cell?_alloc_at _ _ _ _ rfl))) (isSome_of (((below_cell h2).1 _ _ (by simp)).trans (World.cell?_alloc_at _ _ _ _ rfl))) (isSome_of (((below_cell h2).1 _ _ (by simp)).trans (World.cell?_alloc_at _ _ _ _ rfl))) _ _ _
/-- first -/
theorem join_first {w W0 w1 w2 : World} (p : Pre w W0) (t : TypeId) (h1 : Below (W0.alloc (.cells #[.int .i64 0, .int .u64 0, .int .i64 0] t)).drew.heap.size (W0.alloc (.cells #[.int .i64 0, .int .u64 0, .int .i64 0] t)).drew w1)
    (h2 : Below w1.heap.size w1 w2) (lv : Int) (c : Int) (ig : Int) :
    Joined w (((w2.setCell ⟨W0.heap.size, 0, none⟩ (.int .i64 lv)).setCell ⟨W0.heap.size, 1, none⟩ (.int .u64 c)).setCell ⟨W0.heap.size, 2, none⟩ (.int .i64 ig)) W0.heap.size lv c ig := by
  have hz : W0.heap.size < w1.heap.size := Nat.lt_of_lt_of_le (by simp) h1.size
  have k : ∀ i v, (#[.int .i64 0, .int .u64 0, .int .i64 0] : Array Value)[i]? = some v → (w2.cell? ⟨W0.heap.size, i, none⟩).isSome = true := fun i v hv =>
    isSome_of (((below_cell h2).1 _ _ hz).trans (((below_cell h1).1 _ _ (by simp)).trans ((World.cell?_alloc_at _ _ _ _ rfl).trans hv)))
  exact (((p.alloc _).drew.lift h1).lift h2).stored _ p.gt (Nat.lt_of_lt_of_le hz h2.size) (k 0 _ rfl) (k 1 _ rfl) (k 2 _ rfl) _ _ _
/-- the world of the two arguments' boxes and of the result's block -/
structure Boxes (w W : World) (a b : Lab) : Prop where
  a0 : W.cell? ⟨w.heap.size, 0, none⟩ = some (.int .i64 a.lv)
  a1 : W.cell? ⟨w.heap.size, 1, none⟩ = some (.int .u64 (u a.c))
  a2 : W.cell? ⟨w.heap.size, 2, none⟩ = some (.int .i64 a.ig)
  b0 : W.cell? ⟨w.heap.size + 1, 0, none⟩ = some (.int .i64 b.lv)
  b1 : W.cell? ⟨w.heap.size + 1, 1, none⟩ = some (.int .u64 (u b.c))
  b2 : W.cell? ⟨w.heap.size + 1, 2, none⟩ = some (.int .i64 b.ig)
  pre : Pre w W
  size : W.heap.size = w.heap.size + 1 + 1 + 1
theorem boxes_new (w : World) (a b : Lab) : Boxes w (((w.alloc (.cells #[.int .i64 a.lv, .int .u64 (u a.c), .int .i64 a.ig] 24)).alloc (.cells #[.int .i64 b.lv, .int .u64 (u b.c), .int .i64 b.ig] 24)).alloc (.cells #[.int .i64 0, .int .u64 0, .int .i64 0] 24)) a b where
  a0 := (World.cell?_alloc_lt _ _ _ (by simp; omega)).trans ((World.cell?_alloc_lt _ _ _ (by simp)).trans (World.cell?_alloc_at _ _ _ _ rfl))
  a1 := (World.cell?_alloc_lt _ _ _ (by simp; omega)).trans ((World.cell?_alloc_lt _ _ _ (by simp)).trans (World.cell?_alloc_at _ _ _ _ rfl))
  a2 := (World.cell?_alloc_lt _ _ _ (by simp; omega)).trans ((World.cell?_alloc_lt _ _ _ (by simp)).trans (World.cell?_alloc_at _ _ _ _ rfl))
  b0 := (World.cell?_alloc_lt _ _ _ (by simp)).trans (World.cell?_alloc_at _ _ _ _ (by simp))
  b1 := (World.cell?_alloc_lt _ _ _ (by simp)).trans (World.cell?_alloc_at _ _ _ _ (by simp))
  b2 := (World.cell?_alloc_lt _ _ _ (by simp)).trans (World.cell?_alloc_at _ _ _ _ (by simp))
  pre := {
    r0 := World.cell?_alloc_at _ _ _ _ (by simp)
    r1 := World.cell?_alloc_at _ _ _ _ (by simp)
    r2 := World.cell?_alloc_at _ _ _ _ (by simp)
    f0 := World.frozen?_alloc_at _ _ _ _ (by simp)
    f1 := World.frozen?_alloc_at _ _ _ _ (by simp)
    f2 := World.frozen?_alloc_at _ _ _ _ (by simp)
    below := (((Below.refl _ _).alloc (Nat.le_refl _) _).alloc (by simp) _).alloc (by simp; omega) _
    gt := by simp }
  size := by simp

set_option maxRecDepth 100000 in
set_option maxHeartbeats 4000000 in
theorem Join_ok (a b : Lab) (w : World) (ha : okL a = true) (hb : okL b = true) :
    Calls Tryd.prog 23 #[.agg #[.int .i64 a.lv, .int .u64 (u a.c), .int .i64 a.ig], .agg #[.int .i64 b.lv, .int .u64 (u b.c), .int .i64 b.ig]] w
      fun e w' => e = .returned (.tuple #[.agg #[.int .i64 (max a.lv b.lv), .int .u64 (u (a.c ||| b.c)), .int .i64 (min a.ig b.ig)], .int .i64 0]) ∧ Below w.heap.size w w' := by
  have hbx := boxes_new w a b
  go_enter Tryd.func23, Tryd.ntmps23
  go_upto_region 1 with fail
  generalize (((w.alloc (.cells #[.int .i64 a.lv, .int .u64 (u a.c), .int .i64 a.ig] 24)).alloc (.cells #[.int .i64 b.lv, .int .u64 (u b.c), .int .i64 b.ig] 24)).alloc (.cells #[.int .i64 0, .int .u64 0, .int .i64 0] 24)) = W0 at *
  obtain ⟨a0, a1, a2, b0, b1, b2, hP, hsz⟩ := hbx
  have HP := Lib.hid hP
  clear hP
  go_cut [6, 7] (fun s6 s7 wx => ∃ g : Nat, s6 = .pointer (some ⟨g, 0, none⟩) ∧ s7 = .nilIface ∧ Joined w wx g (max a.lv b.lv) (u (a.c ||| b.c)) (min a.ig b.ig))
  case first =>
    have HSZ := Lib.hid hsz
    have s0 : w.heap.size < W0.heap.size := by omega
    have s1 : w.heap.size + 1 < W0.heap.size := by omega
    have s2 : w.heap.size + 1 + 1 < W0.heap.size := by omega
    clear hsz
    go_region_held3 (fun w' => w'.cell? ⟨w.heap.size, 0, none⟩ = some (.int .i64 a.lv) ∧ w'.cell? ⟨w.heap.size, 1, none⟩ = some (.int .u64 (u a.c)) ∧ w'.cell? ⟨w.heap.size, 2, none⟩ = some (.int .i64 a.ig) ∧
        w'.cell? ⟨w.heap.size + 1, 0, none⟩ = some (.int .i64 b.lv) ∧ w'.cell? ⟨w.heap.size + 1, 1, none⟩ = some (.int .u64 (u b.c)) ∧ w'.cell? ⟨w.heap.size + 1, 2, none⟩ = some (.int .i64 b.ig))
      ((try dsimp only) <;> (repeat' apply And.intro) <;> (repeat (first | rw [World.cell?_drew] | rw [World.cell?_setCell_far _ _ _ _ (by dsimp only; omega)] | rw [World.cell?_alloc_lt _ _ _ (by dsimp only; omega)] | rw [hc2 _ _ (by first | omega | (simp; omega))] | rw [hc1 _ _ (by first | omega | (simp; omega))])) <;> assumption)
      (first
      | (go_at_call 39; refine (joins_any _).mono ?_; rintro e w1 ⟨rfl, hB1⟩; obtain ⟨hc1, hf1⟩ := below_cell hB1; have HB1 := Lib.hid hB1; clear hB1; have z := HB1.out.size; (try simp at z); have z0 : w.heap.size < w1.heap.size := (by omega); have z1 : w.heap.size + 1 < w1.heap.size := (by omega); have z2 : w.heap.size + 1 + 1 < w1.heap.size := (by omega); try (have z3 : W0.heap.size < w1.heap.size := (by omega)))
      | (go_at_call 40; refine (of_joins a b _ ha hb).mono ?_; rintro e w2 ⟨rfl, hB2⟩; obtain ⟨hc2, hf2⟩ := below_cell hB2; have HB2 := Lib.hid hB2; clear hB2; have y := HB2.out.size; (try simp at y); have y0 : w.heap.size < w2.heap.size := (by omega); have y1 : w.heap.size + 1 < w2.heap.size := (by omega); have y2 : w.heap.size + 1 + 1 < w2.heap.size := (by omega)))
    all_goals (go_wp2_with fail; go_meet; refine ⟨_, rfl, rfl, ?_⟩)
    all_goals (first
      | exact join_last HP.out HB1.out HB2.out _ _ _ _
      | exact join_mid HP.out HB1.out _ HB2.out _ _ _
      | exact join_first HP.out _ HB1.out HB2.out _ _ _)
  case rest =>
    obtain ⟨g, rfl, rfl, c0, c1, c2, ⟨r0, r1, r2, f0, f1, f2, hB, hgt⟩, hne, hlt⟩ := hcut
    have HB := Lib.hid hB
    clear hB HP hsz
    have hr : w.heap.size < w.heap.size + 1 + 1 := by omega
    generalize w.heap.size + 1 + 1 = rb at *
    go_wp2_with fail
    go_region_held3 (fun w' => w'.cell? ⟨g, 0, none⟩ = some (.int .i64 (max a.lv b.lv)) ∧ w'.cell? ⟨g, 1, none⟩ = some (.int .u64 (u (a.c ||| b.c))) ∧ w'.cell? ⟨g, 2, none⟩ = some (.int .i64 (min a.ig b.ig)))
      ((try dsimp only) <;> (repeat' apply And.intro) <;> (repeat (first | rw [World.cell?_drew] | rw [World.cell?_setCell_far _ _ _ _ (by dsimp only; omega)] | rw [World.cell?_alloc_lt _ _ _ (by dsimp only; omega)] | rw [hc2 _ _ (by first | omega | (simp; omega))] | rw [hc1 _ _ (by first | omega | (simp; omega))])) <;> assumption)
      (first
      | (go_at_call 41; refine (told_nil _).mono ?_; rintro e w2 ⟨rfl, hB2⟩; obtain ⟨hc2, hf2⟩ := below_cell hB2; have HB2 := Lib.hid hB2; clear hB2; have y := HB2.out.size; (try simp at y); have y0 : g < w2.heap.size := (by omega); have y1 : rb < w2.heap.size := (by omega);
          have q0 := (hc2 rb 0 (by simpa using hgt)).trans r0; have q1 := (hc2 rb 1 (by simpa using hgt)).trans r1; have q2 := (hc2 rb 2 (by simpa using hgt)).trans r2; have p0 := (hf2 rb 0 (by simpa using hgt)).trans f0; have p1 := (hf2 rb 1 (by simpa using hgt)).trans f1; have p2 := (hf2 rb 2 (by simpa using hgt)).trans f2))
    all_goals (go_wp2_with fail)
    obtain ⟨k0, k1, k2⟩ := set3_cells q0 q1 q2 (.int .i64 (max a.lv b.lv)) (.int .u64 (u (a.c ||| b.c))) (.int .i64 (min a.ig b.ig))
    have hB2 := set3_below HB.out HB2.out hr (.int .i64 (max a.lv b.lv)) (.int .u64 (u (a.c ||| b.c))) (.int .i64 (min a.ig b.ig))
    refine bodyPost_ret (v := .tuple #[.agg #[.int .i64 (max a.lv b.lv), .int .u64 (u (a.c ||| b.c)), .int .i64 (min a.ig b.ig)], .int .i64 0]) (by simp [results, Tryd.results23, go_sem, k0, k1, k2]) rfl ⟨rfl, hB2⟩
set_option maxRecDepth 100000 in
set_option maxHeartbeats 4000000 in
theorem Join_bad (a b : Lab) (w : World) (hh : ∀ w', Below w.heap.size w w' → Handle w') (h : ¬ (okL a = true ∧ okL b = true)) :
    Calls Tryd.prog 23 #[.agg #[.int .i64 a.lv, .int .u64 (u a.c), .int .i64 a.ig], .agg #[.int .i64 b.lv, .int .u64 (u b.c), .int .i64 b.ig]] w
      fun e w' => e = .returned (.tuple #[.agg #[.int .i64 0, .int .u64 0, .int .i64 0], .int .i64 20]) ∧ Below w.heap.size w w' := by
  have hbx := boxes_new w a b
  go_enter Tryd.func23, Tryd.ntmps23
  go_upto_region 1 with fail
  generalize (((w.alloc (.cells #[.int .i64 a.lv, .int .u64 (u a.c), .int .i64 a.ig] 24)).alloc (.cells #[.int .i64 b.lv, .int .u64 (u b.c), .int .i64 b.ig] 24)).alloc (.cells #[.int .i64 0, .int .u64 0, .int .i64 0] 24)) = W0 at *
  obtain ⟨a0, a1, a2, b0, b1, b2, hP, hsz⟩ := hbx
  have HP := Lib.hid hP
  clear hP
  go_cut [6, 7] (fun s6 s7 wx => ∃ g : Nat, s6 = .pointer (some ⟨g, 0, none⟩) ∧ (∃ x : Lab, s7 = .iface 72 (.agg #[.int .i64 x.lv, .int .u64 (u x.c), .int .i64 x.ig])) ∧ Joined w wx g 0 0 0)
  case first =>
    have HSZ := Lib.hid hsz
    have s0 : w.heap.size < W0.heap.size := by omega
    have s1 : w.heap.size + 1 < W0.heap.size := by omega
    have s2 : w.heap.size + 1 + 1 < W0.heap.size := by omega
    clear hsz
    go_region_held3 (fun w' => w'.cell? ⟨w.heap.size, 0, none⟩ = some (.int .i64 a.lv) ∧ w'.cell? ⟨w.heap.size, 1, none⟩ = some (.int .u64 (u a.c)) ∧ w'.cell? ⟨w.heap.size, 2, none⟩ = some (.int .i64 a.ig) ∧
        w'.cell? ⟨w.heap.size + 1, 0, none⟩ = some (.int .i64 b.lv) ∧ w'.cell? ⟨w.heap.size + 1, 1, none⟩ = some (.int .u64 (u b.c)) ∧ w'.cell? ⟨w.heap.size + 1, 2, none⟩ = some (.int .i64 b.ig))
      ((try dsimp only) <;> (repeat' apply And.intro) <;> (repeat (first | rw [World.cell?_drew] | rw [World.cell?_setCell_far _ _ _ _ (by dsimp only; omega)] | rw [World.cell?_alloc_lt _ _ _ (by dsimp only; omega)] | rw [hc2 _ _ (by first | omega | (simp; omega))] | rw [hc1 _ _ (by first | omega | (simp; omega))])) <;> assumption)
      (first
      | (go_at_call 39; refine (joins_any _).mono ?_; rintro e w1 ⟨rfl, hB1⟩; obtain ⟨hc1, hf1⟩ := below_cell hB1; have HB1 := Lib.hid hB1; clear hB1; have z := HB1.out.size; (try simp at z); have z0 : w.heap.size < w1.heap.size := (by omega); have z1 : w.heap.size + 1 < w1.heap.size := (by omega); have z2 : w.heap.size + 1 + 1 < w1.heap.size := (by omega); try (have z3 : W0.heap.size < w1.heap.size := (by omega)))
      | (go_at_call 40; refine (of_bad _ _ _ a b _ h).mono ?_; rintro e w2 ⟨x, rfl, hB2⟩; obtain ⟨hc2, hf2⟩ := below_cell hB2; have HB2 := Lib.hid hB2; clear hB2; have y := HB2.out.size; (try simp at y); have y0 : w.heap.size < w2.heap.size := (by omega); have y1 : w.heap.size + 1 < w2.heap.size := (by omega); have y2 : w.heap.size + 1 + 1 < w2.heap.size := (by omega)))
    all_goals (go_wp2_with fail; go_meet; refine ⟨_, rfl, ⟨_, rfl⟩, ?_⟩)
    all_goals (first
      | exact join_last HP.out HB1.out HB2.out _ _ _ _
      | exact join_mid HP.out HB1.out _ HB2.out _ _ _
      | exact join_first HP.out _ HB1.out HB2.out _ _ _)
  case rest =>
    obtain ⟨g, rfl, ⟨x, rfl⟩, c0, c1, c2, ⟨r0, r1, r2, f0, f1, f2, hB, hgt⟩, hne, hlt⟩ := hcut
    have HH := Lib.hid (hh _ (hB.drew))
    have HB := Lib.hid hB
    clear hB HP hsz hh
    have hr : w.heap.size < w.heap.size + 1 + 1 := by omega
    generalize w.heap.size + 1 + 1 = rb at *
    go_wp2_with fail
    go_region_held3 (fun w' => w'.cell? ⟨g, 0, none⟩ = some (.int .i64 0) ∧ w'.cell? ⟨g, 1, none⟩ = some (.int .u64 0) ∧ w'.cell? ⟨g, 2, none⟩ = some (.int .i64 0))
      ((try dsimp only) <;> (repeat' apply And.intro) <;> (repeat (first | rw [World.cell?_drew] | rw [World.cell?_setCell_far _ _ _ _ (by dsimp only; omega)] | rw [World.cell?_alloc_lt _ _ _ (by dsimp only; omega)] | rw [hc2 _ _ (by first | omega | (simp; omega))] | rw [hc1 _ _ (by first | omega | (simp; omega))])) <;> assumption)
      (first
      | (go_at_call 41; refine (told_wrong x _ HH.out).mono ?_; rintro e w2 ⟨rfl, hB2⟩; obtain ⟨hc2, hf2⟩ := below_cell hB2; have HB2 := Lib.hid hB2; clear hB2; have y := HB2.out.size; (try simp at y); have y0 : g < w2.heap.size := (by omega); have y1 : rb < w2.heap.size := (by omega);
          have q0 := (hc2 rb 0 (by simpa using hgt)).trans r0; have q1 := (hc2 rb 1 (by simpa using hgt)).trans r1; have q2 := (hc2 rb 2 (by simpa using hgt)).trans r2; have p0 := (hf2 rb 0 (by simpa using hgt)).trans f0; have p1 := (hf2 rb 1 (by simpa using hgt)).trans f1; have p2 := (hf2 rb 2 (by simpa using hgt)).trans f2))
    all_goals (go_wp2_with fail)
    obtain ⟨k0, k1, k2⟩ := set3_cells q0 q1 q2 (.int .i64 0) (.int .u64 0) (.int .i64 0)
    have hB2 := set3_below HB.out HB2.out hr (.int .i64 0) (.int .u64 0) (.int .i64 0)
    refine bodyPost_ret (v := .tuple #[.agg #[.int .i64 0, .int .u64 0, .int .i64 0], .int .i64 20]) (by simp [results, Tryd.results23, go_sem, k0, k1, k2]) rfl ⟨rfl, hB2⟩
end Go.Proofs.YtmbafllkiofhnaaDoor
