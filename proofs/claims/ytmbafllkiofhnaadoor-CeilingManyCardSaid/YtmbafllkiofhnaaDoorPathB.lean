/-
  THE WALK OF ceiling.Path.
-/
import Derived.Test.YtmbafllkiofhnaaDoorPath
import Derived.Test.YtmbafllkiofhnaaDoorApp
import Derived.RegionIn
import Derived.Stop.RegionWithIn
namespace Go.Proofs.YtmbafllkiofhnaaDoor
open Go.RowKit Go.Shelf

attribute [local go_sem] Oper.semAt_some
attribute [local go_sem] u_and u_or u_andNot u_add u_sub u_bit u_eq_zero u_beq

theorem path_fn (fb : Nat) (A : Option Addr) (m c : Nat) (w : World) :
    Calls Tryd.prog 42 #[.pointer (some ⟨fb, 0, none⟩), .slice A m c] w fun e w' => e = .returned (.func (.func 54) #[] #[.pointer (some ⟨w.heap.size + 1, 0, none⟩), .pointer (some ⟨w.heap.size, 0, none⟩)]) ∧
      (w.alloc (.cells #[.pointer (some ⟨fb, 0, none⟩)] 41)).alloc (.cells #[.slice A m c] 35) = w' := by
  go_enter Tryd.func42, Tryd.ntmps42
  go_wp2
  go_ret
  exact ⟨rfl, rfl⟩
theorem LabsAt.src {B : Nat} {w : World} {A : Option Addr} {m c : Nat} {l : List Lab} (h : LabsAt B w (.slice A m c) l) : Src w 3 A m (l.flatMap fun x => [.int .i64 x.lv, .int .u64 (u x.c), .int .i64 x.ig]) ∧ m = l.length := by
  rcases h with ⟨h, rfl⟩ | ⟨b, off, cap, hv, hlt, hcap, hn, hc⟩
  · cases h
    exact ⟨⟨rfl, fun _ => rfl, fun _ h => by cases h⟩, rfl⟩
  · cases hv
    have hlen : ∀ l : List Lab, (l.flatMap fun x => [.int .i64 x.lv, .int .u64 (u x.c), .int .i64 x.ig] : List Value).length = l.length * 3 := fun l => by
      induction l with
      | nil => rfl
      | cons x l ih => rw [List.flatMap_cons, List.length_append, ih]; simp; omega
    have hget : ∀ (l : List Lab) (j : Nat) (u' : Value), (l.flatMap fun x => [.int .i64 x.lv, .int .u64 (u x.c), .int .i64 x.ig] : List Value)[j]? = some u' → ∃ x, l[j / 3]? = some x ∧ ((j % 3 = 0 ∧ u' = .int .i64 x.lv) ∨ (j % 3 = 1 ∧ u' = .int .u64 (u x.c)) ∨ (j % 3 = 2 ∧ u' = .int .i64 x.ig)) := fun l => by
      induction l with
      | nil => intro j u' h; simp at h
      | cons x l ih =>
        intro j u' h
        rw [List.flatMap_cons] at h
        match j, h with
        | 0, h => exact ⟨x, rfl, .inl ⟨rfl, by simpa using h.symm⟩⟩
        | 1, h => exact ⟨x, rfl, .inr (.inl ⟨rfl, by simpa using h.symm⟩)⟩
        | 2, h => exact ⟨x, rfl, .inr (.inr ⟨rfl, by simpa using h.symm⟩)⟩
        | j + 3, h =>
          obtain ⟨y, hy, h'⟩ := ih j u' (by simpa using h)
          refine ⟨y, ?_, by rw [Nat.add_mod_right]; exact h'⟩
          rw [show (j + 3) / 3 = j / 3 + 1 by omega]; exact hy
    refine ⟨⟨hlen l, fun h => by simp at h, fun ad ha j u' hu => ?_⟩, rfl⟩
    cases ha
    rw [Go.WideShapes.add_plain]
    obtain ⟨x, hx, h'⟩ := hget l j u' hu
    obtain ⟨c0, c1, c2⟩ := hc _ x hx
    rcases h' with ⟨h1, rfl⟩ | ⟨h1, rfl⟩ | ⟨h1, rfl⟩
    · rw [show off + j = off + j / 3 * 3 by omega]; exact c0
    · rw [show off + j = off + j / 3 * 3 + 1 by omega]; exact c1
    · rw [show off + j = off + j / 3 * 3 + 2 by omega]; exact c2
theorem labs_one {l : List Lab} : ∀ v, v ∈ (l.flatMap fun x => [.int .i64 x.lv, .int .u64 (u x.c), .int .i64 x.ig] : List Value) → v.oneCell' = true := fun v hv => by
  obtain ⟨x, _, hx⟩ := List.mem_flatMap.1 hv
  simp only [List.mem_cons, List.not_mem_nil, or_false] at hx
  rcases hx with rfl | rfl | rfl <;> rfl
theorem LabsAt.of_own {w : World} {base : Nat} {e : TypeId} {v : Value} {n : Nat} {l : List Lab} (h : w.ownsRow base e 3 v n (l.flatMap fun x => [.int .i64 x.lv, .int .u64 (u x.c), .int .i64 x.ig])) (hn : n = l.length) : LabsAt w.heap.size w v l := by
  subst hn
  by_cases h0 : l = []
  · subst h0
    rcases h.2 with ⟨hv, _⟩ | ⟨g, cap, cur, hv, hb, hh, hnc, hm, hcs, hcur⟩
    · exact .inl ⟨hv, rfl⟩
    · exact .inr ⟨g, 0, cap, hv, (Array.getElem?_eq_some_iff.1 hh).1, by simp, by simp, fun k x hx => by simp at hx⟩
  · obtain ⟨g, cap, hv, _, hg, hnc, hm, hc⟩ := ownsRow_cells h (List.length_pos_iff.2 h0)
    have hget : ∀ (l : List Lab) (k : Nat) (x : Lab), l[k]? = some x → (l.flatMap fun x => [.int .i64 x.lv, .int .u64 (u x.c), .int .i64 x.ig] : List Value)[k * 3]? = some (.int .i64 x.lv) ∧ (l.flatMap fun x => [.int .i64 x.lv, .int .u64 (u x.c), .int .i64 x.ig] : List Value)[k * 3 + 1]? = some (.int .u64 (u x.c)) ∧ (l.flatMap fun x => [.int .i64 x.lv, .int .u64 (u x.c), .int .i64 x.ig] : List Value)[k * 3 + 2]? = some (.int .i64 x.ig) := fun l => by
      induction l with
      | nil => intro k x h; simp at h
      | cons y l ih =>
        intro k x h
        rw [List.flatMap_cons]
        match k, h with
        | 0, h => cases h; exact ⟨rfl, rfl, rfl⟩
        | k + 1, h =>
          obtain ⟨a, b, c⟩ := ih k x h
          rw [show (k + 1) * 3 = k * 3 + 3 by omega]
          exact ⟨by simpa using a, by simpa using b, by simpa using c⟩
    unfold maxLen at hm
    refine .inr ⟨g, 0, cap, hv, hg, hnc, by omega, fun k x hx => ?_⟩
    obtain ⟨a, b, c⟩ := hget l k x hx
    rw [Nat.zero_add]
    exact ⟨hc _ _ a, hc _ _ b, hc _ _ c⟩

--PATH
theorem infoLab : (Tryd.prog.info? 24).map (fun i => (i.zero, i.size, i.bytes)) = some (some (.agg #[.int .i64 0, .int .u64 0, .int .i64 0]), 3, 24) := by kernel_rfl
theorem own_of_blk {w : World} {base g : Nat} {e : TypeId} {size n : Nat} {cs : Array Value} (h : Blk w g e cs) (hb : base ≤ g) (hm : n ≤ maxLen) (hs : cs.size = n * size) : w.ownsRow base e size (.slice (some ⟨g, 0, none⟩) n n) n cs.toList :=
  ⟨by rw [Array.length_toList, hs], .inr ⟨g, n, cs, rfl, hb, h, Nat.le_refl _, hm, hs, by rw [← hs, ← Array.length_toList, List.take_length]⟩⟩
theorem turns_of_below {U : Nat → Prop} {A B : World} (hb : Below A.heap.size A B) : Turns U A B := Turns.of_below hb
/-! ### plain: how far one comes -/
def pathK (h c : Lab) : List Lab → Nat
  | [] => 0
  | a :: l => if le3 (joinL c a) h then pathK h (joinL c a) l + 1 else 0
theorem pathK_is {h : Lab} : ∀ (l : List Lab) (c : Lab) (k : Nat), GoodTo h c l k → k ≤ l.length → (k = l.length ∨ ∃ a, l[k]? = some a ∧ le3 (joinL (pathAt h c (l.take k)) a) h = false) → pathK h c l = k
  | [], c, k, _, hk, _ => by simp at hk; subst hk; rfl
  | a :: l, c, 0, _, _, hb => by
    rcases hb with hb | ⟨x, hx, hb⟩
    · simp at hb
    · simp at hx; subst hx
      have : le3 (joinL c a) h = false := hb
      simp [pathK, this]
  | a :: l, c, k + 1, hg, hk, hb => by
    have h0 : le3 (joinL c a) h = true := hg 0 a (by first | omega | (simp; omega)) rfl
    have hs : stepP h c a = joinL c a := if_pos h0
    have ht : ∀ i, pathAt h c ((a :: l).take (i + 1)) = pathAt h (joinL c a) (l.take i) := fun i => by
      rw [List.take_succ_cons]; show pathAt h (stepP h c a) _ = _; rw [hs]
    have := pathK_is (h := h) l (joinL c a) k (fun i x hi hx => by have := hg (i + 1) x (by first | omega | (simp; omega)) hx; rw [ht] at this; exact this) (by simpa using hk) (by
      rcases hb with hb | ⟨x, hx, hb⟩
      · exact .inl (by simpa using hb)
      · exact .inr ⟨x, by simpa using hx, by rw [ht] at hb; exact hb⟩)
    simp only [pathK, h0, if_pos, this]
def allR (cur high : Lab) (ls : List Lab) : Bool := ([cur, high] ++ ls).all okL
def pathsL (cur : Lab) (ls : List Lab) (high : Lab) : Lab := if allR cur high ls then pathAt high cur (ls.take (pathK high cur ls)) else zeroL
def pathsK (cur : Lab) (ls : List Lab) (high : Lab) : Int := if allR cur high ls then (pathK high cur ls : Nat) else 0
def pathsE (cur : Lab) (ls : List Lab) (high : Lab) : Int := if allR cur high ls then (if pathK high cur ls = ls.length then 0 else 120) else 20

/-- the loop of Path: between two rounds -/
structure PathI (w : World) (b2 b3 b4 b5 b6 : Nat) (h c : Lab) (ls : List Lab) (xs : List (Nat × Value)) (W : World) : Prop where
  le : xs.length ≤ ls.length
  nil : ∀ it, it ∈ xs → it.2 = .nilIface
  good : GoodTo h c ls xs.length
  r2 : Blk W b2 24 #[.int .i64 0, .int .u64 0, .int .i64 0]
  r3 : Blk W b3 3 #[.int .i64 0]
  r4 : Blk W b4 26 #[.int .i64 0]
  p : Blk W b6 41 #[.pointer (some ⟨b5, 0, none⟩)]
  below : Below w.heap.size w W
/-- left -/
structure PathX (w : World) (b2 b3 b4 : Nat) (o : Lab) (k : Nat) (ls : List Lab) (W : World) : Prop where
  lt : k < ls.length
  r2 : Blk W b2 24 #[.int .i64 o.lv, .int .u64 (u o.c), .int .i64 o.ig]
  r3 : Blk W b3 3 #[.int .i64 (k : Nat)]
  r4 : Blk W b4 26 #[.int .i64 120]
  below : Below w.heap.size w W
/-- five stores -/
theorem five {W : World} {b2 b3 b4 : Nat} {a b c d e : Value} (t0 t1 t2 t3 t4 : Value) (h2 : Blk W b2 24 #[a, b, c]) (h3 : Blk W b3 3 #[d]) (h4 : Blk W b4 26 #[e]) (n1 : b2 + 1 = b3) (n2 : b3 + 1 = b4) :
    Blk (((((W.setCell ⟨b2, 0, none⟩ t0).setCell ⟨b2, 1, none⟩ t1).setCell ⟨b2, 2, none⟩ t2).setCell ⟨b3, 0, none⟩ t3).setCell ⟨b4, 0, none⟩ t4) b2 24 #[t0, t1, t2] ∧
    Blk (((((W.setCell ⟨b2, 0, none⟩ t0).setCell ⟨b2, 1, none⟩ t1).setCell ⟨b2, 2, none⟩ t2).setCell ⟨b3, 0, none⟩ t3).setCell ⟨b4, 0, none⟩ t4) b3 3 #[t3] ∧
    Blk (((((W.setCell ⟨b2, 0, none⟩ t0).setCell ⟨b2, 1, none⟩ t1).setCell ⟨b2, 2, none⟩ t2).setCell ⟨b3, 0, none⟩ t3).setCell ⟨b4, 0, none⟩ t4) b4 26 #[t4] :=
  ⟨((Blk.set3' h2 _ _ _).far (by omega) _).far (by omega) _, Blk.far (Blk.set' (Blk.far (Blk.far (Blk.far h3 (by omega) _) (by omega) _) (by omega) _) rfl) (by omega) _, Blk.set' (Blk.far (Blk.far (Blk.far (Blk.far h4 (by omega) _) (by omega) _) (by omega) _) (by omega) _) rfl⟩
set_option maxRecDepth 100000 in
set_option maxHeartbeats 8000000 in
theorem Path_bad (n : Nat) (hn : 3 ≤ n) (ls : List Lab) (v : Value) (cur high y : Lab) (sa : Addr) (w : World) (hl : LabsAt w.heap.size w v ls) (hen : Env sa w) (hle : ls.length ≤ 1000) (hall : rightsV ([cur, high] ++ ls) = .iface 67 (.agg #[.nilIface, .int .i64 y.lv, .int .u64 (u y.c), .int .i64 y.ig])) :
    CallsIn Fence.wide n Tryd.prog 25 #[.agg #[.int .i64 cur.lv, .int .u64 (u cur.c), .int .i64 cur.ig], v, .agg #[.int .i64 high.lv, .int .u64 (u high.c), .int .i64 high.ig]] w fun e w' => e = .returned (.tuple #[.agg #[.int .i64 0, .int .u64 0, .int .i64 0], .int .i64 0, .int .i64 20]) ∧ Below w.heap.size w w' := by
  have h1 : 1 ≤ n := by omega
  obtain ⟨i0, hi, hz0, hz1, hz2⟩ := info_parts infoLab
  obtain ⟨sA, sm, sc, rfl⟩ := hl.slice
  obtain ⟨hsrc, rfl⟩ := hl.src
  have HL := Lib.hid hl
  have HEN := Lib.hid hen
  have HALL := Lib.hid hall
  clear hl hen hall hsrc
  refine callsIn_of_wp_marks Tryd.func25 rfl trivial ?_ rfl
  simp only [Tryd.ntmps25, List.size_toArray, List.length_cons, List.length_nil, Nat.reduceAdd, Nat.reduceSub, Array.replicate_succ, Array.replicate_zero, List.push_toArray, List.append_toArray, List.nil_append, List.cons_append]
  gi_upto_region 2 with fail
  refine wpIn_wide.2 ?_
  go_wp2_with (at_builtin; go_loud (refine wpList_append_src _ rfl _ _ 35 rfl w.heap.size 24 i0 (.agg #[.int .i64 0, .int .u64 0, .int .i64 0]) 3 24 Tryd.underlying35 hi hz0 hz1 hz2 rfl (by decide) _ 2 _ rfl (own_of_blk (cs := #[.int .i64 cur.lv, .int .u64 (u cur.c), .int .i64 cur.ig, .int .i64 high.lv, .int .u64 (u high.c), .int .i64 high.ig]) (Blk.new' (by simp)) (by first | omega | (simp; omega)) (by unfold maxLen; omega) rfl) sA ls.length sc _ rfl (LabsAt.src (HL.out.below (below_alloc (below_alloc (below_alloc (below_alloc (below_alloc (below_alloc (below_alloc (below_alloc (Below.refl w.heap.size w) _) _) _) _) _) _) _) _))).1 labs_one (by unfold maxLen; omega) (by first | omega | (simp; omega)) (by first | omega | (simp; omega)) ?_; intro v1 w1 hown1 hgrow1 hblk1; have HOWN : Hid (w1.ownsRow w.heap.size 24 3 v1 (2 + ls.length) (([cur, high] ++ ls).flatMap fun x => [.int .i64 x.lv, .int .u64 (u x.c), .int .i64 x.ig])) := hown1; have hB1 : Below w.heap.size w w1 := Below.grown (below_alloc (below_alloc (below_alloc (below_alloc (below_alloc (below_alloc (below_alloc (below_alloc (Below.refl w.heap.size w) _) _) _) _) _) _) _) _) hgrow1 (by first | omega | (simp; omega)) (fun k e => by simp only [Value.ownBlock] at e; injection e with e; first | omega | (simp at e; omega) | (simp at e; done)); have R2 : Hid (Blk w1 (w.heap.size + 1 + 1) 24 #[.int .i64 0, .int .u64 0, .int .i64 0]) := Lib.hid (Blk.grown (by repeat (first | exact Blk.new' (by simp; done) | exact Blk.new' rfl | refine Blk.alloc ?_ _)) hgrow1 (by simp only [Value.ownBlock]; intro e; injection e with e; first | omega | (simp at e; omega) | (simp at e; done))); have R3 : Hid (Blk w1 (w.heap.size + 1 + 1 + 1) 3 #[.int .i64 0]) := Lib.hid (Blk.grown (by repeat (first | exact Blk.new' (by simp; done) | exact Blk.new' rfl | refine Blk.alloc ?_ _)) hgrow1 (by simp only [Value.ownBlock]; intro e; injection e with e; first | omega | (simp at e; omega) | (simp at e; done))); have R4 : Hid (Blk w1 (w.heap.size + 1 + 1 + 1 + 1) 26 #[.int .i64 0]) := Lib.hid (Blk.grown (by repeat (first | exact Blk.new' (by simp; done) | exact Blk.new' rfl | refine Blk.alloc ?_ _)) hgrow1 (by simp only [Value.ownBlock]; intro e; injection e with e; first | omega | (simp at e; omega) | (simp at e; done))); have BF : Hid (Blk w1 (w.heap.size + 1 + 1 + 1 + 1 + 1) 43 #[.int .i64 cur.lv, .int .u64 (u cur.c), .int .i64 cur.ig, .int .i64 high.lv, .int .u64 (u high.c), .int .i64 high.ig]) := Lib.hid (Blk.grown (by repeat (first | exact Blk.new' (by simp; done) | exact Blk.new' rfl | refine Blk.alloc ?_ _)) hgrow1 (by simp only [Value.ownBlock]; intro e; injection e with e; first | omega | (simp at e; omega) | (simp at e; done))); have BP : Hid (Blk w1 (w.heap.size + 1 + 1 + 1 + 1 + 1 + 1) 41 #[.pointer (some ⟨w.heap.size + 1 + 1 + 1 + 1 + 1, 0, none⟩)]) := Lib.hid (Blk.grown (by repeat (first | exact Blk.new' (by simp; done) | exact Blk.new' rfl | refine Blk.alloc ?_ _)) hgrow1 (by simp only [Value.ownBlock]; intro e; injection e with e; first | omega | (simp at e; omega) | (simp at e; done))); have HB := Lib.hid hB1; clear hown1 hgrow1 hblk1 hB1))
  refine (areRight_is HALL.out _ (LabsAt.of_own (l := [cur, high] ++ ls) HOWN.out (by first | omega | (simp; omega)))).mono ?_
  rintro e w2 ⟨rfl, hB⟩
  replace HB := Lib.hid (below_call HB.out hB)
  replace R2 := Lib.hid (R2.out.after hB)
  replace R3 := Lib.hid (R3.out.after hB)
  replace R4 := Lib.hid (R4.out.after hB)
  replace BF := Lib.hid (BF.out.after hB)
  replace BP := Lib.hid (BP.out.after hB)
  have hz2 : w.heap.size ≤ w2.heap.size := HB.out.size
  have hzp : w.heap.size + 1 + 1 + 1 + 1 + 1 + 1 < w2.heap.size := BP.out.lt
  clear hB HOWN hz0 hz1 hi
  go_wp2_with fail
  gi_wp2_with fail
  refine ⟨trivial, ?_⟩
  refine (callsIn_wide.2 (told_stop y sa _ (HEN.out.up HB.out))).mono ?_
  rintro e w3 ⟨rfl, hB3⟩
  have HB := Lib.hid (below_call HB.out hB3)
  have S2 := Lib.hid (R2.out.after hB3)
  have S3 := Lib.hid (R3.out.after hB3)
  have S4 := Lib.hid (R4.out.after hB3)
  have r0 := S2.out.at_ (i := 0) (v := .int .i64 0) rfl
  have r1 := S2.out.at_ (i := 1) (v := .int .u64 0) rfl
  have r2 := S2.out.at_ (i := 2) (v := .int .i64 0) rfl
  have r3 := S3.out.at_ (i := 0) (v := .int .i64 0) rfl
  have r4 := S4.out.at_ (i := 0) (v := .int .i64 0) rfl
  have q0 := S2.out.frozen 0
  have q1 := S2.out.frozen 1
  have q2 := S2.out.frozen 2
  have q3 := S3.out.frozen 0
  have q4 := S4.out.frozen 0
  clear R2 R3 R4 hB3
  gi_wp2_with fail
  refine ⟨_, ?_, rfl, below_set (below_set (below_set (below_set (below_set HB.out (by omega) _) (by omega) _) (by omega) _) (by omega) _) (by omega) _⟩
  obtain ⟨k0, k1, k2⟩ := five (.int .i64 0) (.int .u64 0) (.int .i64 0) (.int .i64 0) (.int .i64 20) S2.out S3.out S4.out rfl rfl
  have z0 := k0.at_ (i := 0) (v := .int .i64 0) rfl
  have z1 := k0.at_ (i := 1) (v := .int .u64 0) rfl
  have z2 := k0.at_ (i := 2) (v := .int .i64 0) rfl
  have z3 := k1.at_ (i := 0) (v := .int .i64 0) rfl
  have z4 := k2.at_ (i := 0) (v := .int .i64 20) rfl
  simp [results, Tryd.f25, go_sem, z0, z1, z2, z3, z4]
set_option maxRecDepth 100000 in
set_option maxHeartbeats 8000000 in
theorem Path_good (n : Nat) (hn : 3 ≤ n) (ls : List Lab) (v : Value) (cur high : Lab) (sa : Addr) (w : World) (hl : LabsAt w.heap.size w v ls) (hen : Env sa w) (hle : ls.length ≤ 1000) (hall : rightsV ([cur, high] ++ ls) = .nilIface) (hE : 1 < w.heap.size) (hC : 0 < w.heap.size) (okC : okL cur = true) (okH : okL high = true) (okA : ∀ x, x ∈ ls → okL x = true) (o : Lab) (k : Nat) (hk : pathK high cur ls = k) (ho : pathAt high cur (ls.take k) = o) (en : Int) (hee : (if k = ls.length then (0 : Int) else 120) = en) :
    CallsIn Fence.wide n Tryd.prog 25 #[.agg #[.int .i64 cur.lv, .int .u64 (u cur.c), .int .i64 cur.ig], v, .agg #[.int .i64 high.lv, .int .u64 (u high.c), .int .i64 high.ig]] w fun e w' => e = .returned (.tuple #[.agg #[.int .i64 o.lv, .int .u64 (u o.c), .int .i64 o.ig], .int .i64 (k : Nat), (.int .i64 en)]) ∧ Below w.heap.size w w' := by
  have h1 : 1 ≤ n := by omega
  obtain ⟨i0, hi, hz0, hz1, hz2⟩ := info_parts infoLab
  obtain ⟨sA, sm, sc, rfl⟩ := hl.slice
  obtain ⟨hsrc, rfl⟩ := hl.src
  have HL := Lib.hid hl
  have HEN := Lib.hid hen
  have HALL := Lib.hid hall
  clear hl hen hall hsrc
  refine callsIn_of_wp_marks Tryd.func25 rfl trivial ?_ rfl
  simp only [Tryd.ntmps25, List.size_toArray, List.length_cons, List.length_nil, Nat.reduceAdd, Nat.reduceSub, Array.replicate_succ, Array.replicate_zero, List.push_toArray, List.append_toArray, List.nil_append, List.cons_append]
  gi_upto_region 2 with fail
  refine wpIn_wide.2 ?_
  go_wp2_with (at_builtin; go_loud (refine wpList_append_src _ rfl _ _ 35 rfl w.heap.size 24 i0 (.agg #[.int .i64 0, .int .u64 0, .int .i64 0]) 3 24 Tryd.underlying35 hi hz0 hz1 hz2 rfl (by decide) _ 2 _ rfl (own_of_blk (cs := #[.int .i64 cur.lv, .int .u64 (u cur.c), .int .i64 cur.ig, .int .i64 high.lv, .int .u64 (u high.c), .int .i64 high.ig]) (Blk.new' (by simp)) (by first | omega | (simp; omega)) (by unfold maxLen; omega) rfl) sA ls.length sc _ rfl (LabsAt.src (HL.out.below (below_alloc (below_alloc (below_alloc (below_alloc (below_alloc (below_alloc (below_alloc (below_alloc (Below.refl w.heap.size w) _) _) _) _) _) _) _) _))).1 labs_one (by unfold maxLen; omega) (by first | omega | (simp; omega)) (by first | omega | (simp; omega)) ?_; intro v1 w1 hown1 hgrow1 hblk1; have HOWN : Hid (w1.ownsRow w.heap.size 24 3 v1 (2 + ls.length) (([cur, high] ++ ls).flatMap fun x => [.int .i64 x.lv, .int .u64 (u x.c), .int .i64 x.ig])) := hown1; have hB1 : Below w.heap.size w w1 := Below.grown (below_alloc (below_alloc (below_alloc (below_alloc (below_alloc (below_alloc (below_alloc (below_alloc (Below.refl w.heap.size w) _) _) _) _) _) _) _) _) hgrow1 (by first | omega | (simp; omega)) (fun k e => by simp only [Value.ownBlock] at e; injection e with e; first | omega | (simp at e; omega) | (simp at e; done)); have R2 : Hid (Blk w1 (w.heap.size + 1 + 1) 24 #[.int .i64 0, .int .u64 0, .int .i64 0]) := Lib.hid (Blk.grown (by repeat (first | exact Blk.new' (by simp; done) | exact Blk.new' rfl | refine Blk.alloc ?_ _)) hgrow1 (by simp only [Value.ownBlock]; intro e; injection e with e; first | omega | (simp at e; omega) | (simp at e; done))); have R3 : Hid (Blk w1 (w.heap.size + 1 + 1 + 1) 3 #[.int .i64 0]) := Lib.hid (Blk.grown (by repeat (first | exact Blk.new' (by simp; done) | exact Blk.new' rfl | refine Blk.alloc ?_ _)) hgrow1 (by simp only [Value.ownBlock]; intro e; injection e with e; first | omega | (simp at e; omega) | (simp at e; done))); have R4 : Hid (Blk w1 (w.heap.size + 1 + 1 + 1 + 1) 26 #[.int .i64 0]) := Lib.hid (Blk.grown (by repeat (first | exact Blk.new' (by simp; done) | exact Blk.new' rfl | refine Blk.alloc ?_ _)) hgrow1 (by simp only [Value.ownBlock]; intro e; injection e with e; first | omega | (simp at e; omega) | (simp at e; done))); have BF : Hid (Blk w1 (w.heap.size + 1 + 1 + 1 + 1 + 1) 43 #[.int .i64 cur.lv, .int .u64 (u cur.c), .int .i64 cur.ig, .int .i64 high.lv, .int .u64 (u high.c), .int .i64 high.ig]) := Lib.hid (Blk.grown (by repeat (first | exact Blk.new' (by simp; done) | exact Blk.new' rfl | refine Blk.alloc ?_ _)) hgrow1 (by simp only [Value.ownBlock]; intro e; injection e with e; first | omega | (simp at e; omega) | (simp at e; done))); have BP : Hid (Blk w1 (w.heap.size + 1 + 1 + 1 + 1 + 1 + 1) 41 #[.pointer (some ⟨w.heap.size + 1 + 1 + 1 + 1 + 1, 0, none⟩)]) := Lib.hid (Blk.grown (by repeat (first | exact Blk.new' (by simp; done) | exact Blk.new' rfl | refine Blk.alloc ?_ _)) hgrow1 (by simp only [Value.ownBlock]; intro e; injection e with e; first | omega | (simp at e; omega) | (simp at e; done))); have HB := Lib.hid hB1; clear hown1 hgrow1 hblk1 hB1))
  refine (areRight_is HALL.out _ (LabsAt.of_own (l := [cur, high] ++ ls) HOWN.out (by first | omega | (simp; omega)))).mono ?_
  rintro e w2 ⟨rfl, hB⟩
  replace HB := Lib.hid (below_call HB.out hB)
  replace R2 := Lib.hid (R2.out.after hB)
  replace R3 := Lib.hid (R3.out.after hB)
  replace R4 := Lib.hid (R4.out.after hB)
  replace BF := Lib.hid (BF.out.after hB)
  replace BP := Lib.hid (BP.out.after hB)
  have hz2 : w.heap.size ≤ w2.heap.size := HB.out.size
  have hzp : w.heap.size + 1 + 1 + 1 + 1 + 1 + 1 < w2.heap.size := BP.out.lt
  clear hB HOWN hz0 hz1 hi
  go_wp2_with fail
  have OKA := Lib.hid okA
  have HKK := Lib.hid hk
  have HOO := Lib.hid ho
  have HEE := Lib.hid hee
  clear okA hk ho hee
  generalize e6 : w.heap.size + 1 + 1 + 1 + 1 + 1 + 1 = b6 at *
  generalize e5 : w.heap.size + 1 + 1 + 1 + 1 + 1 = b5 at *
  generalize e4 : w.heap.size + 1 + 1 + 1 + 1 = b4 at *
  generalize e3 : w.heap.size + 1 + 1 + 1 = b3 at *
  generalize e2 : w.heap.size + 1 + 1 = b2 at *
  have p6 := BP.out.at_ (i := 0) (v := .pointer (some ⟨b5, 0, none⟩)) rfl
  gi_wp2_with fail
  refine ⟨trivial, ?_⟩
  refine (callsIn_wide.2 (path_fn b5 sA ls.length sc w2)).mono ?_
  rintro e w3 ⟨rfl, rfl⟩
  clear p6
  gi_wp2_with fail
  obtain ⟨W0, hW⟩ : ∃ W0, (w2.alloc (.cells #[.pointer (some ⟨b5, 0, none⟩)] 41)).alloc (.cells #[.slice sA ls.length sc] 35) = W0 := ⟨_, rfl⟩
  have hbox : W0.cell? ⟨w2.heap.size + 1, 0, none⟩ = some (.slice sA ls.length sc) := by
    rw [← hW]; exact (Blk.new' (t := 35) (cs := #[.slice sA ls.length sc]) (w := w2.alloc _) (by simp)).at_ rfl
  have hbf : Blk W0 w2.heap.size 41 #[.pointer (some ⟨b5, 0, none⟩)] := by rw [← hW]; exact (Blk.new' rfl).alloc _
  have hfb : Blk W0 b5 43 #[.int .i64 cur.lv, .int .u64 (u cur.c), .int .i64 cur.ig, .int .i64 high.lv, .int .u64 (u high.c), .int .i64 high.ig] := by rw [← hW]; exact (BF.out.alloc _).alloc _
  have hI0 : PathI w b2 b3 b4 b5 b6 high cur ls [] W0 := by
    rw [← hW]
    exact ⟨Nat.zero_le _, fun x hx => by simp at hx, GoodTo.zero _ _ _, (R2.out.alloc _).alloc _, (R3.out.alloc _).alloc _, (R4.out.alloc _).alloc _, (BP.out.alloc _).alloc _, below_alloc (below_alloc HB.out _) _⟩
  have hs0 : W0.heap.size = w2.heap.size + 2 := by rw [← hW]; simp
  rw [hW]
  have HI0 := Lib.hid hI0
  have HBX := Lib.hid hbox
  have HBF := Lib.hid hbf
  have HFB := Lib.hid hfb
  clear hW hI0 hbox hbf hfb R2 R3 R4 BF BP HB
  generalize hbfe : w2.heap.size = bf at *
  clear hbfe
  have hT : ∀ {k : Nat}, (k = b5 ∨ W0.heap.size + 2 ≤ k) → w.heap.size ≤ k := fun h => by omega
  refine wpIn_rangeFunc_M rfl h1 (gf := 54) (lb := #[.pointer (some ⟨bf + 1, 0, none⟩), .pointer (some ⟨bf, 0, none⟩)]) rfl trivial (enters_of Tryd.func54 (by kernel_rfl) rfl)
    (encs := encP) (T := fun k => k = b5 ∨ W0.heap.size + 2 ≤ k) (U := fun k => k = b2 ∨ k = b3 ∨ k = b4) (Y := fun pre it W1 => NextP sa high cur ls b5 pre it W1)
    (S := fun xs W1 => (xs.length = ls.length ∧ GoodTo high cur ls ls.length ∧ Blk W1 b5 43 #[.int .i64 (pathAt high cur (ls.take xs.length)).lv, .int .u64 (u (pathAt high cur (ls.take xs.length)).c), .int .i64 (pathAt high cur (ls.take xs.length)).ig, .int .i64 high.lv, .int .u64 (u high.c), .int .i64 high.ig]) ∨ ∃ it, it ∈ xs ∧ it.2 ≠ .nilIface)
    (Sp := fun pre W1 => Blk W1 b5 43 #[.int .i64 (pathAt high cur (ls.take pre.length)).lv, .int .u64 (u (pathAt high cur (ls.take pre.length)).c), .int .i64 (pathAt high cur (ls.take pre.length)).ig, .int .i64 high.lv, .int .u64 (u high.c), .int .i64 high.ig])
    (fun W1 hb hs => ?seq) (fun _ => rfl)
    (fun pre W => PathI w b2 b3 b4 b5 b6 high cur ls pre W) (fun c pre W => c = .ret ∧ PathX w b2 b3 b4 o k ls W) ?hI ?hIx (fun s A B h hm => h.imp (fun ⟨x, y, z⟩ => ⟨x, y, hm.block z rfl id⟩) id) (fun _ _ _ h hm => hm.block h rfl id) HI0.out
    (fun pre it a' W => PathI w b2 b3 b4 b5 b6 high cur ls pre W ∧ NextP sa high cur ls b5 pre it W ∧ a' = { tmps := #[.agg #[.int .i64 cur.lv, .int .u64 (u cur.c), .int .i64 cur.ig], .slice sA ls.length sc, .agg #[.int .i64 high.lv, .int .u64 (u high.c), .int .i64 high.ig], .pointer (some ⟨w.heap.size, 0, none⟩), undef, .pointer (some ⟨w.heap.size + 1, 0, none⟩), .pointer (some ⟨b2, 0, none⟩), .pointer (some ⟨b3, 0, none⟩), .pointer (some ⟨b4, 0, none⟩), .pointer (some ⟨b6, 0, none⟩), .nilIface, .int .i64 (it.1 : Nat), it.2, .agg #[.int .i64 cur.lv, .int .u64 (u cur.c), .int .i64 cur.ig], .agg #[.int .i64 high.lv, .int .u64 (u high.c), .int .i64 high.ig], .agg #[.int .i64 cur.lv, .int .u64 (u cur.c), .int .i64 cur.ig, .int .i64 high.lv, .int .u64 (u high.c), .int .i64 high.ig], .pointer (some ⟨b5, 0, none⟩), .agg #[.int .i64 cur.lv, .int .u64 (u cur.c), .int .i64 cur.ig], .agg #[.int .i64 high.lv, .int .u64 (u high.c), .int .i64 high.ig], .slice (some ⟨b6 + 1, 0, none⟩) 2 2, .slice sA ls.length sc, v1, .nilIface, .nilIface, .bool false, undef, undef, undef, .pointer (some ⟨b5, 0, none⟩), .slice sA ls.length sc, .func (.func 54) #[] #[.pointer (some ⟨bf + 1, 0, none⟩), .pointer (some ⟨bf, 0, none⟩)], .int .i64 (it.1 : Nat), it.2, undef, undef, undef, undef, undef, undef, undef, undef, undef, undef, undef, undef, undef, undef, undef], defers := [] }) ?hMid ?hassign ?hbody ?hdone ?hstop
  case seq =>
    have := path_seq (n - 1) (by omega) ls (.slice sA ls.length sc) cur high sa (bf + 1) bf b5 w.heap.size W0.heap.size W1 (fun k => k = b2 ∨ k = b3 ∨ k = b4) ((hb.cell (p := ⟨bf + 1, 0, none⟩) (by show bf + 1 < _; omega)).trans HBX.out) (HBF.out.after hb) (HFB.out.after hb) ((HL.out.below HI0.out.below).below (hb.mono (by omega))) ((HEN.out.up HI0.out.below).up hb) hE hC (by omega) (by omega) okC okH OKA.out (fun k hk => by omega)
    rw [hs] at this
    exact this
  case hI => exact fun pre A B h hm => ⟨h.le, h.nil, h.good, hm.block h.r2 rfl (fun t => by omega), hm.block h.r3 rfl (fun t => by omega), hm.block h.r4 rfl (fun t => by omega), hm.block h.p rfl (fun t => by omega), hm.below h.below (Nat.le_refl _) (by omega) (fun k t => hT t)⟩
  case hIx => exact fun c pre A B ⟨hc, h⟩ hm => ⟨hc, h.lt, hm.block h.r2 rfl (fun t => by omega), hm.block h.r3 rfl (fun t => by omega), hm.block h.r4 rfl (fun t => by omega), hm.below h.below (Nat.le_refl _) (by omega) (fun k t => hT t)⟩
  case hMid => exact fun pre it a' A B ⟨h, hn, ha⟩ hm => ⟨⟨h.le, h.nil, h.good, hm.block h.r2 rfl id, hm.block h.r3 rfl id, hm.block h.r4 rfl id, hm.block h.p rfl id, hm.below h.below (Nat.le_refl _) (by omega) (fun k t => t.elim)⟩, ⟨hn.i, hn.good, hn.e, hm.block hn.b rfl id⟩, ha⟩
  case hassign =>
    intro l pre it W hi hnx
    have HI := Lib.hid hi
    have HN := Lib.hid hnx
    clear hi hnx
    obtain ⟨i, er⟩ := it
    simp only [encP]
    gi_wp2
    exact ⟨Turns.refl _ _, HI.out, HN.out, trivial⟩
  case hbody =>
    rintro l pre ⟨i, er⟩ a' W hsz ⟨hi, ⟨hni, hgood, ⟨x, hx, hxe⟩, hnb⟩, rfl⟩
    dsimp only at hni hxe
    subst hni
    have hxl : pre.length < ls.length := (List.getElem?_eq_some_iff.1 hx).1
    have hsn : pathAt high cur (ls.take (pre.length + 1)) = stepP high (pathAt high cur (ls.take pre.length)) x := by rw [take_snoc' hx, pathAt_snoc]
    have HI := Lib.hid hi
    by_cases hl3 : le3 (joinL (pathAt high cur (ls.take pre.length)) x) high = true
    · have hen : er = .nilIface := hxe.trans (if_pos hl3)
      subst hen
      have HG := Lib.hid (hgood.next hx hl3)
      clear hxe hx hgood hnb hsn hl3 hi
      gi_wp2_with fail
      refine ⟨Turns.refl _ _, ?_⟩
      have ln : (pre ++ [(pre.length, Value.nilIface)]).length = pre.length + 1 := by simp
      exact ⟨by rw [ln]; exact hxl, fun z hz => by
        rcases List.mem_append.1 hz with hz | hz
        · exact HI.out.nil z hz
        · rw [List.mem_singleton.1 hz], by rw [ln]; exact HG.out, HI.out.r2, HI.out.r3, HI.out.r4, HI.out.p, HI.out.below⟩
    · have hkp : pre.length = k := by
        rw [← HKK.out]; exact (pathK_is ls cur pre.length hgood (by omega) (.inr ⟨x, hx, by simpa using hl3⟩)).symm
      have hen : er = (.iface 67 (.agg #[.iface 109 (.pointer (some sa)), .int .i64 x.lv, .int .u64 (u x.c), .int .i64 x.ig])) := hxe.trans (if_neg hl3)
      subst hen
      have hoo : pathAt high cur (ls.take (pre.length + 1)) = o := by rw [hsn, show stepP high (pathAt high cur (ls.take pre.length)) x = pathAt high cur (ls.take pre.length) from if_neg hl3, hkp]; exact HOO.out
      rw [hoo] at hnb
      have HNB := Lib.hid hnb
      have HW := Lib.hid (HEN.out.up hi.below)
      clear hxe hx hgood hnb hsn hl3 hoo
      subst hkp
      have HXL := Lib.hid hxl
      have HBP := hi.p
      have P6 := Lib.hid HBP
      clear HBP hi
      have p6 := P6.out.at_ (i := 0) (v := .pointer (some ⟨b5, 0, none⟩)) rfl
      have c0 := HNB.out.at_ (i := 0) (v := .int .i64 o.lv) rfl
      have c1 := HNB.out.at_ (i := 1) (v := .int .u64 (u o.c)) rfl
      have c2 := HNB.out.at_ (i := 2) (v := .int .i64 o.ig) rfl
      gi_wp2_with fail
      gi_region_with ((refine ⟨trivial, (fun h => by cases h), ?_⟩; refine (callsIn_round (told_sent x sa _ (HW.out.up (Below.refl W.heap.size W).drew))).mono ?_; rintro e w5 ⟨rfl, hB⟩; (have R2 := Lib.hid ((show Blk W.drew b2 _ _ from HI.out.r2).after hB)); (have R3 := Lib.hid ((show Blk W.drew b3 _ _ from HI.out.r3).after hB)); (have R4 := Lib.hid ((show Blk W.drew b4 _ _ from HI.out.r4).after hB)); (have p6' := ((show Blk W.drew b6 _ _ from P6.out).after hB).at_ (i := 0) (v := .pointer (some ⟨b5, 0, none⟩)) rfl); (have N5 := ((show Blk W.drew b5 _ _ from HNB.out).after hB)); (have c0' := N5.at_ (i := 0) (v := .int .i64 o.lv) rfl); (have c1' := N5.at_ (i := 1) (v := .int .u64 (u o.c)) rfl); (have c2' := N5.at_ (i := 2) (v := .int .i64 o.ig) rfl); (have r0 := R2.out.at_ (i := 0) (v := .int .i64 0) rfl); (have r1 := R2.out.at_ (i := 1) (v := .int .u64 0) rfl); (have r2 := R2.out.at_ (i := 2) (v := .int .i64 0) rfl); (have r3 := R3.out.at_ (i := 0) (v := .int .i64 0) rfl); (have r4 := R4.out.at_ (i := 0) (v := .int .i64 0) rfl); (have q0 := R2.out.frozen 0); (have q1 := R2.out.frozen 1); (have q2 := R2.out.frozen 2); (have q3 := R3.out.frozen 0); (have q4 := R4.out.frozen 0); (have HB5 := Lib.hid hB); clear N5 hB p6 c0 c1 c2))
      all_goals
        gi_wp2_with fail
        obtain ⟨k0, k1, k2⟩ := five (.int .i64 o.lv) (.int .u64 (u o.c)) (.int .i64 o.ig) (.int .i64 pre.length) (.int .i64 120) R2.out R3.out R4.out e3 e4
        exact ⟨(((((((Turns.refl _ W).drew).below HB5.out).setCell (p := ⟨b2, 0, none⟩) (.inl rfl) _).setCell (p := ⟨b2, 1, none⟩) (.inl rfl) _).setCell (p := ⟨b2, 2, none⟩) (.inl rfl) _).setCell (p := ⟨b3, 0, none⟩) (.inr (.inl rfl)) _).setCell (p := ⟨b4, 0, none⟩) (.inr (.inr rfl)) _, rfl, HXL.out, k0, k1, k2, below_set (below_set (below_set (below_set (below_set (below_call HI.out.below.drew HB5.out) (by omega) _) (by omega) _) (by omega) _) (by omega) _) (by omega) _⟩
  case hdone =>
    intro D xs W hD hS hi hK
    rcases hS with ⟨hxl, hgd, hfb⟩ | ⟨it, hit, hne⟩
    rotate_left
    · exact absurd (hi.nil it hit) hne
    have hkl : k = ls.length := by rw [← HKK.out]; exact pathK_is ls cur ls.length hgd (Nat.le_refl _) (.inl rfl)
    have hen0 : en = 0 := by rw [← HEE.out, if_pos hkl]
    subst hen0
    rw [hxl, ← hkl, HOO.out] at hfb
    have HI := Lib.hid hi
    have HF := Lib.hid hfb
    have HKL := Lib.hid hkl
    have HDD := Lib.hid (show D ≠ b2 ∧ D ≠ b3 ∧ D ≠ b4 from ⟨by omega, by omega, by omega⟩)
    have HD := Lib.hid hK
    have p6 := HI.out.p.at_ (i := 0) (v := .pointer (some ⟨b5, 0, none⟩)) rfl
    have c0 := HF.out.at_ (i := 0) (v := .int .i64 o.lv) rfl
    have c1 := HF.out.at_ (i := 1) (v := .int .u64 (u o.c)) rfl
    have c2 := HF.out.at_ (i := 2) (v := .int .i64 o.ig) rfl
    have r0 := HI.out.r2.at_ (i := 0) (v := .int .i64 0) rfl
    have r1 := HI.out.r2.at_ (i := 1) (v := .int .u64 0) rfl
    have r2 := HI.out.r2.at_ (i := 2) (v := .int .i64 0) rfl
    have r3 := HI.out.r3.at_ (i := 0) (v := .int .i64 0) rfl
    have r4 := HI.out.r4.at_ (i := 0) (v := .int .i64 0) rfl
    have q0 := HI.out.r2.frozen 0
    have q1 := HI.out.r2.frozen 1
    have q2 := HI.out.r2.frozen 2
    have q3 := HI.out.r3.frozen 0
    have q4 := HI.out.r4.frozen 0
    clear hxl hgd hfb hi hkl hK
    gi_wp2_with fail
    obtain ⟨k0, k1, k2⟩ := five (.int .i64 o.lv) (.int .u64 (u o.c)) (.int .i64 o.ig) (.int .i64 ls.length) (.int .i64 0) HI.out.r2 HI.out.r3 HI.out.r4 e3 e4
    have hB : Below w.heap.size w (((((W.setCell ⟨b2, 0, none⟩ (.int .i64 o.lv)).setCell ⟨b2, 1, none⟩ (.int .u64 (u o.c))).setCell ⟨b2, 2, none⟩ (.int .i64 o.ig)).setCell ⟨b3, 0, none⟩ (.int .i64 ls.length)).setCell ⟨b4, 0, none⟩ (.int .i64 0)) := below_set (below_set (below_set (below_set (below_set HI.out.below (by omega) _) (by omega) _) (by omega) _) (by omega) _) (by omega) _
    have hK4 : (((((W.setCell ⟨b2, 0, none⟩ (.int .i64 o.lv)).setCell ⟨b2, 1, none⟩ (.int .u64 (u o.c))).setCell ⟨b2, 2, none⟩ (.int .i64 o.ig)).setCell ⟨b3, 0, none⟩ (.int .i64 ls.length)).setCell ⟨b4, 0, none⟩ (.int .i64 0)).heap[D]? = some (.deferred (some [])) := (Below.heap_setCell _ _ _ D HDD.out.2.2).trans ((Below.heap_setCell _ _ _ D HDD.out.2.1).trans ((Below.heap_setCell _ _ _ D HDD.out.1).trans ((Below.heap_setCell _ _ _ D HDD.out.1).trans ((Below.heap_setCell _ _ _ D HDD.out.1).trans HD.out))))
    refine ⟨by simp, .inl ⟨_, _, rfl, run_takeDeferred hK4, ?_⟩⟩
    have g0 := k0.putObj (D := D) (Ne.symm HDD.out.1) (.deferred none)
    have g1 := k1.putObj (D := D) (Ne.symm HDD.out.2.1) (.deferred none)
    have g2 := k2.putObj (D := D) (Ne.symm HDD.out.2.2) (.deferred none)
    have z0 := g0.at_ (i := 0) (v := .int .i64 o.lv) rfl
    have z1 := g0.at_ (i := 1) (v := .int .u64 (u o.c)) rfl
    have z2 := g0.at_ (i := 2) (v := .int .i64 o.ig) rfl
    have z3 := g1.at_ (i := 0) (v := .int .i64 ls.length) rfl
    have z4 := g2.at_ (i := 0) (v := .int .i64 0) rfl
    refine ⟨_, ?_, rfl, below_putD hB hK4 (by omega)⟩
    simp [results, Tryd.f25, go_sem, z0, z1, z2, z3, z4, HKL.out]
  case hstop =>
    rintro D c pre W hD - ⟨rfl, hx⟩ hK
    have hen0 : en = 120 := by rw [← HEE.out, if_neg (by have := hx.lt; omega)]
    subst hen0
    have HX := Lib.hid hx
    have HD := Lib.hid hK
    clear hx hK
    gi_wp2_with fail
    refine ⟨by simp, .inl ⟨_, _, rfl, run_takeDeferred HD.out, ?_⟩⟩
    have g0 := HX.out.r2.putObj (D := D) (by omega) (.deferred none)
    have g1 := HX.out.r3.putObj (D := D) (by omega) (.deferred none)
    have g2 := HX.out.r4.putObj (D := D) (by omega) (.deferred none)
    have z0 := g0.at_ (i := 0) (v := .int .i64 o.lv) rfl
    have z1 := g0.at_ (i := 1) (v := .int .u64 (u o.c)) rfl
    have z2 := g0.at_ (i := 2) (v := .int .i64 o.ig) rfl
    have z3 := g1.at_ (i := 0) (v := .int .i64 k) rfl
    have z4 := g2.at_ (i := 0) (v := .int .i64 120) rfl
    refine ⟨_, ?_, rfl, below_putD HX.out.below HD.out (by omega)⟩
    simp [results, Tryd.f25, go_sem, z0, z1, z2, z3, z4]
theorem Path_any (ls : List Lab) (v : Value) (cur high : Lab) (sa : Addr) (w : World) (hl : LabsAt w.heap.size w v ls) (hen : Env sa w) (hle : ls.length ≤ 1000) :
    Calls Tryd.prog 25 #[.agg #[.int .i64 cur.lv, .int .u64 (u cur.c), .int .i64 cur.ig], v, .agg #[.int .i64 high.lv, .int .u64 (u high.c), .int .i64 high.ig]] w fun e w' => e = .returned (.tuple #[.agg #[.int .i64 (pathsL cur ls high).lv, .int .u64 (u (pathsL cur ls high).c), .int .i64 (pathsL cur ls high).ig], .int .i64 (pathsK cur ls high), .int .i64 (pathsE cur ls high)]) ∧ Below w.heap.size w w' := by
  by_cases h : allR cur high ls = true
  · have hA : ∀ x, x ∈ [cur, high] ++ ls → okL x = true := by rw [← List.all_eq_true]; exact h
    have e1 : pathsL cur ls high = pathAt high cur (ls.take (pathK high cur ls)) := if_pos h
    have e2 : pathsK cur ls high = (pathK high cur ls : Nat) := if_pos h
    have e3 : pathsE cur ls high = (if pathK high cur ls = ls.length then 0 else 120) := if_pos h
    rw [e1, e2]
    exact callsIn_wide.1 (Path_good 3 (Nat.le_refl _) ls v cur high sa w hl hen hle (rightsV_ok hA) hen.h.1 (World.block_lt_of_cell? _ _ hen.s) (hA cur (by simp)) (hA high (by simp)) (fun x hx => hA x (by simp [hx])) _ _ rfl rfl _ e3.symm)
  · have e1 : pathsL cur ls high = zeroL := if_neg h
    have e2 : pathsK cur ls high = 0 := if_neg h
    have e3 : pathsE cur ls high = 20 := if_neg h
    obtain ⟨y, hy⟩ := rightsV_no (l := [cur, high] ++ ls) (by rw [← List.all_eq_true]; exact h)
    rw [e1, e2, e3]
    exact callsIn_wide.1 (Path_bad 3 (Nat.le_refl _) ls v cur high y sa w hl hen hle hy)
end Go.Proofs.YtmbafllkiofhnaaDoor
