/-
  THE WALK OF plimsollref12.Path (printed by wip/genpathr.py).
-/
import Derived.Test.YtmbafllkiofhnaaDoorPathB
import Derived.Test.YtmbafllkiofhnaaDoorCeiE
import Derived.Test.YtmbafllkiofhnaaDoorEls
import Derived.Deep.DeepCutAuto
import Derived.LoopN
import Derived.WalkMore
namespace Go.Proofs.YtmbafllkiofhnaaDoor
open Go.RowKit

attribute [local go_sem] u_and u_or u_andNot u_add u_sub u_bit u_eq_zero u_beq

theorem rFloat_is {o x h nx : Lab} {n : Int} (hn : floatL o x h = nx) (he : floatE o x h = n) (W : World) :
    Calls Tryd.prog 17 #[.agg #[.int .i64 o.lv, .int .u64 (u o.c), .int .i64 o.ig], .agg #[.int .i64 x.lv, .int .u64 (u x.c), .int .i64 x.ig], .agg #[.int .i64 h.lv, .int .u64 (u h.c), .int .i64 h.ig]] W fun e w' => e = .returned (.tuple #[.agg #[.int .i64 nx.lv, .int .u64 (u nx.c), .int .i64 nx.ig], .int .i64 n]) ∧ Below W.heap.size W w' := by
  subst hn he; exact rFloat_any o x h W
theorem LabsAt.len63 {B : Nat} {w : World} {v : Value} {l : List Lab} (h : LabsAt B w v l) : l.length ≤ 9223372036854775807 := by
  rcases h with ⟨_, rfl⟩ | ⟨_, _, _, _, _, _, h, _⟩
  · exact Nat.zero_le _
  · exact h
theorem all_snoc {ls : List Lab} {k : Nat} {x : Lab} (hx : ls[k]? = some x) : (ls.take (k + 1)).all okL = ((ls.take k).all okL && okL x) := by
  rw [take_snoc' hx, List.all_append]; simp
set_option maxRecDepth 100000 in
set_option maxHeartbeats 8000000 in
theorem rPath_0 (ls : List Lab) (v : Value) (cur high : Lab) (w0 : World) (hl : LabsAt w0.heap.size w0 v ls) (hc1 : okL cur = false) :
    Calls Tryd.prog 26 #[.agg #[.int .i64 cur.lv, .int .u64 (u cur.c), .int .i64 cur.ig], v, .agg #[.int .i64 high.lv, .int .u64 (u high.c), .int .i64 high.ig]] w0 fun e w' => e = .returned (.tuple #[.agg #[.int .i64 0, .int .u64 0, .int .i64 0], .int .i64 0, .int .i64 20]) ∧ Below w0.heap.size w0 w' := by
  obtain ⟨sA, sm, sc, rfl⟩ := hl.slice
  obtain ⟨hsrc, rfl⟩ := hl.src
  have hn63 := hl.len63
  have HL := Lib.hid hl
  clear hl hsrc
  go_enter Tryd.func26, Tryd.ntmps26
  go_wp2_with fail
  refine (rRightIs hc1 _).mono ?_
  rintro e w1 ⟨rfl, hB⟩
  have B0 : Hid (Blk w1 w0.heap.size 24 #[.int .i64 cur.lv, .int .u64 (u cur.c), .int .i64 cur.ig]) := Lib.hid ((((Blk.new' rfl).alloc _).alloc _).after hB)
  have B1 : Hid (Blk w1 (w0.heap.size + 1) 24 #[.int .i64 high.lv, .int .u64 (u high.c), .int .i64 high.ig]) := Lib.hid (((Blk.new' (by simp)).alloc _).after hB)
  have B2 : Hid (Blk w1 (w0.heap.size + 1 + 1) 24 #[.int .i64 0, .int .u64 0, .int .i64 0]) := Lib.hid ((Blk.new' (by simp)).after hB)
  have HB := Lib.hid (below_call (below_alloc (below_alloc (below_alloc (Below.refl w0.heap.size w0) _) _) _) hB)
  clear hB
  generalize e2 : w0.heap.size + 1 + 1 = gr at *
  generalize e1 : w0.heap.size + 1 = gh at *
  go_wp2_with fail
  go_loopw [9, 10] (fun a i wr => ∃ k : Nat, a = .bool false ∧ i = .int .i64 k ∧ k ≤ ls.length ∧ Blk wr w0.heap.size 24 #[.int .i64 cur.lv, .int .u64 (u cur.c), .int .i64 cur.ig] ∧ Blk wr gh 24 #[.int .i64 high.lv, .int .u64 (u high.c), .int .i64 high.ig] ∧ Blk wr gr 24 #[.int .i64 0, .int .u64 0, .int .i64 0] ∧ Below w0.heap.size w0 wr) (fun _ i _ => ls.length - (intOf i).toNat)
  case atStart => exact ⟨0, rfl, rfl, Nat.zero_le _, B0.out, B1.out, B2.out, HB.out⟩
  case round =>
    obtain ⟨k, rfl, rfl, hk, h0, h1, h2, hB⟩ := hrel
    replace B0 := Lib.hid h0
    replace B1 := Lib.hid h1
    replace B2 := Lib.hid h2
    replace HB := Lib.hid hB
    clear h0 h1 h2 hB
    by_cases hkl : k < ls.length
    · have hkz2 : (k : Int) < (ls.length : Int) := by omega
      go_wp2_with fail
      go_roundw
      case rel => exact ⟨k + 1, rfl, by go_num, by omega, B0.out, B1.out, B2.out, HB.out⟩
      case measure => simp [intOf]; omega
    · have hke : k = ls.length := by omega
      subst hke
      have p0 := B2.out.at_ (i := 0) (v := .int .i64 0) rfl
      have p1 := B2.out.at_ (i := 1) (v := .int .u64 0) rfl
      have p2 := B2.out.at_ (i := 2) (v := .int .i64 0) rfl
      have f0 := B2.out.frozen 0
      have f1 := B2.out.frozen 1
      have f2 := B2.out.frozen 2
      go_wp2_with fail
      have R : Blk (((wr.setCell ⟨gr, 0, none⟩ (.int .i64 0)).setCell ⟨gr, 1, none⟩ (.int .u64 0)).setCell ⟨gr, 2, none⟩ (.int .i64 0)) gr 24 #[.int .i64 0, .int .u64 0, .int .i64 0] := (Blk.set' (u := .int .i64 0) (i := 2) (cs' := #[.int .i64 0, .int .u64 0, .int .i64 0]) (Blk.set' (u := .int .u64 0) (i := 1) (cs' := #[.int .i64 0, .int .u64 0, .int .i64 0]) (Blk.set' (u := .int .i64 0) (i := 0) (cs' := #[.int .i64 0, .int .u64 0, .int .i64 0]) B2.out rfl) rfl) rfl)
      have k0 := R.at_ (i := 0) (v := .int .i64 0) rfl
      have k1 := R.at_ (i := 1) (v := .int .u64 0) rfl
      have k2 := R.at_ (i := 2) (v := .int .i64 0) rfl
      refine bodyPost_ret (v := .tuple #[.agg #[.int .i64 0, .int .u64 0, .int .i64 0], .int .i64 0, .int .i64 20]) (by simp [results, Tryd.results26, go_sem, k0, k1, k2]) rfl ⟨rfl, (below_set (below_set (below_set HB.out (by omega) _) (by omega) _) (by omega) _)⟩
set_option maxRecDepth 100000 in
set_option maxHeartbeats 8000000 in
theorem rPath_1 (ls : List Lab) (v : Value) (cur high : Lab) (w0 : World) (hl : LabsAt w0.heap.size w0 v ls) (hc1 : okL cur = true) (hc2 : okL high = false) :
    Calls Tryd.prog 26 #[.agg #[.int .i64 cur.lv, .int .u64 (u cur.c), .int .i64 cur.ig], v, .agg #[.int .i64 high.lv, .int .u64 (u high.c), .int .i64 high.ig]] w0 fun e w' => e = .returned (.tuple #[.agg #[.int .i64 0, .int .u64 0, .int .i64 0], .int .i64 0, .int .i64 20]) ∧ Below w0.heap.size w0 w' := by
  obtain ⟨sA, sm, sc, rfl⟩ := hl.slice
  obtain ⟨hsrc, rfl⟩ := hl.src
  have hn63 := hl.len63
  have HL := Lib.hid hl
  clear hl hsrc
  go_enter Tryd.func26, Tryd.ntmps26
  go_wp2_with fail
  refine (rRightIs hc1 _).mono ?_
  rintro e w1 ⟨rfl, hB⟩
  have B0 : Hid (Blk w1 w0.heap.size 24 #[.int .i64 cur.lv, .int .u64 (u cur.c), .int .i64 cur.ig]) := Lib.hid ((((Blk.new' rfl).alloc _).alloc _).after hB)
  have B1 : Hid (Blk w1 (w0.heap.size + 1) 24 #[.int .i64 high.lv, .int .u64 (u high.c), .int .i64 high.ig]) := Lib.hid (((Blk.new' (by simp)).alloc _).after hB)
  have B2 : Hid (Blk w1 (w0.heap.size + 1 + 1) 24 #[.int .i64 0, .int .u64 0, .int .i64 0]) := Lib.hid ((Blk.new' (by simp)).after hB)
  have HB := Lib.hid (below_call (below_alloc (below_alloc (below_alloc (Below.refl w0.heap.size w0) _) _) _) hB)
  clear hB
  generalize e2 : w0.heap.size + 1 + 1 = gr at *
  generalize e1 : w0.heap.size + 1 = gh at *
  have p0 := B1.out.at_ (i := 0) (v := .int .i64 high.lv) rfl
  have p1 := B1.out.at_ (i := 1) (v := .int .u64 (u high.c)) rfl
  have p2 := B1.out.at_ (i := 2) (v := .int .i64 high.ig) rfl
  go_wp2_with fail
  refine (rRightIs hc2 _).mono ?_
  rintro e w2 ⟨rfl, hB⟩
  clear p0 p1 p2
  replace B0 := Lib.hid (B0.out.after hB)
  replace B1 := Lib.hid (B1.out.after hB)
  replace B2 := Lib.hid (B2.out.after hB)
  replace HB := Lib.hid (below_call HB.out hB)
  clear hB
  go_wp2_with fail
  go_loopw [9, 10] (fun a i wr => ∃ k : Nat, a = .bool false ∧ i = .int .i64 k ∧ k ≤ ls.length ∧ Blk wr w0.heap.size 24 #[.int .i64 cur.lv, .int .u64 (u cur.c), .int .i64 cur.ig] ∧ Blk wr gh 24 #[.int .i64 high.lv, .int .u64 (u high.c), .int .i64 high.ig] ∧ Blk wr gr 24 #[.int .i64 0, .int .u64 0, .int .i64 0] ∧ Below w0.heap.size w0 wr) (fun _ i _ => ls.length - (intOf i).toNat)
  case atStart => exact ⟨0, rfl, rfl, Nat.zero_le _, B0.out, B1.out, B2.out, HB.out⟩
  case round =>
    obtain ⟨k, rfl, rfl, hk, h0, h1, h2, hB⟩ := hrel
    replace B0 := Lib.hid h0
    replace B1 := Lib.hid h1
    replace B2 := Lib.hid h2
    replace HB := Lib.hid hB
    clear h0 h1 h2 hB
    by_cases hkl : k < ls.length
    · have hkz2 : (k : Int) < (ls.length : Int) := by omega
      go_wp2_with fail
      go_roundw
      case rel => exact ⟨k + 1, rfl, by go_num, by omega, B0.out, B1.out, B2.out, HB.out⟩
      case measure => simp [intOf]; omega
    · have hke : k = ls.length := by omega
      subst hke
      have p0 := B2.out.at_ (i := 0) (v := .int .i64 0) rfl
      have p1 := B2.out.at_ (i := 1) (v := .int .u64 0) rfl
      have p2 := B2.out.at_ (i := 2) (v := .int .i64 0) rfl
      have f0 := B2.out.frozen 0
      have f1 := B2.out.frozen 1
      have f2 := B2.out.frozen 2
      go_wp2_with fail
      have R : Blk (((wr.setCell ⟨gr, 0, none⟩ (.int .i64 0)).setCell ⟨gr, 1, none⟩ (.int .u64 0)).setCell ⟨gr, 2, none⟩ (.int .i64 0)) gr 24 #[.int .i64 0, .int .u64 0, .int .i64 0] := (Blk.set' (u := .int .i64 0) (i := 2) (cs' := #[.int .i64 0, .int .u64 0, .int .i64 0]) (Blk.set' (u := .int .u64 0) (i := 1) (cs' := #[.int .i64 0, .int .u64 0, .int .i64 0]) (Blk.set' (u := .int .i64 0) (i := 0) (cs' := #[.int .i64 0, .int .u64 0, .int .i64 0]) B2.out rfl) rfl) rfl)
      have k0 := R.at_ (i := 0) (v := .int .i64 0) rfl
      have k1 := R.at_ (i := 1) (v := .int .u64 0) rfl
      have k2 := R.at_ (i := 2) (v := .int .i64 0) rfl
      refine bodyPost_ret (v := .tuple #[.agg #[.int .i64 0, .int .u64 0, .int .i64 0], .int .i64 0, .int .i64 20]) (by simp [results, Tryd.results26, go_sem, k0, k1, k2]) rfl ⟨rfl, (below_set (below_set (below_set HB.out (by omega) _) (by omega) _) (by omega) _)⟩
set_option maxRecDepth 100000 in
set_option maxHeartbeats 8000000 in
theorem rPath_2 (ls : List Lab) (v : Value) (cur high : Lab) (w0 : World) (hl : LabsAt w0.heap.size w0 v ls) (hc1 : okL cur = true) (hc2 : okL high = true) (hno : ls.all okL = false) :
    Calls Tryd.prog 26 #[.agg #[.int .i64 cur.lv, .int .u64 (u cur.c), .int .i64 cur.ig], v, .agg #[.int .i64 high.lv, .int .u64 (u high.c), .int .i64 high.ig]] w0 fun e w' => e = .returned (.tuple #[.agg #[.int .i64 0, .int .u64 0, .int .i64 0], .int .i64 0, .int .i64 20]) ∧ Below w0.heap.size w0 w' := by
  obtain ⟨sA, sm, sc, rfl⟩ := hl.slice
  obtain ⟨hsrc, rfl⟩ := hl.src
  have hn63 := hl.len63
  have HL := Lib.hid hl
  clear hl hsrc
  go_enter Tryd.func26, Tryd.ntmps26
  go_wp2_with fail
  refine (rRightIs hc1 _).mono ?_
  rintro e w1 ⟨rfl, hB⟩
  have B0 : Hid (Blk w1 w0.heap.size 24 #[.int .i64 cur.lv, .int .u64 (u cur.c), .int .i64 cur.ig]) := Lib.hid ((((Blk.new' rfl).alloc _).alloc _).after hB)
  have B1 : Hid (Blk w1 (w0.heap.size + 1) 24 #[.int .i64 high.lv, .int .u64 (u high.c), .int .i64 high.ig]) := Lib.hid (((Blk.new' (by simp)).alloc _).after hB)
  have B2 : Hid (Blk w1 (w0.heap.size + 1 + 1) 24 #[.int .i64 0, .int .u64 0, .int .i64 0]) := Lib.hid ((Blk.new' (by simp)).after hB)
  have HB := Lib.hid (below_call (below_alloc (below_alloc (below_alloc (Below.refl w0.heap.size w0) _) _) _) hB)
  clear hB
  generalize e2 : w0.heap.size + 1 + 1 = gr at *
  generalize e1 : w0.heap.size + 1 = gh at *
  have p0 := B1.out.at_ (i := 0) (v := .int .i64 high.lv) rfl
  have p1 := B1.out.at_ (i := 1) (v := .int .u64 (u high.c)) rfl
  have p2 := B1.out.at_ (i := 2) (v := .int .i64 high.ig) rfl
  go_wp2_with fail
  refine (rRightIs hc2 _).mono ?_
  rintro e w2 ⟨rfl, hB⟩
  clear p0 p1 p2
  replace B0 := Lib.hid (B0.out.after hB)
  replace B1 := Lib.hid (B1.out.after hB)
  replace B2 := Lib.hid (B2.out.after hB)
  replace HB := Lib.hid (below_call HB.out hB)
  clear hB
  go_wp2_with fail
  go_loopw [9, 10] (fun a i wr => ∃ k : Nat, a = .bool ((ls.take k).all okL) ∧ i = .int .i64 k ∧ k ≤ ls.length ∧ Blk wr w0.heap.size 24 #[.int .i64 cur.lv, .int .u64 (u cur.c), .int .i64 cur.ig] ∧ Blk wr gh 24 #[.int .i64 high.lv, .int .u64 (u high.c), .int .i64 high.ig] ∧ Blk wr gr 24 #[.int .i64 0, .int .u64 0, .int .i64 0] ∧ Below w0.heap.size w0 wr) (fun _ i _ => ls.length - (intOf i).toNat)
  case atStart => exact ⟨0, rfl, rfl, Nat.zero_le _, B0.out, B1.out, B2.out, HB.out⟩
  case round =>
    obtain ⟨k, rfl, rfl, hk, h0, h1, h2, hB⟩ := hrel
    replace B0 := Lib.hid h0
    replace B1 := Lib.hid h1
    replace B2 := Lib.hid h2
    replace HB := Lib.hid hB
    clear h0 h1 h2 hB
    by_cases hkl : k < ls.length
    · obtain ⟨x, hx⟩ : ∃ x, ls[k]? = some x := ⟨_, List.getElem?_eq_getElem hkl⟩
      have hl2 := HL.out
      rcases hl2 with ⟨h, h'⟩ | ⟨b, off, cap, hv, hlt, hcap, -, hc⟩
      · rw [h'] at hkl; exact absurd hkl (Nat.not_lt_zero _)
      cases hv
      obtain ⟨c0, c1, c2⟩ := hc _ x hx
      have B3 := Lib.hid (Els.of3 ((HB.out.cell (p := ⟨b, off + k * 3, none⟩) hlt).trans c0) ((HB.out.cell (p := ⟨b, off + k * 3 + 1, none⟩) hlt).trans c1) ((HB.out.cell (p := ⟨b, off + k * 3 + 2, none⟩) hlt).trans c2))
      clear c0 c1 c2 hc
      have hkz : (0 : Int) ≤ (k : Int) := by omega
      have hkz2 : (k : Int) < (ls.length : Int) := by omega
      have hal := all_snoc hx
      cases ha : (ls.take k).all okL
      · rw [ha, Bool.false_and] at hal
        go_wp2_with fail
        go_roundw
        case rel => exact ⟨k + 1, by rw [hal], by go_num, by omega, B0.out, B1.out, B2.out, HB.out⟩
        case measure => simp [intOf]; omega
      · rw [ha, Bool.true_and] at hal
        have HAL := Lib.hid hal
        clear hal
        cases ho : okL x
        · have p0 : wr.cell? ⟨b, off + k * 3, none⟩ = some (.int .i64 x.lv) := B3.out.at_ (i := 0) (v := .int .i64 x.lv) rfl
          have p1 : wr.cell? ⟨b, off + k * 3 + 1, none⟩ = some (.int .u64 (u x.c)) := B3.out.at_ (i := 1) (v := .int .u64 (u x.c)) rfl
          have p2 : wr.cell? ⟨b, off + k * 3 + 2, none⟩ = some (.int .i64 x.ig) := B3.out.at_ (i := 2) (v := .int .i64 x.ig) rfl
          go_wp2_with fail
          refine (rRightIs ho _).mono ?_
          rintro e w3 ⟨rfl, hB⟩
          clear p0 p1 p2
          replace B0 := Lib.hid (B0.out.after hB)
          replace B1 := Lib.hid (B1.out.after hB)
          replace B2 := Lib.hid (B2.out.after hB)
          replace HB := Lib.hid (below_call HB.out hB)
          clear hB
          go_wp2_with fail
          go_roundw
          case rel => exact ⟨k + 1, by rw [HAL.out, ho], by go_num, by omega, B0.out, B1.out, B2.out, HB.out⟩
          case measure => simp [intOf]; omega
        · have p0 : wr.cell? ⟨b, off + k * 3, none⟩ = some (.int .i64 x.lv) := B3.out.at_ (i := 0) (v := .int .i64 x.lv) rfl
          have p1 : wr.cell? ⟨b, off + k * 3 + 1, none⟩ = some (.int .u64 (u x.c)) := B3.out.at_ (i := 1) (v := .int .u64 (u x.c)) rfl
          have p2 : wr.cell? ⟨b, off + k * 3 + 2, none⟩ = some (.int .i64 x.ig) := B3.out.at_ (i := 2) (v := .int .i64 x.ig) rfl
          go_wp2_with fail
          refine (rRightIs ho _).mono ?_
          rintro e w3 ⟨rfl, hB⟩
          clear p0 p1 p2
          replace B0 := Lib.hid (B0.out.after hB)
          replace B1 := Lib.hid (B1.out.after hB)
          replace B2 := Lib.hid (B2.out.after hB)
          replace HB := Lib.hid (below_call HB.out hB)
          clear hB
          go_wp2_with fail
          go_roundw
          case rel => exact ⟨k + 1, by rw [HAL.out, ho], by go_num, by omega, B0.out, B1.out, B2.out, HB.out⟩
          case measure => simp [intOf]; omega
    · have hke : k = ls.length := by omega
      subst hke
      have ha : (ls.take ls.length).all okL = false := by rw [List.take_length]; exact hno
      rw [ha]
      have p0 := B2.out.at_ (i := 0) (v := .int .i64 0) rfl
      have p1 := B2.out.at_ (i := 1) (v := .int .u64 0) rfl
      have p2 := B2.out.at_ (i := 2) (v := .int .i64 0) rfl
      have f0 := B2.out.frozen 0
      have f1 := B2.out.frozen 1
      have f2 := B2.out.frozen 2
      go_wp2_with fail
      have R : Blk (((wr.setCell ⟨gr, 0, none⟩ (.int .i64 0)).setCell ⟨gr, 1, none⟩ (.int .u64 0)).setCell ⟨gr, 2, none⟩ (.int .i64 0)) gr 24 #[.int .i64 0, .int .u64 0, .int .i64 0] := (Blk.set' (u := .int .i64 0) (i := 2) (cs' := #[.int .i64 0, .int .u64 0, .int .i64 0]) (Blk.set' (u := .int .u64 0) (i := 1) (cs' := #[.int .i64 0, .int .u64 0, .int .i64 0]) (Blk.set' (u := .int .i64 0) (i := 0) (cs' := #[.int .i64 0, .int .u64 0, .int .i64 0]) B2.out rfl) rfl) rfl)
      have k0 := R.at_ (i := 0) (v := .int .i64 0) rfl
      have k1 := R.at_ (i := 1) (v := .int .u64 0) rfl
      have k2 := R.at_ (i := 2) (v := .int .i64 0) rfl
      refine bodyPost_ret (v := .tuple #[.agg #[.int .i64 0, .int .u64 0, .int .i64 0], .int .i64 0, .int .i64 20]) (by simp [results, Tryd.results26, go_sem, k0, k1, k2]) rfl ⟨rfl, (below_set (below_set (below_set HB.out (by omega) _) (by omega) _) (by omega) _)⟩
set_option maxRecDepth 100000 in
set_option maxHeartbeats 8000000 in
theorem rPath_3 (ls : List Lab) (v : Value) (cur high : Lab) (w0 : World) (hl : LabsAt w0.heap.size w0 v ls) (hc1 : okL cur = true) (hc2 : okL high = true) (hyes : ls.all okL = true) (har : allR cur high ls = true) :
    Calls Tryd.prog 26 #[.agg #[.int .i64 cur.lv, .int .u64 (u cur.c), .int .i64 cur.ig], v, .agg #[.int .i64 high.lv, .int .u64 (u high.c), .int .i64 high.ig]] w0 fun e w' => e = .returned (.tuple #[.agg #[.int .i64 (pathsL cur ls high).lv, .int .u64 (u (pathsL cur ls high).c), .int .i64 (pathsL cur ls high).ig], .int .i64 (pathsK cur ls high), .int .i64 (pathsE cur ls high)]) ∧ Below w0.heap.size w0 w' := by
  obtain ⟨sA, sm, sc, rfl⟩ := hl.slice
  obtain ⟨hsrc, rfl⟩ := hl.src
  have hn63 := hl.len63
  have HL := Lib.hid hl
  clear hl hsrc
  go_enter Tryd.func26, Tryd.ntmps26
  go_wp2_with fail
  refine (rRightIs hc1 _).mono ?_
  rintro e w1 ⟨rfl, hB⟩
  have B0 : Hid (Blk w1 w0.heap.size 24 #[.int .i64 cur.lv, .int .u64 (u cur.c), .int .i64 cur.ig]) := Lib.hid ((((Blk.new' rfl).alloc _).alloc _).after hB)
  have B1 : Hid (Blk w1 (w0.heap.size + 1) 24 #[.int .i64 high.lv, .int .u64 (u high.c), .int .i64 high.ig]) := Lib.hid (((Blk.new' (by simp)).alloc _).after hB)
  have B2 : Hid (Blk w1 (w0.heap.size + 1 + 1) 24 #[.int .i64 0, .int .u64 0, .int .i64 0]) := Lib.hid ((Blk.new' (by simp)).after hB)
  have HB := Lib.hid (below_call (below_alloc (below_alloc (below_alloc (Below.refl w0.heap.size w0) _) _) _) hB)
  clear hB
  generalize e2 : w0.heap.size + 1 + 1 = gr at *
  generalize e1 : w0.heap.size + 1 = gh at *
  have p0 := B1.out.at_ (i := 0) (v := .int .i64 high.lv) rfl
  have p1 := B1.out.at_ (i := 1) (v := .int .u64 (u high.c)) rfl
  have p2 := B1.out.at_ (i := 2) (v := .int .i64 high.ig) rfl
  go_wp2_with fail
  refine (rRightIs hc2 _).mono ?_
  rintro e w2 ⟨rfl, hB⟩
  clear p0 p1 p2
  replace B0 := Lib.hid (B0.out.after hB)
  replace B1 := Lib.hid (B1.out.after hB)
  replace B2 := Lib.hid (B2.out.after hB)
  replace HB := Lib.hid (below_call HB.out hB)
  clear hB
  go_wp2_with fail
  have HAR := Lib.hid har
  have HA : Hid (∀ x, x ∈ ls → okL x = true) := Lib.hid (by rw [← List.all_eq_true]; exact hyes)
  clear har hyes
  go_loopw [9, 10] (fun a i wr => ∃ k : Nat, a = .bool true ∧ i = .int .i64 k ∧ k ≤ ls.length ∧ Blk wr w0.heap.size 24 #[.int .i64 cur.lv, .int .u64 (u cur.c), .int .i64 cur.ig] ∧ Blk wr gh 24 #[.int .i64 high.lv, .int .u64 (u high.c), .int .i64 high.ig] ∧ Blk wr gr 24 #[.int .i64 0, .int .u64 0, .int .i64 0] ∧ Below w0.heap.size w0 wr) (fun _ i _ => ls.length - (intOf i).toNat)
  case atStart => exact ⟨0, rfl, rfl, Nat.zero_le _, B0.out, B1.out, B2.out, HB.out⟩
  case round =>
    obtain ⟨k, rfl, rfl, hk, h0, h1, h2, hB⟩ := hrel
    replace B0 := Lib.hid h0
    replace B1 := Lib.hid h1
    replace B2 := Lib.hid h2
    replace HB := Lib.hid hB
    clear h0 h1 h2 hB
    by_cases hkl : k < ls.length
    · obtain ⟨x, hx⟩ : ∃ x, ls[k]? = some x := ⟨_, List.getElem?_eq_getElem hkl⟩
      have hl2 := HL.out
      rcases hl2 with ⟨h, h'⟩ | ⟨b, off, cap, hv, hlt, hcap, -, hc⟩
      · rw [h'] at hkl; exact absurd hkl (Nat.not_lt_zero _)
      cases hv
      obtain ⟨c0, c1, c2⟩ := hc _ x hx
      have B3 := Lib.hid (Els.of3 ((HB.out.cell (p := ⟨b, off + k * 3, none⟩) hlt).trans c0) ((HB.out.cell (p := ⟨b, off + k * 3 + 1, none⟩) hlt).trans c1) ((HB.out.cell (p := ⟨b, off + k * 3 + 2, none⟩) hlt).trans c2))
      clear c0 c1 c2 hc
      have hkz : (0 : Int) ≤ (k : Int) := by omega
      have hkz2 : (k : Int) < (ls.length : Int) := by omega
      have p0 : wr.cell? ⟨b, off + k * 3, none⟩ = some (.int .i64 x.lv) := B3.out.at_ (i := 0) (v := .int .i64 x.lv) rfl
      have p1 : wr.cell? ⟨b, off + k * 3 + 1, none⟩ = some (.int .u64 (u x.c)) := B3.out.at_ (i := 1) (v := .int .u64 (u x.c)) rfl
      have p2 : wr.cell? ⟨b, off + k * 3 + 2, none⟩ = some (.int .i64 x.ig) := B3.out.at_ (i := 2) (v := .int .i64 x.ig) rfl
      go_wp2_with fail
      refine (rRightIs (HA.out x (List.mem_of_getElem? hx)) _).mono ?_
      rintro e w3 ⟨rfl, hB⟩
      clear p0 p1 p2
      replace B0 := Lib.hid (B0.out.after hB)
      replace B1 := Lib.hid (B1.out.after hB)
      replace B2 := Lib.hid (B2.out.after hB)
      replace HB := Lib.hid (below_call HB.out hB)
      clear hB
      go_wp2_with fail
      go_roundw
      case rel => exact ⟨k + 1, rfl, by go_num, by omega, B0.out, B1.out, B2.out, HB.out⟩
      case measure => simp [intOf]; omega
    · have hke : k = ls.length := by omega
      subst hke
      go_wp2_with fail
      go_loopw [11] (fun i wr => ∃ (k : Nat) (o : Lab), i = .int .i64 k ∧ k ≤ ls.length ∧ pathAt high cur (ls.take k) = o ∧ GoodTo high cur ls k ∧ Blk wr w0.heap.size 24 #[.int .i64 o.lv, .int .u64 (u o.c), .int .i64 o.ig] ∧ Blk wr gh 24 #[.int .i64 high.lv, .int .u64 (u high.c), .int .i64 high.ig] ∧ Blk wr gr 24 #[.int .i64 0, .int .u64 0, .int .i64 0] ∧ Below w0.heap.size w0 wr) (fun i _ => ls.length - (intOf i).toNat)
      case atStart => exact ⟨0, cur, rfl, Nat.zero_le _, rfl, GoodTo.zero _ _ _, B0.out, B1.out, B2.out, HB.out⟩
      case round =>
        obtain ⟨k, o, rfl, hk, hfo, hgd, h0, h1, h2, hB⟩ := hrel
        replace B0 := Lib.hid h0
        replace B1 := Lib.hid h1
        replace B2 := Lib.hid h2
        replace HB := Lib.hid hB
        have HFO := Lib.hid hfo
        have HGD := Lib.hid hgd
        have okO := Lib.hid (show okL o = true by rw [← hfo]; exact okL_pathAt high _ hc1 (fun x hx => HA.out x (List.mem_of_mem_take hx)))
        clear h0 h1 h2 hB hfo hgd
        by_cases hkl : k < ls.length
        · obtain ⟨x, hx⟩ : ∃ x, ls[k]? = some x := ⟨_, List.getElem?_eq_getElem hkl⟩
          have hl2 := HL.out
          rcases hl2 with ⟨h, h'⟩ | ⟨b, off, cap, hv, hlt, hcap, -, hc⟩
          · rw [h'] at hkl; exact absurd hkl (Nat.not_lt_zero _)
          cases hv
          obtain ⟨c0, c1, c2⟩ := hc _ x hx
          have B3 := Lib.hid (Els.of3 ((HB.out.cell (p := ⟨b, off + k * 3, none⟩) hlt).trans c0) ((HB.out.cell (p := ⟨b, off + k * 3 + 1, none⟩) hlt).trans c1) ((HB.out.cell (p := ⟨b, off + k * 3 + 2, none⟩) hlt).trans c2))
          clear c0 c1 c2 hc
          have hkz : (0 : Int) ≤ (k : Int) := by omega
          have hkz2 : (k : Int) < (ls.length : Int) := by omega
          have okX := Lib.hid (HA.out x (List.mem_of_getElem? hx))
          have HX := Lib.hid hx
          clear hx
          cases hle : le3 (joinL o x) high
          · have hK : pathK high cur ls = k := pathK_is ls cur k HGD.out hk (.inr ⟨x, HX.out, by rw [HFO.out]; exact hle⟩)
            obtain ⟨nx, hnx⟩ : ∃ nx, floatL o x high = nx := ⟨_, rfl⟩
            have HNX := Lib.hid hnx
            have HEX := Lib.hid (show floatE o x high = 120 by unfold floatE; rw [okO.out, okX.out, hc2, hle]; rfl)
            have HK1 := Lib.hid (show pathsL cur ls high = o by unfold pathsL; rw [if_pos HAR.out, hK]; exact HFO.out)
            have HK2 := Lib.hid (show pathsK cur ls high = k by unfold pathsK; rw [if_pos HAR.out, hK])
            have HK3 := Lib.hid (show pathsE cur ls high = 120 by unfold pathsE; rw [if_pos HAR.out, hK, if_neg (by omega)])
            clear hle hK hnx
            go_upto_region 11 with fail
            go_cut [12, 13] (fun s12 s13 wx => ∃ g3 : Nat, s12 = .pointer (some ⟨g3, 0, none⟩) ∧ s13 = .int .i64 120 ∧ Blk wx (g3) 24 #[.int .i64 nx.lv, .int .u64 (u nx.c), .int .i64 nx.ig] ∧ Blk wx (w0.heap.size) 24 #[.int .i64 o.lv, .int .u64 (u o.c), .int .i64 o.ig] ∧ Blk wx (gh) 24 #[.int .i64 high.lv, .int .u64 (u high.c), .int .i64 high.ig] ∧ Blk wx (gr) 24 #[.int .i64 0, .int .u64 0, .int .i64 0] ∧ Els wx (b) (off + k * 3) #[.int .i64 x.lv, .int .u64 (u x.c), .int .i64 x.ig] ∧ Below w0.heap.size w0 wx ∧ w0.heap.size ≠ g3 ∧ gh ≠ g3 ∧ gr ≠ g3 ∧ b ≠ g3 ∧ w0.heap.size ≤ g3)
            case first =>
              refine wp_region_gen (S := (fun W' => Blk W' (w0.heap.size) 24 #[.int .i64 o.lv, .int .u64 (u o.c), .int .i64 o.ig] ∧ Blk W' (gh) 24 #[.int .i64 high.lv, .int .u64 (u high.c), .int .i64 high.ig] ∧ Blk W' (gr) 24 #[.int .i64 0, .int .u64 0, .int .i64 0] ∧ Els W' (b) (off + k * 3) #[.int .i64 x.lv, .int .u64 (u x.c), .int .i64 x.ig] ∧ Below w0.heap.size w0 W')) (by kernel_rfl) ⟨(by repeat (first | exact B0.out | exact Blk.new' (by simp; done) | exact Blk.new' rfl | refine Blk.drew ?_ | refine Blk.alloc ?_ _)), (by repeat (first | exact B1.out | exact Blk.new' (by simp; done) | exact Blk.new' rfl | refine Blk.drew ?_ | refine Blk.alloc ?_ _)), (by repeat (first | exact B2.out | exact Blk.new' (by simp; done) | exact Blk.new' rfl | refine Blk.drew ?_ | refine Blk.alloc ?_ _)), (by repeat (first | exact B3.out | refine Els.drew ?_ | refine Els.alloc ?_ _)), (by repeat (first | exact HB.out | refine below_alloc ?_ _ | refine Below.drew ?_ | refine below_set ?_ (by omega) _))⟩ (fun w1 hS => ?_)
              refine wpAnyH_take (i := 0) (v := ?_) (op_at rfl) (by kernel_rfl) (by kernel_rfl) (by kernel_rfl) (fun _ _ _ h => h) (Or.inl ⟨by rfl, ?_⟩) hS ?_; rotate_left; focus ((intro w' hSw; obtain ⟨q, -⟩ := hSw; have c0 := q.at_ (i := 0) (v := .int .i64 o.lv) rfl; have c1 := q.at_ (i := 1) (v := .int .u64 (u o.c)) rfl; have c2 := q.at_ (i := 2) (v := .int .i64 o.ig) rfl; clear q; go_simp) <;> with_reducible rfl)
              try simp only [Act.put, List.setIfInBounds_toArray, List.set_cons_zero, List.set_cons_succ]
              refine wpAnyH_take (i := 1) (v := ?_) (op_at rfl) (by kernel_rfl) (by kernel_rfl) (by kernel_rfl) (fun _ _ _ h => h) (Or.inl ⟨by rfl, ?_⟩) hS ?_; rotate_left; focus ((intro w' hSw; clear hSw; go_simp) <;> with_reducible rfl)
              try simp only [Act.put, List.setIfInBounds_toArray, List.set_cons_zero, List.set_cons_succ]
              refine wpAnyH_take (i := 2) (v := ?_) (op_at rfl) (by kernel_rfl) (by kernel_rfl) (by kernel_rfl) (fun _ _ _ h => h) (Or.inl ⟨by rfl, ?_⟩) hS ?_; rotate_left; focus ((intro w' hSw; clear hSw; go_simp) <;> with_reducible rfl)
              try simp only [Act.put, List.setIfInBounds_toArray, List.set_cons_zero, List.set_cons_succ]
              refine wpAnyH_take (i := 3) (v := ?_) (op_at rfl) (by kernel_rfl) (by kernel_rfl) (by kernel_rfl) (fun _ _ _ h => h) (Or.inl ⟨by rfl, ?_⟩) hS ?_; rotate_left; focus ((intro w' hSw; clear hSw; go_simp) <;> with_reducible rfl)
              try simp only [Act.put, List.setIfInBounds_toArray, List.set_cons_zero, List.set_cons_succ]
              refine wpAnyH_take (i := 4) (v := ?_) (op_at rfl) (by kernel_rfl) (by kernel_rfl) (by kernel_rfl) (fun _ _ _ h => h) (Or.inl ⟨by rfl, ?_⟩) hS ?_; rotate_left; focus ((intro w' hSw; obtain ⟨-, -, -, q, -⟩ := hSw; have c0 : w'.cell? ⟨b, off + k * 3, none⟩ = some (.int .i64 x.lv) := q.at_ (i := 0) (v := .int .i64 x.lv) rfl; have c1 : w'.cell? ⟨b, off + k * 3 + 1, none⟩ = some (.int .u64 (u x.c)) := q.at_ (i := 1) (v := .int .u64 (u x.c)) rfl; have c2 : w'.cell? ⟨b, off + k * 3 + 2, none⟩ = some (.int .i64 x.ig) := q.at_ (i := 2) (v := .int .i64 x.ig) rfl; clear q; go_simp) <;> with_reducible rfl)
              try simp only [Act.put, List.setIfInBounds_toArray, List.set_cons_zero, List.set_cons_succ]
              refine wpAnyH_take (i := 5) (v := ?_) (op_at rfl) (by kernel_rfl) (by kernel_rfl) (by kernel_rfl) (fun _ _ _ h => h) (Or.inl ⟨by rfl, ?_⟩) hS ?_; rotate_left; focus ((intro w' hSw; obtain ⟨-, q, -⟩ := hSw; have c0 := q.at_ (i := 0) (v := .int .i64 high.lv) rfl; have c1 := q.at_ (i := 1) (v := .int .u64 (u high.c)) rfl; have c2 := q.at_ (i := 2) (v := .int .i64 high.ig) rfl; clear q; go_simp) <;> with_reducible rfl)
              try simp only [Act.put, List.setIfInBounds_toArray, List.set_cons_zero, List.set_cons_succ]
              refine wpAnyH_ready (rs := [6, 10]) (by kernel_rfl) (by simp) ?_
              refine (AllReadyH.cons (op_at rfl) (fun K hK => ?_) (AllReadyH.cons (op_at rfl) (fun K hK => ?_) AllReadyH.nil))
              ·
                go_simp
                obtain ⟨b0, b1, b2, b3, hb⟩ := hS
                refine (rFloat_is HNX.out HEX.out _).mono ?_
                rintro e w2 ⟨rfl, hB⟩
                refine hK.out _ _ ⟨b0.after hB, b1.after hB, b2.after hB, b3.after hB, below_call hb hB⟩ (fun hS => ?_)
                clear hK K hB b0 b1 b2 b3 hb
                try simp only [Act.put, List.setIfInBounds_toArray, List.set_cons_zero, List.set_cons_succ]
                refine wpAnyH_take (i := 7) (v := ?_) (op_at rfl) (by kernel_rfl) (by kernel_rfl) (by kernel_rfl) (fun _ _ _ h => h) (Or.inl ⟨by rfl, ?_⟩) hS ?_; rotate_left; focus ((intro w' hSw; clear hSw; go_simp) <;> with_reducible rfl)
                try simp only [Act.put, List.setIfInBounds_toArray, List.set_cons_zero, List.set_cons_succ]
                refine wpAnyH_take (i := 8) (v := ?_) (op_at rfl) (by kernel_rfl) (by kernel_rfl) (by kernel_rfl) (fun _ _ _ h => h) (Or.inl ⟨by rfl, ?_⟩) hS ?_; rotate_left; focus ((intro w' hSw; clear hSw; go_simp) <;> with_reducible rfl)
                try simp only [Act.put, List.setIfInBounds_toArray, List.set_cons_zero, List.set_cons_succ]
                refine wpAnyH_take (i := 9) (v := ?_) (op_at rfl) (by kernel_rfl) (by kernel_rfl) (by kernel_rfl) (fun _ _ _ h => h) (Or.inl ⟨by rfl, ?_⟩) hS ?_; rotate_left; focus ((intro w' hSw; clear hSw; go_simp) <;> with_reducible rfl)
                try simp only [Act.put, List.setIfInBounds_toArray, List.set_cons_zero, List.set_cons_succ]
                refine wpAnyH_ready (rs := [10]) (by kernel_rfl) (by simp) ?_
                refine (AllReadyH.cons (op_at rfl) (fun K hK => ?_) AllReadyH.nil)
                go_simp
                obtain ⟨b0, b1, b2, b3, hb⟩ := hS
                have N0 : Hid (Blk (w2.alloc (.cells #[.int .i64 0, .int .u64 0, .int .i64 0] 24)) w2.heap.size 24 #[.int .i64 0, .int .u64 0, .int .i64 0]) := Lib.hid (Blk.new' rfl)
                have d0_N0 : w0.heap.size ≠ w2.heap.size := Nat.ne_of_lt b0.lt
                have d1_N0 : gh ≠ w2.heap.size := Nat.ne_of_lt b1.lt
                have d2_N0 : gr ≠ w2.heap.size := Nat.ne_of_lt b2.lt
                have d3_N0 : b ≠ w2.heap.size := Nat.ne_of_lt b3.lt
                have dd_N0 : w0.heap.size ≤ w2.heap.size := hb.size
                refine hK.out _ _ ⟨b0.alloc _, b1.alloc _, b2.alloc _, b3.alloc _, below_alloc hb _⟩ (fun hS => ?_)
                clear hK K b0 b1 b2 b3 hb
                try simp only [Act.put, List.setIfInBounds_toArray, List.set_cons_zero, List.set_cons_succ]
                refine wpAnyH_ready (rs := [11]) (by kernel_rfl) (by simp) ?_
                refine (AllReadyH.cons (op_at rfl) (fun K hK => ?_) AllReadyH.nil)
                go_simp
                obtain ⟨b0, b1, b2, b3, hb⟩ := hS
                refine hK.out _ _ ⟨(Blk.realloc b0 d0_N0), (Blk.realloc b1 d1_N0), (Blk.realloc b2 d2_N0), (Els.realloc b3 d3_N0), (below_realloc hb dd_N0)⟩ (fun hS => ?_)
                replace N0 : Hid (Blk (w2.alloc (.cells #[.int .i64 nx.lv, .int .u64 (u nx.c), .int .i64 nx.ig] 24)) w2.heap.size 24 #[.int .i64 nx.lv, .int .u64 (u nx.c), .int .i64 nx.ig]) := Lib.hid (Blk.new' rfl)
                clear hK K b0 b1 b2 b3 hb
                try simp only [Act.put, List.setIfInBounds_toArray, List.set_cons_zero, List.set_cons_succ]
                refine wpAnyH_take (i := 12) (v := ?_) (op_at rfl) (by kernel_rfl) (by kernel_rfl) (by kernel_rfl) (fun _ _ _ h => h) (Or.inl ⟨by rfl, ?_⟩) hS ?_; rotate_left; focus ((intro w' hSw; clear hSw; go_simp) <;> with_reducible rfl)
                try simp only [Act.put, List.setIfInBounds_toArray, List.set_cons_zero, List.set_cons_succ]
                refine wpAnyH_done (by kernel_rfl) ?_ _
                obtain ⟨b0, b1, b2, b3, hb⟩ := hS
                go_wp2_with fail
                go_meet
                exact ⟨_, rfl, rfl, N0.out, b0, b1, b2, b3, hb, d0_N0, d1_N0, d2_N0, d3_N0, dd_N0⟩
              ·
                go_simp
                obtain ⟨b0, b1, b2, b3, hb⟩ := hS
                have N0 : Hid (Blk (w1.alloc (.cells #[.int .i64 0, .int .u64 0, .int .i64 0] 24)) w1.heap.size 24 #[.int .i64 0, .int .u64 0, .int .i64 0]) := Lib.hid (Blk.new' rfl)
                have d0_N0 : w0.heap.size ≠ w1.heap.size := Nat.ne_of_lt b0.lt
                have d1_N0 : gh ≠ w1.heap.size := Nat.ne_of_lt b1.lt
                have d2_N0 : gr ≠ w1.heap.size := Nat.ne_of_lt b2.lt
                have d3_N0 : b ≠ w1.heap.size := Nat.ne_of_lt b3.lt
                have dd_N0 : w0.heap.size ≤ w1.heap.size := hb.size
                refine hK.out _ _ ⟨b0.alloc _, b1.alloc _, b2.alloc _, b3.alloc _, below_alloc hb _⟩ (fun hS => ?_)
                clear hK K b0 b1 b2 b3 hb
                try simp only [Act.put, List.setIfInBounds_toArray, List.set_cons_zero, List.set_cons_succ]
                refine wpAnyH_ready (rs := [6]) (by kernel_rfl) (by simp) ?_
                refine (AllReadyH.cons (op_at rfl) (fun K hK => ?_) AllReadyH.nil)
                go_simp
                obtain ⟨b0, b1, b2, b3, hb⟩ := hS
                refine (rFloat_is HNX.out HEX.out _).mono ?_
                rintro e w3 ⟨rfl, hB⟩
                replace N0 := Lib.hid (N0.out.after hB)
                refine hK.out _ _ ⟨b0.after hB, b1.after hB, b2.after hB, b3.after hB, below_call hb hB⟩ (fun hS => ?_)
                clear hK K hB b0 b1 b2 b3 hb
                try simp only [Act.put, List.setIfInBounds_toArray, List.set_cons_zero, List.set_cons_succ]
                refine wpAnyH_take (i := 7) (v := ?_) (op_at rfl) (by kernel_rfl) (by kernel_rfl) (by kernel_rfl) (fun _ _ _ h => h) (Or.inl ⟨by rfl, ?_⟩) hS ?_; rotate_left; focus ((intro w' hSw; clear hSw; go_simp) <;> with_reducible rfl)
                try simp only [Act.put, List.setIfInBounds_toArray, List.set_cons_zero, List.set_cons_succ]
                refine wpAnyH_take (i := 8) (v := ?_) (op_at rfl) (by kernel_rfl) (by kernel_rfl) (by kernel_rfl) (fun _ _ _ h => h) (Or.inl ⟨by rfl, ?_⟩) hS ?_; rotate_left; focus ((intro w' hSw; clear hSw; go_simp) <;> with_reducible rfl)
                try simp only [Act.put, List.setIfInBounds_toArray, List.set_cons_zero, List.set_cons_succ]
                refine wpAnyH_take (i := 9) (v := ?_) (op_at rfl) (by kernel_rfl) (by kernel_rfl) (by kernel_rfl) (fun _ _ _ h => h) (Or.inl ⟨by rfl, ?_⟩) hS ?_; rotate_left; focus ((intro w' hSw; clear hSw; go_simp) <;> with_reducible rfl)
                try simp only [Act.put, List.setIfInBounds_toArray, List.set_cons_zero, List.set_cons_succ]
                refine wpAnyH_ready (rs := [11]) (by kernel_rfl) (by simp) ?_
                refine (AllReadyH.cons (op_at rfl) (fun K hK => ?_) AllReadyH.nil)
                have p_0 := N0.out.at_ (i := 0) (v := .int .i64 0) rfl
                have f_0 := N0.out.frozen 0
                have p_1 := N0.out.at_ (i := 1) (v := .int .u64 0) rfl
                have f_1 := N0.out.frozen 1
                have p_2 := N0.out.at_ (i := 2) (v := .int .i64 0) rfl
                have f_2 := N0.out.frozen 2
                go_simp
                clear p_0 f_0 p_1 f_1 p_2 f_2
                obtain ⟨b0, b1, b2, b3, hb⟩ := hS
                refine hK.out _ _ ⟨(Blk.far (Blk.far (Blk.far b0 d0_N0 _) d0_N0 _) d0_N0 _), (Blk.far (Blk.far (Blk.far b1 d1_N0 _) d1_N0 _) d1_N0 _), (Blk.far (Blk.far (Blk.far b2 d2_N0 _) d2_N0 _) d2_N0 _), (Els.far (Els.far (Els.far b3 d3_N0 _) d3_N0 _) d3_N0 _), (below_set (below_set (below_set hb dd_N0 _) dd_N0 _) dd_N0 _)⟩ (fun hS => ?_)
                replace N0 := Lib.hid (Blk.set' (u := .int .i64 nx.ig) (i := 2) (cs' := #[.int .i64 nx.lv, .int .u64 (u nx.c), .int .i64 nx.ig]) (Blk.set' (u := .int .u64 (u nx.c)) (i := 1) (cs' := #[.int .i64 nx.lv, .int .u64 (u nx.c), .int .i64 0]) (Blk.set' (u := .int .i64 nx.lv) (i := 0) (cs' := #[.int .i64 nx.lv, .int .u64 0, .int .i64 0]) N0.out rfl) rfl) rfl)
                clear hK K b0 b1 b2 b3 hb
                try simp only [Act.put, List.setIfInBounds_toArray, List.set_cons_zero, List.set_cons_succ]
                refine wpAnyH_take (i := 12) (v := ?_) (op_at rfl) (by kernel_rfl) (by kernel_rfl) (by kernel_rfl) (fun _ _ _ h => h) (Or.inl ⟨by rfl, ?_⟩) hS ?_; rotate_left; focus ((intro w' hSw; clear hSw; go_simp) <;> with_reducible rfl)
                try simp only [Act.put, List.setIfInBounds_toArray, List.set_cons_zero, List.set_cons_succ]
                refine wpAnyH_done (by kernel_rfl) ?_ _
                obtain ⟨b0, b1, b2, b3, hb⟩ := hS
                go_wp2_with fail
                go_meet
                exact ⟨_, rfl, rfl, N0.out, b0, b1, b2, b3, hb, d0_N0, d1_N0, d2_N0, d3_N0, dd_N0⟩
            case rest =>
              obtain ⟨g3, rfl, rfl, hn, h_0, h_1, h_2, h_3, hb, e0_g3, e1_g3, e2_g3, e3_g3, ee_g3⟩ := hcut
              replace B0 := Lib.hid h_0
              clear h_0
              replace B1 := Lib.hid h_1
              clear h_1
              replace B2 := Lib.hid h_2
              clear h_2
              replace B3 := Lib.hid h_3
              clear h_3
              have B4 := Lib.hid hn
              clear hn
              replace HB := Lib.hid hb
              clear hb
              have pB0_0 := B0.out.at_ (i := 0) (v := .int .i64 o.lv) rfl
              have pB0_1 := B0.out.at_ (i := 1) (v := .int .u64 (u o.c)) rfl
              have pB0_2 := B0.out.at_ (i := 2) (v := .int .i64 o.ig) rfl
              have pB2_0 := B2.out.at_ (i := 0) (v := .int .i64 0) rfl
              have fB2_0 := B2.out.frozen 0
              have pB2_1 := B2.out.at_ (i := 1) (v := .int .u64 0) rfl
              have fB2_1 := B2.out.frozen 1
              have pB2_2 := B2.out.at_ (i := 2) (v := .int .i64 0) rfl
              have fB2_2 := B2.out.frozen 2
              go_wp2_with fail
              have R : Blk (((wc.setCell ⟨gr, 0, none⟩ (.int .i64 o.lv)).setCell ⟨gr, 1, none⟩ (.int .u64 (u o.c))).setCell ⟨gr, 2, none⟩ (.int .i64 o.ig)) gr 24 #[.int .i64 o.lv, .int .u64 (u o.c), .int .i64 o.ig] := (Blk.set' (u := .int .i64 o.ig) (i := 2) (cs' := #[.int .i64 o.lv, .int .u64 (u o.c), .int .i64 o.ig]) (Blk.set' (u := .int .u64 (u o.c)) (i := 1) (cs' := #[.int .i64 o.lv, .int .u64 (u o.c), .int .i64 0]) (Blk.set' (u := .int .i64 o.lv) (i := 0) (cs' := #[.int .i64 o.lv, .int .u64 0, .int .i64 0]) B2.out rfl) rfl) rfl)
              have k0 := R.at_ (i := 0) (v := .int .i64 o.lv) rfl
              have k1 := R.at_ (i := 1) (v := .int .u64 (u o.c)) rfl
              have k2 := R.at_ (i := 2) (v := .int .i64 o.ig) rfl
              rw [HK1.out, HK2.out, HK3.out]
              refine bodyPost_ret (v := .tuple #[.agg #[.int .i64 o.lv, .int .u64 (u o.c), .int .i64 o.ig], .int .i64 k, .int .i64 120]) (by simp [results, Tryd.results26, go_sem, k0, k1, k2]) rfl ⟨rfl, (below_set (below_set (below_set HB.out (by omega) _) (by omega) _) (by omega) _)⟩
          · have HGN := Lib.hid (HGD.out.next HX.out (by rw [HFO.out]; exact hle))
            obtain ⟨nx, hnx⟩ : ∃ nx, joinL o x = nx := ⟨_, rfl⟩
            have HNX := Lib.hid (show floatL o x high = nx by unfold floatL; rw [okO.out, okX.out, hc2, hle]; exact hnx)
            have HEX := Lib.hid (show floatE o x high = 0 by unfold floatE; rw [okO.out, okX.out, hc2, hle]; rfl)
            have HF := Lib.hid (show pathAt high cur (ls.take (k + 1)) = nx by rw [take_snoc' HX.out, pathAt_snoc, HFO.out]; unfold stepP; rw [if_pos hle]; exact hnx)
            clear hle hnx
            go_upto_region 11 with fail
            go_cut [12, 13] (fun s12 s13 wx => ∃ g3 : Nat, s12 = .pointer (some ⟨g3, 0, none⟩) ∧ s13 = .int .i64 0 ∧ Blk wx (g3) 24 #[.int .i64 nx.lv, .int .u64 (u nx.c), .int .i64 nx.ig] ∧ Blk wx (w0.heap.size) 24 #[.int .i64 o.lv, .int .u64 (u o.c), .int .i64 o.ig] ∧ Blk wx (gh) 24 #[.int .i64 high.lv, .int .u64 (u high.c), .int .i64 high.ig] ∧ Blk wx (gr) 24 #[.int .i64 0, .int .u64 0, .int .i64 0] ∧ Els wx (b) (off + k * 3) #[.int .i64 x.lv, .int .u64 (u x.c), .int .i64 x.ig] ∧ Below w0.heap.size w0 wx ∧ w0.heap.size ≠ g3 ∧ gh ≠ g3 ∧ gr ≠ g3 ∧ b ≠ g3 ∧ w0.heap.size ≤ g3)
            case first =>
              refine wp_region_gen (S := (fun W' => Blk W' (w0.heap.size) 24 #[.int .i64 o.lv, .int .u64 (u o.c), .int .i64 o.ig] ∧ Blk W' (gh) 24 #[.int .i64 high.lv, .int .u64 (u high.c), .int .i64 high.ig] ∧ Blk W' (gr) 24 #[.int .i64 0, .int .u64 0, .int .i64 0] ∧ Els W' (b) (off + k * 3) #[.int .i64 x.lv, .int .u64 (u x.c), .int .i64 x.ig] ∧ Below w0.heap.size w0 W')) (by kernel_rfl) ⟨(by repeat (first | exact B0.out | exact Blk.new' (by simp; done) | exact Blk.new' rfl | refine Blk.drew ?_ | refine Blk.alloc ?_ _)), (by repeat (first | exact B1.out | exact Blk.new' (by simp; done) | exact Blk.new' rfl | refine Blk.drew ?_ | refine Blk.alloc ?_ _)), (by repeat (first | exact B2.out | exact Blk.new' (by simp; done) | exact Blk.new' rfl | refine Blk.drew ?_ | refine Blk.alloc ?_ _)), (by repeat (first | exact B3.out | refine Els.drew ?_ | refine Els.alloc ?_ _)), (by repeat (first | exact HB.out | refine below_alloc ?_ _ | refine Below.drew ?_ | refine below_set ?_ (by omega) _))⟩ (fun w1 hS => ?_)
              refine wpAnyH_take (i := 0) (v := ?_) (op_at rfl) (by kernel_rfl) (by kernel_rfl) (by kernel_rfl) (fun _ _ _ h => h) (Or.inl ⟨by rfl, ?_⟩) hS ?_; rotate_left; focus ((intro w' hSw; obtain ⟨q, -⟩ := hSw; have c0 := q.at_ (i := 0) (v := .int .i64 o.lv) rfl; have c1 := q.at_ (i := 1) (v := .int .u64 (u o.c)) rfl; have c2 := q.at_ (i := 2) (v := .int .i64 o.ig) rfl; clear q; go_simp) <;> with_reducible rfl)
              try simp only [Act.put, List.setIfInBounds_toArray, List.set_cons_zero, List.set_cons_succ]
              refine wpAnyH_take (i := 1) (v := ?_) (op_at rfl) (by kernel_rfl) (by kernel_rfl) (by kernel_rfl) (fun _ _ _ h => h) (Or.inl ⟨by rfl, ?_⟩) hS ?_; rotate_left; focus ((intro w' hSw; clear hSw; go_simp) <;> with_reducible rfl)
              try simp only [Act.put, List.setIfInBounds_toArray, List.set_cons_zero, List.set_cons_succ]
              refine wpAnyH_take (i := 2) (v := ?_) (op_at rfl) (by kernel_rfl) (by kernel_rfl) (by kernel_rfl) (fun _ _ _ h => h) (Or.inl ⟨by rfl, ?_⟩) hS ?_; rotate_left; focus ((intro w' hSw; clear hSw; go_simp) <;> with_reducible rfl)
              try simp only [Act.put, List.setIfInBounds_toArray, List.set_cons_zero, List.set_cons_succ]
              refine wpAnyH_take (i := 3) (v := ?_) (op_at rfl) (by kernel_rfl) (by kernel_rfl) (by kernel_rfl) (fun _ _ _ h => h) (Or.inl ⟨by rfl, ?_⟩) hS ?_; rotate_left; focus ((intro w' hSw; clear hSw; go_simp) <;> with_reducible rfl)
              try simp only [Act.put, List.setIfInBounds_toArray, List.set_cons_zero, List.set_cons_succ]
              refine wpAnyH_take (i := 4) (v := ?_) (op_at rfl) (by kernel_rfl) (by kernel_rfl) (by kernel_rfl) (fun _ _ _ h => h) (Or.inl ⟨by rfl, ?_⟩) hS ?_; rotate_left; focus ((intro w' hSw; obtain ⟨-, -, -, q, -⟩ := hSw; have c0 : w'.cell? ⟨b, off + k * 3, none⟩ = some (.int .i64 x.lv) := q.at_ (i := 0) (v := .int .i64 x.lv) rfl; have c1 : w'.cell? ⟨b, off + k * 3 + 1, none⟩ = some (.int .u64 (u x.c)) := q.at_ (i := 1) (v := .int .u64 (u x.c)) rfl; have c2 : w'.cell? ⟨b, off + k * 3 + 2, none⟩ = some (.int .i64 x.ig) := q.at_ (i := 2) (v := .int .i64 x.ig) rfl; clear q; go_simp) <;> with_reducible rfl)
              try simp only [Act.put, List.setIfInBounds_toArray, List.set_cons_zero, List.set_cons_succ]
              refine wpAnyH_take (i := 5) (v := ?_) (op_at rfl) (by kernel_rfl) (by kernel_rfl) (by kernel_rfl) (fun _ _ _ h => h) (Or.inl ⟨by rfl, ?_⟩) hS ?_; rotate_left; focus ((intro w' hSw; obtain ⟨-, q, -⟩ := hSw; have c0 := q.at_ (i := 0) (v := .int .i64 high.lv) rfl; have c1 := q.at_ (i := 1) (v := .int .u64 (u high.c)) rfl; have c2 := q.at_ (i := 2) (v := .int .i64 high.ig) rfl; clear q; go_simp) <;> with_reducible rfl)
              try simp only [Act.put, List.setIfInBounds_toArray, List.set_cons_zero, List.set_cons_succ]
              refine wpAnyH_ready (rs := [6, 10]) (by kernel_rfl) (by simp) ?_
              refine (AllReadyH.cons (op_at rfl) (fun K hK => ?_) (AllReadyH.cons (op_at rfl) (fun K hK => ?_) AllReadyH.nil))
              ·
                go_simp
                obtain ⟨b0, b1, b2, b3, hb⟩ := hS
                refine (rFloat_is HNX.out HEX.out _).mono ?_
                rintro e w2 ⟨rfl, hB⟩
                refine hK.out _ _ ⟨b0.after hB, b1.after hB, b2.after hB, b3.after hB, below_call hb hB⟩ (fun hS => ?_)
                clear hK K hB b0 b1 b2 b3 hb
                try simp only [Act.put, List.setIfInBounds_toArray, List.set_cons_zero, List.set_cons_succ]
                refine wpAnyH_take (i := 7) (v := ?_) (op_at rfl) (by kernel_rfl) (by kernel_rfl) (by kernel_rfl) (fun _ _ _ h => h) (Or.inl ⟨by rfl, ?_⟩) hS ?_; rotate_left; focus ((intro w' hSw; clear hSw; go_simp) <;> with_reducible rfl)
                try simp only [Act.put, List.setIfInBounds_toArray, List.set_cons_zero, List.set_cons_succ]
                refine wpAnyH_take (i := 8) (v := ?_) (op_at rfl) (by kernel_rfl) (by kernel_rfl) (by kernel_rfl) (fun _ _ _ h => h) (Or.inl ⟨by rfl, ?_⟩) hS ?_; rotate_left; focus ((intro w' hSw; clear hSw; go_simp) <;> with_reducible rfl)
                try simp only [Act.put, List.setIfInBounds_toArray, List.set_cons_zero, List.set_cons_succ]
                refine wpAnyH_take (i := 9) (v := ?_) (op_at rfl) (by kernel_rfl) (by kernel_rfl) (by kernel_rfl) (fun _ _ _ h => h) (Or.inl ⟨by rfl, ?_⟩) hS ?_; rotate_left; focus ((intro w' hSw; clear hSw; go_simp) <;> with_reducible rfl)
                try simp only [Act.put, List.setIfInBounds_toArray, List.set_cons_zero, List.set_cons_succ]
                refine wpAnyH_ready (rs := [10]) (by kernel_rfl) (by simp) ?_
                refine (AllReadyH.cons (op_at rfl) (fun K hK => ?_) AllReadyH.nil)
                go_simp
                obtain ⟨b0, b1, b2, b3, hb⟩ := hS
                have N0 : Hid (Blk (w2.alloc (.cells #[.int .i64 0, .int .u64 0, .int .i64 0] 24)) w2.heap.size 24 #[.int .i64 0, .int .u64 0, .int .i64 0]) := Lib.hid (Blk.new' rfl)
                have d0_N0 : w0.heap.size ≠ w2.heap.size := Nat.ne_of_lt b0.lt
                have d1_N0 : gh ≠ w2.heap.size := Nat.ne_of_lt b1.lt
                have d2_N0 : gr ≠ w2.heap.size := Nat.ne_of_lt b2.lt
                have d3_N0 : b ≠ w2.heap.size := Nat.ne_of_lt b3.lt
                have dd_N0 : w0.heap.size ≤ w2.heap.size := hb.size
                refine hK.out _ _ ⟨b0.alloc _, b1.alloc _, b2.alloc _, b3.alloc _, below_alloc hb _⟩ (fun hS => ?_)
                clear hK K b0 b1 b2 b3 hb
                try simp only [Act.put, List.setIfInBounds_toArray, List.set_cons_zero, List.set_cons_succ]
                refine wpAnyH_ready (rs := [11]) (by kernel_rfl) (by simp) ?_
                refine (AllReadyH.cons (op_at rfl) (fun K hK => ?_) AllReadyH.nil)
                go_simp
                obtain ⟨b0, b1, b2, b3, hb⟩ := hS
                refine hK.out _ _ ⟨(Blk.realloc b0 d0_N0), (Blk.realloc b1 d1_N0), (Blk.realloc b2 d2_N0), (Els.realloc b3 d3_N0), (below_realloc hb dd_N0)⟩ (fun hS => ?_)
                replace N0 : Hid (Blk (w2.alloc (.cells #[.int .i64 nx.lv, .int .u64 (u nx.c), .int .i64 nx.ig] 24)) w2.heap.size 24 #[.int .i64 nx.lv, .int .u64 (u nx.c), .int .i64 nx.ig]) := Lib.hid (Blk.new' rfl)
                clear hK K b0 b1 b2 b3 hb
                try simp only [Act.put, List.setIfInBounds_toArray, List.set_cons_zero, List.set_cons_succ]
                refine wpAnyH_take (i := 12) (v := ?_) (op_at rfl) (by kernel_rfl) (by kernel_rfl) (by kernel_rfl) (fun _ _ _ h => h) (Or.inl ⟨by rfl, ?_⟩) hS ?_; rotate_left; focus ((intro w' hSw; clear hSw; go_simp) <;> with_reducible rfl)
                try simp only [Act.put, List.setIfInBounds_toArray, List.set_cons_zero, List.set_cons_succ]
                refine wpAnyH_done (by kernel_rfl) ?_ _
                obtain ⟨b0, b1, b2, b3, hb⟩ := hS
                go_wp2_with fail
                go_meet
                exact ⟨_, rfl, rfl, N0.out, b0, b1, b2, b3, hb, d0_N0, d1_N0, d2_N0, d3_N0, dd_N0⟩
              ·
                go_simp
                obtain ⟨b0, b1, b2, b3, hb⟩ := hS
                have N0 : Hid (Blk (w1.alloc (.cells #[.int .i64 0, .int .u64 0, .int .i64 0] 24)) w1.heap.size 24 #[.int .i64 0, .int .u64 0, .int .i64 0]) := Lib.hid (Blk.new' rfl)
                have d0_N0 : w0.heap.size ≠ w1.heap.size := Nat.ne_of_lt b0.lt
                have d1_N0 : gh ≠ w1.heap.size := Nat.ne_of_lt b1.lt
                have d2_N0 : gr ≠ w1.heap.size := Nat.ne_of_lt b2.lt
                have d3_N0 : b ≠ w1.heap.size := Nat.ne_of_lt b3.lt
                have dd_N0 : w0.heap.size ≤ w1.heap.size := hb.size
                refine hK.out _ _ ⟨b0.alloc _, b1.alloc _, b2.alloc _, b3.alloc _, below_alloc hb _⟩ (fun hS => ?_)
                clear hK K b0 b1 b2 b3 hb
                try simp only [Act.put, List.setIfInBounds_toArray, List.set_cons_zero, List.set_cons_succ]
                refine wpAnyH_ready (rs := [6]) (by kernel_rfl) (by simp) ?_
                refine (AllReadyH.cons (op_at rfl) (fun K hK => ?_) AllReadyH.nil)
                go_simp
                obtain ⟨b0, b1, b2, b3, hb⟩ := hS
                refine (rFloat_is HNX.out HEX.out _).mono ?_
                rintro e w3 ⟨rfl, hB⟩
                replace N0 := Lib.hid (N0.out.after hB)
                refine hK.out _ _ ⟨b0.after hB, b1.after hB, b2.after hB, b3.after hB, below_call hb hB⟩ (fun hS => ?_)
                clear hK K hB b0 b1 b2 b3 hb
                try simp only [Act.put, List.setIfInBounds_toArray, List.set_cons_zero, List.set_cons_succ]
                refine wpAnyH_take (i := 7) (v := ?_) (op_at rfl) (by kernel_rfl) (by kernel_rfl) (by kernel_rfl) (fun _ _ _ h => h) (Or.inl ⟨by rfl, ?_⟩) hS ?_; rotate_left; focus ((intro w' hSw; clear hSw; go_simp) <;> with_reducible rfl)
                try simp only [Act.put, List.setIfInBounds_toArray, List.set_cons_zero, List.set_cons_succ]
                refine wpAnyH_take (i := 8) (v := ?_) (op_at rfl) (by kernel_rfl) (by kernel_rfl) (by kernel_rfl) (fun _ _ _ h => h) (Or.inl ⟨by rfl, ?_⟩) hS ?_; rotate_left; focus ((intro w' hSw; clear hSw; go_simp) <;> with_reducible rfl)
                try simp only [Act.put, List.setIfInBounds_toArray, List.set_cons_zero, List.set_cons_succ]
                refine wpAnyH_take (i := 9) (v := ?_) (op_at rfl) (by kernel_rfl) (by kernel_rfl) (by kernel_rfl) (fun _ _ _ h => h) (Or.inl ⟨by rfl, ?_⟩) hS ?_; rotate_left; focus ((intro w' hSw; clear hSw; go_simp) <;> with_reducible rfl)
                try simp only [Act.put, List.setIfInBounds_toArray, List.set_cons_zero, List.set_cons_succ]
                refine wpAnyH_ready (rs := [11]) (by kernel_rfl) (by simp) ?_
                refine (AllReadyH.cons (op_at rfl) (fun K hK => ?_) AllReadyH.nil)
                have p_0 := N0.out.at_ (i := 0) (v := .int .i64 0) rfl
                have f_0 := N0.out.frozen 0
                have p_1 := N0.out.at_ (i := 1) (v := .int .u64 0) rfl
                have f_1 := N0.out.frozen 1
                have p_2 := N0.out.at_ (i := 2) (v := .int .i64 0) rfl
                have f_2 := N0.out.frozen 2
                go_simp
                clear p_0 f_0 p_1 f_1 p_2 f_2
                obtain ⟨b0, b1, b2, b3, hb⟩ := hS
                refine hK.out _ _ ⟨(Blk.far (Blk.far (Blk.far b0 d0_N0 _) d0_N0 _) d0_N0 _), (Blk.far (Blk.far (Blk.far b1 d1_N0 _) d1_N0 _) d1_N0 _), (Blk.far (Blk.far (Blk.far b2 d2_N0 _) d2_N0 _) d2_N0 _), (Els.far (Els.far (Els.far b3 d3_N0 _) d3_N0 _) d3_N0 _), (below_set (below_set (below_set hb dd_N0 _) dd_N0 _) dd_N0 _)⟩ (fun hS => ?_)
                replace N0 := Lib.hid (Blk.set' (u := .int .i64 nx.ig) (i := 2) (cs' := #[.int .i64 nx.lv, .int .u64 (u nx.c), .int .i64 nx.ig]) (Blk.set' (u := .int .u64 (u nx.c)) (i := 1) (cs' := #[.int .i64 nx.lv, .int .u64 (u nx.c), .int .i64 0]) (Blk.set' (u := .int .i64 nx.lv) (i := 0) (cs' := #[.int .i64 nx.lv, .int .u64 0, .int .i64 0]) N0.out rfl) rfl) rfl)
                clear hK K b0 b1 b2 b3 hb
                try simp only [Act.put, List.setIfInBounds_toArray, List.set_cons_zero, List.set_cons_succ]
                refine wpAnyH_take (i := 12) (v := ?_) (op_at rfl) (by kernel_rfl) (by kernel_rfl) (by kernel_rfl) (fun _ _ _ h => h) (Or.inl ⟨by rfl, ?_⟩) hS ?_; rotate_left; focus ((intro w' hSw; clear hSw; go_simp) <;> with_reducible rfl)
                try simp only [Act.put, List.setIfInBounds_toArray, List.set_cons_zero, List.set_cons_succ]
                refine wpAnyH_done (by kernel_rfl) ?_ _
                obtain ⟨b0, b1, b2, b3, hb⟩ := hS
                go_wp2_with fail
                go_meet
                exact ⟨_, rfl, rfl, N0.out, b0, b1, b2, b3, hb, d0_N0, d1_N0, d2_N0, d3_N0, dd_N0⟩
            case rest =>
              obtain ⟨g3, rfl, rfl, hn, h_0, h_1, h_2, h_3, hb, e0_g3, e1_g3, e2_g3, e3_g3, ee_g3⟩ := hcut
              replace B0 := Lib.hid h_0
              clear h_0
              replace B1 := Lib.hid h_1
              clear h_1
              replace B2 := Lib.hid h_2
              clear h_2
              replace B3 := Lib.hid h_3
              clear h_3
              have B4 := Lib.hid hn
              clear hn
              replace HB := Lib.hid hb
              clear hb
              have pB4_0 := B4.out.at_ (i := 0) (v := .int .i64 nx.lv) rfl
              have pB4_1 := B4.out.at_ (i := 1) (v := .int .u64 (u nx.c)) rfl
              have pB4_2 := B4.out.at_ (i := 2) (v := .int .i64 nx.ig) rfl
              have pB0_0 := B0.out.at_ (i := 0) (v := .int .i64 o.lv) rfl
              have fB0_0 := B0.out.frozen 0
              have pB0_1 := B0.out.at_ (i := 1) (v := .int .u64 (u o.c)) rfl
              have fB0_1 := B0.out.frozen 1
              have pB0_2 := B0.out.at_ (i := 2) (v := .int .i64 o.ig) rfl
              have fB0_2 := B0.out.frozen 2
              have Q0 := Lib.hid (show Blk (((wc.setCell ⟨w0.heap.size, 0, none⟩ (.int .i64 nx.lv)).setCell ⟨w0.heap.size, 1, none⟩ (.int .u64 (u nx.c))).setCell ⟨w0.heap.size, 2, none⟩ (.int .i64 nx.ig)) w0.heap.size 24 #[.int .i64 nx.lv, .int .u64 (u nx.c), .int .i64 nx.ig] from (Blk.set' (u := .int .i64 nx.ig) (i := 2) (cs' := #[.int .i64 nx.lv, .int .u64 (u nx.c), .int .i64 nx.ig]) (Blk.set' (u := .int .u64 (u nx.c)) (i := 1) (cs' := #[.int .i64 nx.lv, .int .u64 (u nx.c), .int .i64 o.ig]) (Blk.set' (u := .int .i64 nx.lv) (i := 0) (cs' := #[.int .i64 nx.lv, .int .u64 (u o.c), .int .i64 o.ig]) B0.out rfl) rfl) rfl))
              have Q1 := Lib.hid (show Blk (((wc.setCell ⟨w0.heap.size, 0, none⟩ (.int .i64 nx.lv)).setCell ⟨w0.heap.size, 1, none⟩ (.int .u64 (u nx.c))).setCell ⟨w0.heap.size, 2, none⟩ (.int .i64 nx.ig)) gh 24 #[.int .i64 high.lv, .int .u64 (u high.c), .int .i64 high.ig] from (Blk.far (Blk.far (Blk.far B1.out (by omega) _) (by omega) _) (by omega) _))
              have Q2 := Lib.hid (show Blk (((wc.setCell ⟨w0.heap.size, 0, none⟩ (.int .i64 nx.lv)).setCell ⟨w0.heap.size, 1, none⟩ (.int .u64 (u nx.c))).setCell ⟨w0.heap.size, 2, none⟩ (.int .i64 nx.ig)) gr 24 #[.int .i64 0, .int .u64 0, .int .i64 0] from (Blk.far (Blk.far (Blk.far B2.out (by omega) _) (by omega) _) (by omega) _))
              have QB := Lib.hid (show Below w0.heap.size w0 (((wc.setCell ⟨w0.heap.size, 0, none⟩ (.int .i64 nx.lv)).setCell ⟨w0.heap.size, 1, none⟩ (.int .u64 (u nx.c))).setCell ⟨w0.heap.size, 2, none⟩ (.int .i64 nx.ig)) from (below_set (below_set (below_set HB.out (by omega) _) (by omega) _) (by omega) _))
              go_wp2_with fail
              go_roundw
              case rel => exact ⟨k + 1, nx, by go_num, by omega, HF.out, HGN.out, Q0.out, Q1.out, Q2.out, QB.out⟩
              case measure => simp [intOf]; omega
        · have hke : k = ls.length := by omega
          subst hke
          have hK : pathK high cur ls = ls.length := pathK_is ls cur ls.length HGD.out (Nat.le_refl _) (.inl rfl)
          have HK1 := Lib.hid (show pathsL cur ls high = o by unfold pathsL; rw [if_pos HAR.out, hK]; exact HFO.out)
          have HK2 := Lib.hid (show pathsK cur ls high = ls.length by unfold pathsK; rw [if_pos HAR.out, hK])
          have HK3 := Lib.hid (show pathsE cur ls high = 0 by unfold pathsE; rw [if_pos HAR.out, hK, if_pos rfl])
          clear hK
          have p0 := B0.out.at_ (i := 0) (v := .int .i64 o.lv) rfl
          have p1 := B0.out.at_ (i := 1) (v := .int .u64 (u o.c)) rfl
          have p2 := B0.out.at_ (i := 2) (v := .int .i64 o.ig) rfl
          have q0 := B2.out.at_ (i := 0) (v := .int .i64 0) rfl
          have q1 := B2.out.at_ (i := 1) (v := .int .u64 0) rfl
          have q2 := B2.out.at_ (i := 2) (v := .int .i64 0) rfl
          have f0 := B2.out.frozen 0
          have f1 := B2.out.frozen 1
          have f2 := B2.out.frozen 2
          go_wp2_with fail
          have R : Blk (((wr.setCell ⟨gr, 0, none⟩ (.int .i64 o.lv)).setCell ⟨gr, 1, none⟩ (.int .u64 (u o.c))).setCell ⟨gr, 2, none⟩ (.int .i64 o.ig)) gr 24 #[.int .i64 o.lv, .int .u64 (u o.c), .int .i64 o.ig] := (Blk.set' (u := .int .i64 o.ig) (i := 2) (cs' := #[.int .i64 o.lv, .int .u64 (u o.c), .int .i64 o.ig]) (Blk.set' (u := .int .u64 (u o.c)) (i := 1) (cs' := #[.int .i64 o.lv, .int .u64 (u o.c), .int .i64 0]) (Blk.set' (u := .int .i64 o.lv) (i := 0) (cs' := #[.int .i64 o.lv, .int .u64 0, .int .i64 0]) B2.out rfl) rfl) rfl)
          have k0 := R.at_ (i := 0) (v := .int .i64 o.lv) rfl
          have k1 := R.at_ (i := 1) (v := .int .u64 (u o.c)) rfl
          have k2 := R.at_ (i := 2) (v := .int .i64 o.ig) rfl
          rw [HK1.out, HK2.out, HK3.out]
          refine bodyPost_ret (v := .tuple #[.agg #[.int .i64 o.lv, .int .u64 (u o.c), .int .i64 o.ig], .int .i64 ls.length, .int .i64 0]) (by simp [results, Tryd.results26, go_sem, k0, k1, k2]) rfl ⟨rfl, (below_set (below_set (below_set HB.out (by omega) _) (by omega) _) (by omega) _)⟩
theorem rPath_any (ls : List Lab) (v : Value) (cur high : Lab) (w0 : World) (hl : LabsAt w0.heap.size w0 v ls) :
    Calls Tryd.prog 26 #[.agg #[.int .i64 cur.lv, .int .u64 (u cur.c), .int .i64 cur.ig], v, .agg #[.int .i64 high.lv, .int .u64 (u high.c), .int .i64 high.ig]] w0 fun e w' => e = .returned (.tuple #[.agg #[.int .i64 (pathsL cur ls high).lv, .int .u64 (u (pathsL cur ls high).c), .int .i64 (pathsL cur ls high).ig], .int .i64 (pathsK cur ls high), .int .i64 (pathsE cur ls high)]) ∧ Below w0.heap.size w0 w' := by
  have key : allR cur high ls = (okL cur && (okL high && ls.all okL)) := by unfold allR; simp
  have zero : allR cur high ls = false → pathsL cur ls high = zeroL ∧ pathsK cur ls high = 0 ∧ pathsE cur ls high = 20 := fun h => by
    unfold pathsL pathsK pathsE; rw [h]; exact ⟨rfl, rfl, rfl⟩
  cases h1 : okL cur
  · obtain ⟨e1, e2, e3⟩ := zero (by rw [key, h1]; rfl)
    rw [e1, e2, e3]; exact rPath_0 ls v cur high w0 hl h1
  · cases h2 : okL high
    · obtain ⟨e1, e2, e3⟩ := zero (by rw [key, h1, h2]; rfl)
      rw [e1, e2, e3]; exact rPath_1 ls v cur high w0 hl h1 h2
    · cases h3 : ls.all okL
      · obtain ⟨e1, e2, e3⟩ := zero (by rw [key, h1, h2, h3]; rfl)
        rw [e1, e2, e3]; exact rPath_2 ls v cur high w0 hl h1 h2 h3
      · exact rPath_3 ls v cur high w0 hl h1 h2 h3 (by rw [key, h1, h2, h3]; rfl)
end Go.Proofs.YtmbafllkiofhnaaDoor
