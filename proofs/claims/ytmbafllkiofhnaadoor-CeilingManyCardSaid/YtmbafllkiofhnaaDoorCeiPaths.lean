/-
  THE WALK OF THE STATEMENT CeilingPaths (printed by wip/genpathl.py).
-/
import Derived.Test.YtmbafllkiofhnaaDoorPathR
import Derived.Test.YtmbafllkiofhnaaDoorCeiG
namespace Go.Proofs.YtmbafllkiofhnaaDoor
open Go.RowKit

attribute [local go_sem] u_and u_or u_andNot u_add u_sub u_bit u_eq_zero u_beq

theorem LabsAt.take {B : Nat} {w : World} {b off m cap : Nat} {l : List Lab} (h : LabsAt B w (.slice (some ⟨b, off, none⟩) l.length cap) l) (k : Nat) (hm : (l.take k).length = m) : LabsAt B w (.slice (some ⟨b, off, none⟩) m cap) (l.take k) := by
  rcases h with ⟨h, _⟩ | ⟨b', off', cap', hv, hlt, hcap, hn, hc⟩
  · cases h
  · cases hv
    subst hm
    have := List.length_take_le k l
    have h2 : (l.take k).length ≤ l.length := by rw [List.length_take]; omega
    refine .inr ⟨b, off, cap, rfl, hlt, by omega, by omega, fun j x hx => hc j x ?_⟩
    rw [List.getElem?_take] at hx
    split at hx
    · exact hx
    · cases hx
set_option maxRecDepth 100000 in
set_option maxHeartbeats 4000000 in
theorem paths_nil (cur high x : Lab) (kk n : Int) (sa : Addr) (w : World) (hh : Env sa w) (hl : LabsAt w.heap.size w (.slice none 0 0) []) (hx : pathsL cur ([] : List Lab) high = x) (hk : pathsK cur ([] : List Lab) high = kk) (hn : pathsE cur ([] : List Lab) high = n) (hlen : (([] : List Lab)).length ≤ 1000) :
    Calls Tryd.prog 8 #[.agg #[.int .i64 cur.lv, .int .u64 (u cur.c), .int .i64 cur.ig], .slice none 0 0, .agg #[.int .i64 high.lv, .int .u64 (u high.c), .int .i64 high.ig]] w (Yes w) := by
  have HH := Lib.hid hh
  have HL := Lib.hid hl
  have hP := fun W hp hq => Path_any ([] : List Lab) (.slice none 0 0) cur high sa W hp hq hlen
  have hR := fun W hp => rPath_any ([] : List Lab) (.slice none 0 0) cur high W hp
  rw [hx, hk, hn] at hP hR
  have HP := Lib.hid hP
  have HR := Lib.hid hR
  clear hP hR hx hk hn hh hl hlen
  go_enter Tryd.func8, Tryd.ntmps8
  go_wp2_with fail
  refine (shown_any sa _ ((HH.out.alloc _).alloc _)).mono ?_
  rintro e w1 ⟨rfl, hB⟩
  have B0 : Hid (Blk w1 w.heap.size 24 #[.int .i64 cur.lv, .int .u64 (u cur.c), .int .i64 cur.ig]) := Lib.hid (((Blk.new' rfl).alloc _).after hB)
  have B1 : Hid (Blk w1 (w.heap.size + 1) 24 #[.int .i64 high.lv, .int .u64 (u high.c), .int .i64 high.ig]) := Lib.hid ((Blk.new' (by simp)).after hB)
  have HB := Lib.hid (below_call (below_alloc (below_alloc (Below.refl w.heap.size w) _) _) hB)
  clear hB
  generalize e1 : w.heap.size + 1 = b1 at *
  have pB0_0 := B0.out.at_ (i := 0) (v := .int .i64 cur.lv) rfl
  have pB0_1 := B0.out.at_ (i := 1) (v := .int .u64 (u cur.c)) rfl
  have pB0_2 := B0.out.at_ (i := 2) (v := .int .i64 cur.ig) rfl
  have lB0 := B0.out.lt
  have pB1_0 := B1.out.at_ (i := 0) (v := .int .i64 high.lv) rfl
  have pB1_1 := B1.out.at_ (i := 1) (v := .int .u64 (u high.c)) rfl
  have pB1_2 := B1.out.at_ (i := 2) (v := .int .i64 high.ig) rfl
  have lB1 := B1.out.lt
  go_wp2_with fail
  refine (HP.out _ ((HL.out.below HB.out).mono HB.out.size) (HH.out.up HB.out)).mono ?_
  rintro e w2 ⟨rfl, hB⟩
  clear pB0_0 pB0_1 pB0_2 pB1_0 pB1_1 pB1_2 lB0 lB1
  replace B0 := Lib.hid (B0.out.after hB)
  replace B1 := Lib.hid (B1.out.after hB)
  replace HB := Lib.hid (below_call HB.out hB)
  clear hB
  have pB0_0 := B0.out.at_ (i := 0) (v := .int .i64 cur.lv) rfl
  have pB0_1 := B0.out.at_ (i := 1) (v := .int .u64 (u cur.c)) rfl
  have pB0_2 := B0.out.at_ (i := 2) (v := .int .i64 cur.ig) rfl
  have lB0 := B0.out.lt
  have pB1_0 := B1.out.at_ (i := 0) (v := .int .i64 high.lv) rfl
  have pB1_1 := B1.out.at_ (i := 1) (v := .int .u64 (u high.c)) rfl
  have pB1_2 := B1.out.at_ (i := 2) (v := .int .i64 high.ig) rfl
  have lB1 := B1.out.lt
  go_wp2_with fail
  refine (HR.out _ ((HL.out.below (below_alloc HB.out _)).mono (below_alloc HB.out _).size)).mono ?_
  rintro e w3 ⟨rfl, hB⟩
  clear pB0_0 pB0_1 pB0_2 pB1_0 pB1_1 pB1_2 lB0 lB1
  have B2 : Hid (Blk w3 w2.heap.size 24 #[.int .i64 x.lv, .int .u64 (u x.c), .int .i64 x.ig]) := Lib.hid ((Blk.new' rfl).after hB)
  replace HB := Lib.hid (below_call (below_alloc HB.out _) hB)
  clear hB
  have pB2_0 := B2.out.at_ (i := 0) (v := .int .i64 x.lv) rfl
  have pB2_1 := B2.out.at_ (i := 1) (v := .int .u64 (u x.c)) rfl
  have pB2_2 := B2.out.at_ (i := 2) (v := .int .i64 x.ig) rfl
  have lB2 := B2.out.lt
  have hE := eqlIs (eqL_self x)
  go_wp2_with fail
  go_ret
  exact ⟨rfl, below_alloc HB.out _⟩
set_option maxRecDepth 100000 in
set_option maxHeartbeats 4000000 in
theorem paths_cut (cur high x : Lab) (kk n : Int) (sa : Addr) (w : World) (hh : Env sa w) (ls : List Lab) (b off cap : Nat) (hl : LabsAt w.heap.size w (.slice (some ⟨b, off, none⟩) 30 cap) (ls.take 30)) (hm : 30 < ls.length) (hcap : ls.length ≤ cap) (hn63 : ls.length ≤ 9223372036854775807) (hx : pathsL cur (ls.take 30) high = x) (hk : pathsK cur (ls.take 30) high = kk) (hn : pathsE cur (ls.take 30) high = n) (hlen : ((ls.take 30)).length ≤ 1000) :
    Calls Tryd.prog 8 #[.agg #[.int .i64 cur.lv, .int .u64 (u cur.c), .int .i64 cur.ig], .slice (some ⟨b, off, none⟩) ls.length cap, .agg #[.int .i64 high.lv, .int .u64 (u high.c), .int .i64 high.ig]] w (Yes w) := by
  have HH := Lib.hid hh
  have HL := Lib.hid hl
  have hP := fun W hp hq => Path_any (ls.take 30) (.slice (some ⟨b, off, none⟩) 30 cap) cur high sa W hp hq hlen
  have hR := fun W hp => rPath_any (ls.take 30) (.slice (some ⟨b, off, none⟩) 30 cap) cur high W hp
  rw [hx, hk, hn] at hP hR
  have HP := Lib.hid hP
  have HR := Lib.hid hR
  clear hP hR hx hk hn hh hl hlen
  go_enter Tryd.func8, Tryd.ntmps8
  go_wp2_with fail
  refine (shown_any sa _ ((HH.out.alloc _).alloc _)).mono ?_
  rintro e w1 ⟨rfl, hB⟩
  have B0 : Hid (Blk w1 w.heap.size 24 #[.int .i64 cur.lv, .int .u64 (u cur.c), .int .i64 cur.ig]) := Lib.hid (((Blk.new' rfl).alloc _).after hB)
  have B1 : Hid (Blk w1 (w.heap.size + 1) 24 #[.int .i64 high.lv, .int .u64 (u high.c), .int .i64 high.ig]) := Lib.hid ((Blk.new' (by simp)).after hB)
  have HB := Lib.hid (below_call (below_alloc (below_alloc (Below.refl w.heap.size w) _) _) hB)
  clear hB
  generalize e1 : w.heap.size + 1 = b1 at *
  have pB0_0 := B0.out.at_ (i := 0) (v := .int .i64 cur.lv) rfl
  have pB0_1 := B0.out.at_ (i := 1) (v := .int .u64 (u cur.c)) rfl
  have pB0_2 := B0.out.at_ (i := 2) (v := .int .i64 cur.ig) rfl
  have lB0 := B0.out.lt
  have pB1_0 := B1.out.at_ (i := 0) (v := .int .i64 high.lv) rfl
  have pB1_1 := B1.out.at_ (i := 1) (v := .int .u64 (u high.c)) rfl
  have pB1_2 := B1.out.at_ (i := 2) (v := .int .i64 high.ig) rfl
  have lB1 := B1.out.lt
  go_wp2_with fail
  refine (HP.out _ ((HL.out.below HB.out).mono HB.out.size) (HH.out.up HB.out)).mono ?_
  rintro e w2 ⟨rfl, hB⟩
  clear pB0_0 pB0_1 pB0_2 pB1_0 pB1_1 pB1_2 lB0 lB1
  replace B0 := Lib.hid (B0.out.after hB)
  replace B1 := Lib.hid (B1.out.after hB)
  replace HB := Lib.hid (below_call HB.out hB)
  clear hB
  have pB0_0 := B0.out.at_ (i := 0) (v := .int .i64 cur.lv) rfl
  have pB0_1 := B0.out.at_ (i := 1) (v := .int .u64 (u cur.c)) rfl
  have pB0_2 := B0.out.at_ (i := 2) (v := .int .i64 cur.ig) rfl
  have lB0 := B0.out.lt
  have pB1_0 := B1.out.at_ (i := 0) (v := .int .i64 high.lv) rfl
  have pB1_1 := B1.out.at_ (i := 1) (v := .int .u64 (u high.c)) rfl
  have pB1_2 := B1.out.at_ (i := 2) (v := .int .i64 high.ig) rfl
  have lB1 := B1.out.lt
  go_wp2_with fail
  refine (HR.out _ ((HL.out.below (below_alloc HB.out _)).mono (below_alloc HB.out _).size)).mono ?_
  rintro e w3 ⟨rfl, hB⟩
  clear pB0_0 pB0_1 pB0_2 pB1_0 pB1_1 pB1_2 lB0 lB1
  have B2 : Hid (Blk w3 w2.heap.size 24 #[.int .i64 x.lv, .int .u64 (u x.c), .int .i64 x.ig]) := Lib.hid ((Blk.new' rfl).after hB)
  replace HB := Lib.hid (below_call (below_alloc HB.out _) hB)
  clear hB
  have pB2_0 := B2.out.at_ (i := 0) (v := .int .i64 x.lv) rfl
  have pB2_1 := B2.out.at_ (i := 1) (v := .int .u64 (u x.c)) rfl
  have pB2_2 := B2.out.at_ (i := 2) (v := .int .i64 x.ig) rfl
  have lB2 := B2.out.lt
  have hE := eqlIs (eqL_self x)
  go_wp2_with fail
  go_ret
  exact ⟨rfl, below_alloc HB.out _⟩
set_option maxRecDepth 100000 in
set_option maxHeartbeats 4000000 in
theorem paths_all (cur high x : Lab) (kk n : Int) (sa : Addr) (w : World) (hh : Env sa w) (ls : List Lab) (b off cap : Nat) (hl : LabsAt w.heap.size w (.slice (some ⟨b, off, none⟩) ls.length cap) ls) (hm : ¬ 30 < ls.length) (hcap : ls.length ≤ cap) (hx : pathsL cur ls high = x) (hk : pathsK cur ls high = kk) (hn : pathsE cur ls high = n) (hlen : (ls).length ≤ 1000) :
    Calls Tryd.prog 8 #[.agg #[.int .i64 cur.lv, .int .u64 (u cur.c), .int .i64 cur.ig], .slice (some ⟨b, off, none⟩) ls.length cap, .agg #[.int .i64 high.lv, .int .u64 (u high.c), .int .i64 high.ig]] w (Yes w) := by
  have HH := Lib.hid hh
  have HL := Lib.hid hl
  have hP := fun W hp hq => Path_any ls (.slice (some ⟨b, off, none⟩) ls.length cap) cur high sa W hp hq hlen
  have hR := fun W hp => rPath_any ls (.slice (some ⟨b, off, none⟩) ls.length cap) cur high W hp
  rw [hx, hk, hn] at hP hR
  have HP := Lib.hid hP
  have HR := Lib.hid hR
  clear hP hR hx hk hn hh hl hlen
  go_enter Tryd.func8, Tryd.ntmps8
  go_wp2_with fail
  refine (shown_any sa _ ((HH.out.alloc _).alloc _)).mono ?_
  rintro e w1 ⟨rfl, hB⟩
  have B0 : Hid (Blk w1 w.heap.size 24 #[.int .i64 cur.lv, .int .u64 (u cur.c), .int .i64 cur.ig]) := Lib.hid (((Blk.new' rfl).alloc _).after hB)
  have B1 : Hid (Blk w1 (w.heap.size + 1) 24 #[.int .i64 high.lv, .int .u64 (u high.c), .int .i64 high.ig]) := Lib.hid ((Blk.new' (by simp)).after hB)
  have HB := Lib.hid (below_call (below_alloc (below_alloc (Below.refl w.heap.size w) _) _) hB)
  clear hB
  generalize e1 : w.heap.size + 1 = b1 at *
  have pB0_0 := B0.out.at_ (i := 0) (v := .int .i64 cur.lv) rfl
  have pB0_1 := B0.out.at_ (i := 1) (v := .int .u64 (u cur.c)) rfl
  have pB0_2 := B0.out.at_ (i := 2) (v := .int .i64 cur.ig) rfl
  have lB0 := B0.out.lt
  have pB1_0 := B1.out.at_ (i := 0) (v := .int .i64 high.lv) rfl
  have pB1_1 := B1.out.at_ (i := 1) (v := .int .u64 (u high.c)) rfl
  have pB1_2 := B1.out.at_ (i := 2) (v := .int .i64 high.ig) rfl
  have lB1 := B1.out.lt
  go_wp2_with fail
  refine (HP.out _ ((HL.out.below HB.out).mono HB.out.size) (HH.out.up HB.out)).mono ?_
  rintro e w2 ⟨rfl, hB⟩
  clear pB0_0 pB0_1 pB0_2 pB1_0 pB1_1 pB1_2 lB0 lB1
  replace B0 := Lib.hid (B0.out.after hB)
  replace B1 := Lib.hid (B1.out.after hB)
  replace HB := Lib.hid (below_call HB.out hB)
  clear hB
  have pB0_0 := B0.out.at_ (i := 0) (v := .int .i64 cur.lv) rfl
  have pB0_1 := B0.out.at_ (i := 1) (v := .int .u64 (u cur.c)) rfl
  have pB0_2 := B0.out.at_ (i := 2) (v := .int .i64 cur.ig) rfl
  have lB0 := B0.out.lt
  have pB1_0 := B1.out.at_ (i := 0) (v := .int .i64 high.lv) rfl
  have pB1_1 := B1.out.at_ (i := 1) (v := .int .u64 (u high.c)) rfl
  have pB1_2 := B1.out.at_ (i := 2) (v := .int .i64 high.ig) rfl
  have lB1 := B1.out.lt
  go_wp2_with fail
  refine (HR.out _ ((HL.out.below (below_alloc HB.out _)).mono (below_alloc HB.out _).size)).mono ?_
  rintro e w3 ⟨rfl, hB⟩
  clear pB0_0 pB0_1 pB0_2 pB1_0 pB1_1 pB1_2 lB0 lB1
  have B2 : Hid (Blk w3 w2.heap.size 24 #[.int .i64 x.lv, .int .u64 (u x.c), .int .i64 x.ig]) := Lib.hid ((Blk.new' rfl).after hB)
  replace HB := Lib.hid (below_call (below_alloc HB.out _) hB)
  clear hB
  have pB2_0 := B2.out.at_ (i := 0) (v := .int .i64 x.lv) rfl
  have pB2_1 := B2.out.at_ (i := 1) (v := .int .u64 (u x.c)) rfl
  have pB2_2 := B2.out.at_ (i := 2) (v := .int .i64 x.ig) rfl
  have lB2 := B2.out.lt
  have hE := eqlIs (eqL_self x)
  go_wp2_with fail
  go_ret
  exact ⟨rfl, below_alloc HB.out _⟩
theorem paths_walk (cur high : Lab) (ls : List Lab) (v : Value) (sa : Addr) (w : World) (hh : Env sa w) (hl : LabsAt w.heap.size w v ls) : Calls Tryd.prog 8 #[.agg #[.int .i64 cur.lv, .int .u64 (u cur.c), .int .i64 cur.ig], v, .agg #[.int .i64 high.lv, .int .u64 (u high.c), .int .i64 high.ig]] w (Yes w) := by
  have hl' := hl
  rcases hl with ⟨rfl, rfl⟩ | ⟨b, off, cap, rfl, hlt, hcap, hn63, hc⟩
  · exact paths_nil cur high _ _ _ sa w hh hl' rfl rfl rfl (by simp)
  · by_cases hm : 30 < ls.length
    · have hmm : (ls.take 30).length = 30 := by rw [List.length_take]; omega
      exact paths_cut cur high _ _ _ sa w hh ls b off cap (hl'.take 30 hmm) hm hcap hn63 rfl rfl rfl (by omega)
    · exact paths_all cur high _ _ _ sa w hh ls b off cap hl' hm hcap rfl rfl rfl (by omega)
end Go.Proofs.YtmbafllkiofhnaaDoor
