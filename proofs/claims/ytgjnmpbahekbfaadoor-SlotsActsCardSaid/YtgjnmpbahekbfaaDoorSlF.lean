/-
  PACKAGES container/heap, slots: Pop of free; heap.Push, heap.Pop.
-/
import Derived.Test.YtgjnmpbahekbfaaDoorSlE
namespace Go.Proofs.YtgjnmpbahekbfaaDoor
open Go.RowKit

attribute [local go_sem] mLess mSwap mLen mPush mPop assertI

theorem blk_apart {w : World} {a b : Nat} {s t : TypeId} {xs ys : Array Value} (h : Blk w a s xs) (k : Blk w b t ys) (hst : s ≠ t) : a ≠ b := by
  rintro rfl
  have := (show w.heap[a]? = _ from h).symm.trans k
  simp at this
  exact hst this.2
theorem row_size {cs cs' : Array Value} {h h' : List Int} {r : List Value} (hc : cs.toList = h.map vI ++ r) (hc' : cs'.toList = h'.map vI ++ r) (hl : h'.length = h.length) : cs'.size = cs.size := by
  rw [← Array.length_toList, ← Array.length_toList, hc, hc', List.length_append, List.length_append, List.length_map, List.length_map, hl]
theorem Blk.els {w : World} {b : Nat} {t : TypeId} {v : Value} {vs : List Value} (h : Blk w b t ⟨v :: vs⟩) : Els w b 0 #[v] := Els.one (h.at_ (i := 0) rfl)
set_option maxRecDepth 100000 in
set_option maxHeartbeats 4000000 in
theorem Pop_m (base sb : Nat) (v gv tv : Value) (un : Int) (h : List Int) (w : World) (hs : Blk w sb 57 (slotsC v gv tv un)) (hh : HeapAt base w v h) (hn : h ≠ []) (hle : h.length ≤ 1000) :
    Calls Tryd.prog 57 #[.pointer (some ⟨sb, 0, none⟩)] w fun e w' => e = .returned (.iface 3 (.int .i64 (at0 h (h.length - 1)))) ∧ ∃ g c, v.ownBlock = some g ∧ Blk w' sb 57 (slotsC (.slice (some ⟨g, 0, none⟩) (h.length - 1) c) gv tv un) ∧ HeapAt base w' (.slice (some ⟨g, 0, none⟩) (h.length - 1) c) (h.take (h.length - 1)) ∧ Turns (Own sb v w.heap.size) w w' := by
  obtain ⟨g, cap, cs, r, rfl, hbg, hG, hc1, hc2, hc3, hc4⟩ := heap_open hh hn
  have hpos : 0 < h.length := List.length_pos_iff.2 hn
  obtain ⟨n1, hn1⟩ : ∃ n1, h.length = n1 + 1 := ⟨h.length - 1, by omega⟩
  have hsub : h.length - 1 = n1 := by omega
  rw [hsub]
  have p0 := hs.at_ (i := 0) (v := .slice (some ⟨g, 0, none⟩) h.length cap) rfl
  have f0 := hs.frozen 0
  have hsl : sb < w.heap.size := hs.lt
  have hgl : g < w.heap.size := hG.lt
  have hap := blk_apart hs hG (by decide)
  have pg : w.cell? ⟨g, n1, none⟩ = some (.int .i64 (at0 h n1)) := hG.at_ (row_get hc4 (by omega))
  have e1 : wrap64 ((h.length : Int) - 1) = (n1 : Int) := by unfold wrap64; omega
  have e1' : IntKind.i64.wrap ((h.length : Int) - 1) = (n1 : Int) := by rw [wrapIs]; exact e1
  have e2 : (0 : Int) ≤ (n1 : Int) := by omega
  have e3 : (n1 : Int) < (h.length : Int) := by omega
  have e4 : (n1 : Int) ≤ (cap : Int) := by omega
  have HS := Lib.hid hs
  have HG := Lib.hid hG
  have HR := Lib.hid hc4
  have HC3 := Lib.hid hc3
  have HN1 := Lib.hid hn1
  clear hs hh hG hc4 hc3 hn hn1 hsub
  go_enter Tryd.func57, Tryd.ntmps57
  go_wp2_with fail
  go_ret
  have hB2 := Blk.set' (u := .slice (some ⟨g, 0, none⟩) n1 cap) (i := 0) (cs' := slotsC (.slice (some ⟨g, 0, none⟩) n1 cap) gv tv un) HS.out rfl
  refine ⟨rfl, g, cap, rfl, hB2, ?_, (Turns.refl _ w).setCell (p := ⟨sb, 0, none⟩) (.inl rfl) _⟩
  have hl : (h.take n1).length = n1 := by rw [List.length_take]; have := HN1.out; omega
  have := heap_close (base := base) (h := h.take n1) (r := (h.drop n1).map vI ++ r) hbg (HG.out.far (i := 0) (Ne.symm hap) (.slice (some ⟨g, 0, none⟩) n1 cap)) (by omega) hc2 HC3.out (by rw [HR.out, ← List.append_assoc, ← List.map_append, List.take_append_drop])
  rw [hl] at this
  exact this
set_option maxRecDepth 100000 in
set_option maxHeartbeats 4000000 in
theorem HPush_any (base sb : Nat) (v gv tv : Value) (un x : Int) (h : List Int) (w : World) (hs : Blk w sb 57 (slotsC v gv tv un)) (hh : HeapAt base w v h) (hb : base ≤ w.heap.size) (hle : h.length ≤ 900) :
    Calls Tryd.prog 22 #[heapV sb, .iface 3 (.int .i64 x)] w fun e w' => e = .returned (.tuple #[]) ∧ ∃ g n c, Blk w' sb 57 (slotsC (.slice (some ⟨g, 0, none⟩) n c) gv tv un) ∧ HeapAt base w' (.slice (some ⟨g, 0, none⟩) n c) (upL (h ++ [x]) h.length) ∧ (v.ownBlock = some g ∨ w.heap.size ≤ g) ∧ Turns (Own sb v w.heap.size) w w' := by
  have HS := Lib.hid hs
  have HH := Lib.hid hh
  clear hs hh
  go_enter Tryd.func22, Tryd.ntmps22
  go_wp2_with fail
  refine (Push_m base sb v gv tv un x h w HS.out HH.out hb (by omega)).mono ?_
  rintro e w1 ⟨rfl, g, n, c, hS1, hH1, hown, hT⟩
  have hlen : (h ++ [x]).length = n := by
    rcases hH1.2 with ⟨h1, _⟩ | ⟨_, _, _, h1, _⟩
    · cases h1
    · cases h1; rfl
  have hlen2 : n = h.length + 1 := by rw [← hlen, List.length_append]; rfl
  obtain ⟨g', cap, cs, r, hv, hbg, hG, hc1, hc2, hc3, hc4⟩ := heap_open hH1 (by simp)
  rw [hlen] at hv
  cases hv
  have hap := blk_apart hS1 hG (by decide)
  have p0 := hS1.at_ (i := 0) (v := .slice (some ⟨g, 0, none⟩) n c) rfl
  have e1 : wrap64 ((n : Int) - 1) = (h.length : Int) := by unfold wrap64; omega
  have e1' : IntKind.i64.wrap ((n : Int) - 1) = (h.length : Int) := by rw [wrapIs]; exact e1
  have S1 := Lib.hid hS1
  have G1 := Lib.hid hG
  have HC4 := Lib.hid hc4
  have HC3 := Lib.hid hc3
  have HOW := Lib.hid hown
  have HT := Lib.hid hT
  have HLEN := Lib.hid hlen
  clear hS1 hG hc4 hc3 hown hT hH1 hlen
  go_wp2_with fail
  refine (Len_any sb n c _ w1 p0).mono ?_
  rintro e w2 ⟨rfl, rfl⟩
  go_wp2_with fail
  refine (up_any sb g n c (h ++ [x]) r cs h.length w1 (Blk.els S1.out) G1.out HC4.out HLEN.out (by omega) (by omega) hap).mono ?_
  rintro e w2 ⟨rfl, ⟨cs', hG2, hc2'⟩, hT2⟩
  have HG2 := Lib.hid hG2
  have HC2 := Lib.hid hc2'
  have HT2 := Lib.hid hT2
  clear hG2 hc2' hT2
  go_wp2_with fail
  go_end0
  have hsz : cs'.size = c := (row_size HC4.out HC2.out (upL_len _ _)).trans HC3.out
  have hcl := heap_close (base := base) (h := upL (h ++ [x]) h.length) (r := r) hbg HG2.out (by rw [upL_len, HLEN.out]; have := HLEN.out; omega) hc2 hsz HC2.out
  rw [upL_len, HLEN.out] at hcl
  refine ⟨rfl, g, n, c, S1.out.turned HT2.out hap, hcl, HOW.out, HT.out.trans (HT2.out.mono (fun k hk => ?_))⟩
  subst hk
  rcases HOW.out with h1 | h1
  · exact .inr (.inl h1)
  · exact .inr (.inr h1)
theorem downL_len (h : List Int) (i n : Nat) : (downL h i n).length = h.length := by
  generalize hm : n - i = m
  induction m using Nat.strongRecOn generalizing h i with
  | _ m ih =>
    by_cases hl : 2 * i + 1 < n
    · by_cases hn : at0 h (leastC h i n) < at0 h i
      · have := leastC_lt (h := h) hl
        rw [downL_yes hl hn, ih _ (by omega) _ _ rfl, swapL_len]
      · rw [downL_no hl hn]
    · rw [downL_end hl]
/-- what a heap's Pop leaves, ahead of the last one's going -/
def popL (h : List Int) : List Int := downL (swapL h 0 (h.length - 1)) 0 (h.length - 1)
theorem popL_len (h : List Int) : (popL h).length = h.length := by unfold popL; rw [downL_len, swapL_len]
set_option maxRecDepth 100000 in
set_option maxHeartbeats 4000000 in
theorem HPop_any (base sb : Nat) (v gv tv : Value) (un : Int) (h : List Int) (w : World) (hs : Blk w sb 57 (slotsC v gv tv un)) (hh : HeapAt base w v h) (hn : h ≠ []) (hle : h.length ≤ 900) :
    Calls Tryd.prog 31 #[heapV sb] w fun e w' => e = .returned (.iface 3 (.int .i64 (at0 (popL h) (h.length - 1)))) ∧ ∃ g c, v.ownBlock = some g ∧ Blk w' sb 57 (slotsC (.slice (some ⟨g, 0, none⟩) (h.length - 1) c) gv tv un) ∧ HeapAt base w' (.slice (some ⟨g, 0, none⟩) (h.length - 1) c) ((popL h).take (h.length - 1)) ∧ Turns (Own sb v w.heap.size) w w' := by
  obtain ⟨g, cap, cs, r, rfl, hbg, hG, hc1, hc2, hc3, hc4⟩ := heap_open hh hn
  have hpos : 0 < h.length := List.length_pos_iff.2 hn
  obtain ⟨n1, hn1⟩ : ∃ n1, n1 = h.length - 1 := ⟨_, rfl⟩
  have hap := blk_apart hs hG (by decide)
  have p0 := hs.at_ (i := 0) (v := .slice (some ⟨g, 0, none⟩) h.length cap) rfl
  have e1 : wrap64 ((h.length : Int) - 1) = (n1 : Int) := by unfold wrap64; omega
  have e1' : IntKind.i64.wrap ((h.length : Int) - 1) = (n1 : Int) := by rw [wrapIs]; exact e1
  have h0 : (0 : Int) = ((0 : Nat) : Int) := rfl
  have S0 := Lib.hid hs
  have G0 := Lib.hid hG
  have HC4 := Lib.hid hc4
  have HC3 := Lib.hid hc3
  have HN1 := Lib.hid hn1
  have P0 := Lib.hid p0
  have HL : Hid (popL h = downL (swapL h 0 n1) 0 n1) := Lib.hid (by unfold popL; rw [hn1])
  rw [← hn1]
  have hlt1 : n1 < h.length := by omega
  clear hs hG hc4 hc3 hh hn hn1 h0
  go_enter Tryd.func31, Tryd.ntmps31
  go_wp2_with fail
  refine (Len_any sb h.length cap _ w p0).mono ?_
  rintro e w2 ⟨rfl, rfl⟩
  clear p0
  go_wp2_with fail
  refine (Swap_any sb g h.length cap 0 n1 _ _ cs w P0.out G0.out (row_get HC4.out hpos) (row_get HC4.out hlt1) hpos hlt1 hap).mono ?_
  rintro e w1 ⟨rfl, hG1, hT1⟩
  have G1 := Lib.hid hG1
  have HT1 := Lib.hid hT1
  have R1 := Lib.hid (row_swap HC4.out hpos hlt1)
  clear hG1 hT1
  go_wp2_with fail
  refine (down_any sb g h.length cap n1 (swapL h 0 n1) r _ 0 w1 ((Blk.els S0.out).turned HT1.out hap) G1.out R1.out (swapL_len _ _ _) (Nat.zero_le _) (by omega) (by omega) hap).mono ?_
  rintro e w2 ⟨bv, rfl, ⟨cs', hG2, hc2'⟩, hT2⟩
  rw [← HL.out] at hc2'
  have S2 := Lib.hid ((S0.out.turned HT1.out hap).turned hT2 hap)
  have HT2 := Lib.hid (HT1.out.trans hT2)
  have hsz : cs'.size = cap := (row_size R1.out hc2' (by rw [popL_len, swapL_len])).trans ((row_size HC4.out R1.out (swapL_len _ _ _)).trans HC3.out)
  have hcl := heap_close (base := base) (h := popL h) (r := r) hbg hG2 (by rw [popL_len]; exact hc1) hc2 hsz hc2'
  rw [popL_len] at hcl
  have HH2 := Lib.hid hcl
  clear hG2 hc2' hT2 hcl hsz
  go_wp2_with fail
  refine (Pop_m base sb (.slice (some ⟨g, 0, none⟩) h.length cap) gv tv un (popL h) w2 S2.out HH2.out (fun e => by have := popL_len h; rw [e] at this; simp at this; omega) (by rw [popL_len]; omega)).mono ?_
  rintro e w3 ⟨rfl, g3, c3, hv3, hS3, hH3, hT3⟩
  cases hv3
  rw [popL_len, ← HN1.out] at hS3 hH3
  rw [popL_len, ← HN1.out]
  have S3 := Lib.hid hS3
  have H3 := Lib.hid hH3
  have T3 := Lib.hid hT3
  clear hS3 hH3 hT3
  go_wp2_with fail
  go_ret
  refine ⟨rfl, g, c3, rfl, S3.out, H3.out, (HT2.out.mono (fun k hk => ?_)).trans (T3.out.mono (fun k hk => ?_))⟩
  · subst hk; exact .inr (.inl rfl)
  · rcases hk with h1 | h1 | h1
    · exact .inl h1
    · exact .inr (.inl h1)
    · exact .inr (.inr (Nat.le_trans HT2.out.size h1))
end Go.Proofs.YtgjnmpbahekbfaaDoor
