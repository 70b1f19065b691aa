/-
  THE REFERENCE'S SLOTS: Take, Live, Give.
-/
import Derived.Test.YtgjnmpbahekbfaaDoorSlRa
import Derived.Deep.QuietTactic
import Derived.BigQuiet
namespace Go.Proofs.YtgjnmpbahekbfaaDoor
open Go.RowKit

theorem wrapI (n : Int) (h : -9223372036854775808 ≤ n ∧ n ≤ 9223372036854775807) : IntKind.i64.wrap n = n := by simp [IntKind.wrap, IntKind.bits, IntKind.signed]; omega
theorem RefAt.cells {w : World} {rb gb tb n : Nat} {gen : List Int} {tk : List Bool} (H : RefAt w rb gb tb n gen tk) : w.cell? ⟨rb, 0, none⟩ = some (.slice (some ⟨gb, 0, none⟩) n n) ∧ w.cell? ⟨rb, 1, none⟩ = some (.slice (some ⟨tb, 0, none⟩) n n) :=
  ⟨H.s.at_ (i := 0) rfl, H.s.at_ (i := 1) rfl⟩
theorem RefAt.gen {w : World} {rb gb tb n : Nat} {gen : List Int} {tk : List Bool} (H : RefAt w rb gb tb n gen tk) {i : Nat} {x : Int} (h : gen[i]? = some x) : w.cell? ⟨gb, i, none⟩ = some (.int .i64 x) := H.g.at_ (map_get h)
theorem RefAt.tk {w : World} {rb gb tb n : Nat} {gen : List Int} {tk : List Bool} (H : RefAt w rb gb tb n gen tk) {i : Nat} {b : Bool} (h : tk[i]? = some b) : w.cell? ⟨tb, i, none⟩ = some (.bool (!b)) := H.t.at_ (map_get (not_get h))
theorem RefAt.lts {w : World} {rb gb tb n : Nat} {gen : List Int} {tk : List Bool} (H : RefAt w rb gb tb n gen tk) : rb < w.heap.size ∧ gb < w.heap.size ∧ tb < w.heap.size := ⟨H.s.lt, H.g.lt, H.t.lt⟩
theorem RefAt.ne {w : World} {rb gb tb n : Nat} {gen : List Int} {tk : List Bool} (H : RefAt w rb gb tb n gen tk) : gb ≠ rb ∧ tb ≠ rb ∧ tb ≠ gb := ⟨blk_apart H.g H.s (by decide), blk_apart H.t H.s (by decide), blk_apart H.t H.g (by decide)⟩
theorem RefAt.gets {w : World} {rb gb tb n : Nat} {gen : List Int} {tk : List Bool} (H : RefAt w rb gb tb n gen tk) {j : Nat} (h : j < n) : (∃ x, gen[j]? = some x) ∧ ∃ b, tk[j]? = some b :=
  ⟨⟨_, List.getElem?_eq_getElem (by rw [H.gl]; exact h)⟩, ⟨_, List.getElem?_eq_getElem (by rw [H.tl]; exact h)⟩⟩
set_option maxRecDepth 100000 in
set_option maxHeartbeats 8000000 in
/-- Take: the least free -/
theorem rTake_w (rb gb tb : Nat) (n : Nat) (gen : List Int) (tk : List Bool) (i : Nat) (x : Int) (w : World) (H : RefAt w rb gb tb n gen tk) (hn : n ≤ 64)
    (ht : tk[i]? = some false) (hg : gen[i]? = some x) (hx : x < 1000) (hx0 : 0 ≤ x) (hl : ∀ j, j < i → ¬ FreeAt gen tk j) :
    Calls Tryd.prog 16 #[.pointer (some ⟨rb, 0, none⟩)] w fun e w' => e = .returned (.tuple #[.agg #[.int .i64 i, .int .i64 (x + 1)], .int .i64 0]) ∧ RefAt w' rb gb tb n (gen.set i (x + 1)) (tk.set i true) ∧ Turns (OwnF gb tb w.heap.size) w w' := by
  have hin : i < n := by have := (List.getElem?_eq_some_iff.1 ht).1; rw [H.tl] at this; exact this
  have HH := Lib.hid H
  have HL := Lib.hid hl
  have HT := Lib.hid ht
  have HG := Lib.hid hg
  have HN := Lib.hid hin
  have HX := Lib.hid (And.intro hx0 hx)
  have hNE := Lib.hid H.ne
  clear H hl ht hg hin hx hx0
  go_enter Tryd.func16, Tryd.ntmps16
  go_wp2_with fail
  go_loopw [4] (fun s wr => ∃ j : Nat, s = .int .i64 j ∧ j ≤ i ∧ RefAt wr rb gb tb n gen tk ∧ Blk wr w.heap.size 28 #[.int .i64 0, .int .i64 0] ∧ Turns (OwnF gb tb w.heap.size) w wr) (fun s _ => i + 1 - (intOf s).toNat)
  case atStart => exact ⟨0, rfl, Nat.zero_le _, HH.out.alloc _, Blk.new' rfl, (Turns.refl _ w).alloc _⟩
  case round =>
    obtain ⟨j, rfl, hj, hR, hB, hT⟩ := hrel
    have R := Lib.hid hR
    have B := Lib.hid hB
    have TT := Lib.hid hT
    have k0 : (0 : Int) ≤ (j : Int) := by omega
    have k1 : (j : Int) < (n : Int) := by have := HN.out; omega
    have k2 : decide ((j : Int) < (n : Int)) = true := decide_eq_true k1
    have q0 := hR.cells.1
    have q1 := hR.cells.2
    by_cases hji : j = i
    · subst hji
      have q2 : wr.cell? ⟨tb, j, none⟩ = some (.bool true) := hR.tk HT.out
      have q3 := hR.gen HG.out
      have d1 : decide (x < 1000) = true := decide_eq_true HX.out.2
      have d2 : IntKind.i64.wrap (x + 1) = x + 1 := wrapI _ (by have := HX.out; omega)
      have f0 := hR.t.frozen j
      have f1 := hR.g.frozen j
      have f2 := hB.frozen 0
      have f3 := hB.frozen 1
      have b0 := hB.at_ (i := 0) (v := .int .i64 0) rfl
      have b1 := hB.at_ (i := 1) (v := .int .i64 0) rfl
      obtain ⟨l0, l1, l2⟩ := HH.out.lts
      have m1 : w.heap.size ≠ gb := by omega
      have m2 : w.heap.size ≠ tb := by omega
      have m3 : w.heap.size ≠ rb := by omega
      obtain ⟨n1, n2, n3⟩ := hNE.out
      have T1 : Blk (wr.setCell ⟨tb, j, none⟩ (.bool false)) tb 4 ⟨((tk.set j true).map Bool.not).map vB⟩ := by
        have := hR.t.set' (u := vB false) (i := j) (set_map vB (tk.map Bool.not) j false)
        rwa [show (tk.map Bool.not).set j false = (tk.set j true).map Bool.not by rw [List.map_set]; rfl] at this
      have G1 := hR.g.far (Ne.symm n3) (i := j) (.bool false)
      have S1 := hR.s.far (Ne.symm n2) (i := j) (.bool false)
      have B1 := hB.far m2 (i := j) (.bool false)
      have G2 : Blk ((wr.setCell ⟨tb, j, none⟩ (.bool false)).setCell ⟨gb, j, none⟩ (.int .i64 (x + 1))) gb 3 ⟨(gen.set j (x + 1)).map vI⟩ := G1.set' (u := vI (x + 1)) (set_map vI gen j (x + 1))
      have T2 := T1.far n3 (i := j) (.int .i64 (x + 1))
      have S2 := S1.far (Ne.symm n1) (i := j) (.int .i64 (x + 1))
      have B2 := B1.far m1 (i := j) (.int .i64 (x + 1))
      have r0 := S1.at_ (i := 0) (v := .slice (some ⟨gb, 0, none⟩) n n) rfl
      have r1 := G1.at_ (map_get HG.out)
      have r2 := G1.frozen j
      have r3 := S2.at_ (i := 0) (v := .slice (some ⟨gb, 0, none⟩) n n) rfl
      have hjl : j < gen.length := by rw [hR.gl]; exact HN.out
      have r4 := G2.at_ (map_get (List.getElem?_set_self hjl))
      have r5 := B2.frozen 0
      have r6 := B2.frozen 1
      have b2 := B2.at_ (i := 0) (v := .int .i64 0) rfl
      have b3 := B2.at_ (i := 1) (v := .int .i64 0) rfl
      have B3 : Blk ((((wr.setCell ⟨tb, j, none⟩ (.bool false)).setCell ⟨gb, j, none⟩ (.int .i64 (x + 1))).setCell ⟨w.heap.size, 0, none⟩ (.int .i64 j)).setCell ⟨w.heap.size, 1, none⟩ (.int .i64 (x + 1))) w.heap.size 28 #[.int .i64 j, .int .i64 (x + 1)] := (B2.set' (i := 0) (cs' := #[.int .i64 j, .int .i64 0]) rfl).set' (i := 1) rfl
      have KS := Lib.hid (And.intro S2 (And.intro G2 T2))
      have KB := Lib.hid B3
      clear S1 S2 G1 G2 T1 T2 B1 B2 B3 hR hB hT hjl
      simp only [vI] at r1 r4
      go_wp2_with fail
      have e0 := KB.out.at_ (i := 0) (v := .int .i64 j) rfl
      have e1 := KB.out.at_ (i := 1) (v := .int .i64 (x + 1)) rfl
      have U : Turns (· = w.heap.size) ((wr.setCell ⟨tb, j, none⟩ (.bool false)).setCell ⟨gb, j, none⟩ (.int .i64 (x + 1))) ((((wr.setCell ⟨tb, j, none⟩ (.bool false)).setCell ⟨gb, j, none⟩ (.int .i64 (x + 1))).setCell ⟨w.heap.size, 0, none⟩ (.int .i64 j)).setCell ⟨w.heap.size, 1, none⟩ (.int .i64 (x + 1))) := ((Turns.refl (· = w.heap.size) _).setCell (p := ⟨w.heap.size, 0, none⟩) rfl _).setCell (p := ⟨w.heap.size, 1, none⟩) rfl _
      refine bodyPost_ret (v := .tuple #[.agg #[.int .i64 j, .int .i64 (x + 1)], .int .i64 0]) (by simp [results, Tryd.results16, go_sem, e0, e1]) rfl ⟨rfl, ?_, ?_⟩
      · exact ⟨KS.out.1.keepT U (Ne.symm m3), KS.out.2.1.keepT U (Ne.symm m1), KS.out.2.2.keepT U (Ne.symm m2), by rw [List.length_set]; exact R.out.gl, by rw [List.length_set]; exact R.out.tl⟩
      · exact ((TT.out.setCell (p := ⟨tb, j, none⟩) (.inr (.inl rfl)) _).setCell (p := ⟨gb, j, none⟩) (.inl rfl) _).trans (U.mono (fun k hk => .inr (.inr (by omega))))
    · have hlt : j < i := by omega
      have HLT := Lib.hid hlt
      obtain ⟨⟨y, hy⟩, b, hb⟩ := hR.gets (j := j) (by have := HN.out; omega)
      have q2 := hR.tk hb
      have q3 := hR.gen hy
      cases b
      · have d1 : decide (y < 1000) = false := decide_eq_false (fun h => HL.out j hlt ⟨hb, y, hy, h⟩)
        simp only [Bool.not_false] at q2
        clear hR hB hT hy hb hlt hji hj
        go_wp2_with fail
        go_roundw
        case rel => exact ⟨j + 1, by go_num, by have := HLT.out; omega, R.out, B.out, TT.out⟩
        case measure => have := HLT.out; simp [intOf]; omega
      · simp only [Bool.not_true] at q2
        clear hR hB hT hy hb hlt hji hj
        go_wp2_with fail
        go_roundw
        case rel => exact ⟨j + 1, by go_num, by have := HLT.out; omega, R.out, B.out, TT.out⟩
        case measure => have := HLT.out; simp [intOf]; omega
end Go.Proofs.YtgjnmpbahekbfaaDoor
