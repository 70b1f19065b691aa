/-
  PACKAGE slots: the iterator of live.
-/
import Derived.Test.YtgjnmpbahekbfaaDoorSlK
import Derived.Test.YtgjnmpbahekbfaaDoorRange
import Derived.RangeFuncNested
import Derived.RangeFuncBound
import Derived.RangeFuncCalls
import Derived.RangeFuncLeaves
import Derived.RangeFuncBox
import Derived.Shelf.Abstract
import Derived.Shelf.RegionOpen
import Derived.OwnWalkIn
import Derived.TacticsInMore
import Derived.LoopNIn
import Derived.LoopIn
import Derived.WalkMore
namespace Go.Proofs.YtgjnmpbahekbfaaDoor
open Go.RowKit Go.Shelf

attribute [local go_sem] Oper.semAt_some

theorem wpInW_scope {n : Nat} {P : Program} {Q : Exit → Act → World → Prop} {a : Act} {w : World} {c : Code} (h : c.wpIn Fence.wide n P (Exit.noGoto Q) a w) : (Code.scope c).wpIn Fence.wide n P Q a w :=
  wpIn_wide.2 (wp_scope_straight (wpIn_wide.1 h))
/-- a handle -/
structure Hd where
  slot : Int
  gen : Int
  deriving DecidableEq
def encH (h : Hd) : Array Value := #[.agg #[.int .i64 h.slot, .int .i64 h.gen]]
def liveAt (gen : List Int) (tk : List Bool) (i : Nat) : Option Hd := match tk[i]?, gen[i]? with
  | some true, some g => some ⟨i, g⟩
  | _, _ => none
def liveTo (gen : List Int) (tk : List Bool) (k : Nat) : List Hd := (List.range k).filterMap (liveAt gen tk)
theorem liveTo_yes {gen : List Int} {tk : List Bool} {k : Nat} {g : Int} (ht : tk[k]? = some true) (hg : gen[k]? = some g) : liveTo gen tk (k + 1) = liveTo gen tk k ++ [⟨k, g⟩] := by
  unfold liveTo; rw [List.range_succ, List.filterMap_append]; simp [liveAt, ht, hg]
theorem liveTo_no {gen : List Int} {tk : List Bool} {k : Nat} (ht : tk[k]? = some false) : liveTo gen tk (k + 1) = liveTo gen tk k := by
  unfold liveTo; rw [List.range_succ, List.filterMap_append]; simp [liveAt, ht]
theorem liveTo_len (gen : List Int) (tk : List Bool) (k : Nat) : (liveTo gen tk k).length ≤ k := by
  unfold liveTo; have := List.length_filterMap_le (liveAt gen tk) (List.range k); simpa using this
/-- what the iterator reads -/
structure LiveEnv (W : World) (bt sb gb tb : Nat) (v : Value) (gen : List Int) (tk : List Bool) (un : Int) : Prop where
  b : Blk W bt 23 #[.pointer (some ⟨sb, 0, none⟩)]
  s : Blk W sb 57 (slotsC v (.slice (some ⟨gb, 0, none⟩) gen.length gen.length) (.slice (some ⟨tb, 0, none⟩) gen.length gen.length) un)
  g : Blk W gb 3 ⟨gen.map vI⟩
  t : Blk W tb 4 ⟨tk.map vB⟩
theorem LiveEnv.keepT {W W' : World} {bt sb gb tb : Nat} {v : Value} {gen : List Int} {tk : List Bool} {un : Int} {T : Nat → Prop} (h : LiveEnv W bt sb gb tb v gen tk un) (k : Turns T W W') (hT : ∀ b, b = bt ∨ b = sb ∨ b = gb ∨ b = tb → ¬ T b) : LiveEnv W' bt sb gb tb v gen tk un :=
  ⟨h.b.keepT k (hT _ (.inl rfl)), h.s.keepT k (hT _ (.inr (.inl rfl))), h.g.keepT k (hT _ (.inr (.inr (.inl rfl)))), h.t.keepT k (hT _ (.inr (.inr (.inr rfl))))⟩
theorem LiveEnv.moves {W W' : World} {n0 bt sb gb tb : Nat} {v : Value} {gen : List Int} {tk : List Bool} {un : Int} {T : Nat → Prop} (h : LiveEnv W bt sb gb tb v gen tk un) (k : Moves n0 T W W') (hT : ∀ b, b = bt ∨ b = sb ∨ b = gb ∨ b = tb → ¬ T b) : LiveEnv W' bt sb gb tb v gen tk un :=
  ⟨k.block h.b rfl (hT _ (.inl rfl)), k.block h.s rfl (hT _ (.inr (.inl rfl))), k.block h.g rfl (hT _ (.inr (.inr (.inl rfl)))), k.block h.t rfl (hT _ (.inr (.inr (.inr rfl))))⟩
set_option maxRecDepth 100000 in
set_option maxHeartbeats 8000000 in
theorem live_seq (n : Nat) (hn : 1 ≤ n) (bt sb gb tb n0 : Nat) (v : Value) (gen : List Int) (tk : List Bool) (un : Int) (W : World) (U : Nat → Prop) (hE : LiveEnv W bt sb gb tb v gen tk un) (htl : tk.length = gen.length) (hle : gen.length ≤ 900)
    (hU : ∀ b, b = bt ∨ b = sb ∨ b = gb ∨ b = tb → ¬ U b) :
    SeqM Fence.wide n Tryd.prog 35 #[.pointer (some ⟨bt, 0, none⟩)] encH n0 (fun _ => False) U (fun pre _ _ => pre.length < 900)
      (fun xs _ => xs = liveTo gen tk gen.length) (fun _ _ => True) W := by
  intro lp J Jx hJ hJx hY h0
  have HY := Lib.hid hY
  have HJ := Lib.hid hJ
  have HJX := Lib.hid hJx
  have H0 := Lib.hid h0
  have HU := Lib.hid hU
  have HE := Lib.hid hE
  have HTL := Lib.hid htl
  have p0 := hE.b.at_ (i := 0) (v := .pointer (some ⟨sb, 0, none⟩)) rfl
  have p1 := hE.s.at_ (i := 2) (v := .slice (some ⟨tb, 0, none⟩) gen.length gen.length) rfl
  clear hY hJ hJx h0 hU hE htl
  refine callsIn_of_wp Tryd.func35 rfl trivial ?_ rfl
  simp only [Tryd.ntmps35, List.size_toArray, List.length_cons, List.length_nil, Nat.reduceAdd, Nat.reduceSub, Array.replicate_succ, Array.replicate_zero, List.push_toArray, List.append_toArray, List.nil_append, List.cons_append]
  refine wpInW_scope ?_
  gi_wp2_with fail
  refine wpIn_label ?_
  simp only [Exit.then]
  gi_wp2
  gi_loopw [10] (fun s wr => ∃ k : Nat, s = .int .i64 k ∧ k ≤ gen.length ∧ J (liveTo gen tk k) wr ∧ LiveEnv wr bt sb gb tb v gen tk un) (fun s _ => gen.length - (intOf s).toNat)
  case atStart => exact ⟨0, rfl, Nat.zero_le _, H0.out, HE.out⟩
  case round =>
    obtain ⟨k, rfl, hlen, hJp, hE⟩ := hrel
    have HJP := Lib.hid hJp
    have HER := Lib.hid hE
    clear hJp hE
    by_cases hkl : k < gen.length
    · obtain ⟨x, hx⟩ : ∃ x, gen[k]? = some x := ⟨_, List.getElem?_eq_getElem hkl⟩
      obtain ⟨b, hb⟩ : ∃ b, tk[k]? = some b := ⟨_, List.getElem?_eq_getElem (by rw [HTL.out]; exact hkl)⟩
      have q0 := HER.out.b.at_ (i := 0) (v := .pointer (some ⟨sb, 0, none⟩)) rfl
      have q1 := HER.out.s.at_ (i := 1) (v := .slice (some ⟨gb, 0, none⟩) gen.length gen.length) rfl
      have q3 : wr.cell? ⟨gb, k, none⟩ = some (.int .i64 x) := HER.out.g.at_ (map_get hx)
      have q5 : wr.cell? ⟨tb, k, none⟩ = some (.bool b) := HER.out.t.at_ (map_get hb)
      have hkz : (0 : Int) ≤ (k : Int) := by omega
      have hkz2 : (k : Int) < (gen.length : Int) := by omega
      have HX := Lib.hid hx
      cases b
      · have HN := Lib.hid (liveTo_no (gen := gen) hb)
        clear hb hx
        gi_wp2_with fail
        refine ⟨(fun _ h => by cases h), ?_⟩
        gi_wp2_with fail
        go_roundw
        case rel => exact ⟨k + 1, by go_num, by omega, by rw [HN.out]; exact HJP.out, HER.out⟩
        case measure => simp [intOf]; omega
      · have HN := Lib.hid (liveTo_yes hb hx)
        clear hb hx
        obtain ⟨fn, tmps, assign, body, hy, hR⟩ := HY.out (liveTo gen tk k) ⟨k, x⟩ wr HJP.out (by have := liveTo_len gen tk k; omega)
        have HR := Lib.hid hR
        clear hR
        simp only [encH] at hy
        gi_wp2_with fail
        refine HR.out.mono ?_
        rintro e W3 (⟨rfl, hJ3, hk3⟩ | ⟨rfl, hJx3, hk3⟩)
        · have HJ3 := Lib.hid hJ3
          have HE3 := Lib.hid (HER.out.moves hk3 HU.out)
          clear hJ3 hk3
          gi_wp2_with fail
          go_roundw
          case rel => exact ⟨k + 1, by go_num, by omega, by rw [HN.out]; exact HJ3.out, HE3.out⟩
          case measure => simp [intOf]; omega
        · have HJX3 := Lib.hid hJx3
          clear hJx3 hk3
          gi_wp2_with fail
          rw [Exit.noGoto_normal]
          go_end0
          exact ⟨⟨_, rfl⟩, .inr ⟨_, trivial, HJX3.out⟩⟩
    · have hke : k = gen.length := by omega
      subst hke
      gi_wp2
      rw [Exit.noGoto_normal]
      go_end0
      exact ⟨⟨_, rfl⟩, .inl ⟨_, rfl, HJP.out⟩⟩
end Go.Proofs.YtgjnmpbahekbfaaDoor
