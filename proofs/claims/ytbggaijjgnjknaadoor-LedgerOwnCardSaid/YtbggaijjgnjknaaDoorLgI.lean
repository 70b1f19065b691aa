/-
  PACKAGE slices at lines: Insert of one line.
-/
import Derived.Test.YtbggaijjgnjknaaDoorLgG
namespace Go.Proofs.YtbggaijjgnjknaaDoor
open Go.RowKit

/-- cells laid over a row from a place on -/
def lay4 (cur : Array Value) (o : Nat) (cs : List Value) : Array Value := (cur.toList.take o ++ cs ++ cur.toList.drop (o + cs.length)).toArray
theorem lay4_size {cur : Array Value} {o : Nat} {cs : List Value} (h : o + cs.length ≤ cur.size) : (lay4 cur o cs).size = cur.size := by
  unfold lay4; simp; omega
theorem lay4_get {cur : Array Value} {o : Nat} {cs : List Value} (h : o + cs.length ≤ cur.size) (k : Nat) : (lay4 cur o cs)[k]? = if o ≤ k ∧ k < o + cs.length then cs[k - o]? else cur[k]? := by
  have ho : (cur.toList.take o).length = o := by rw [List.length_take, Array.length_toList]; omega
  unfold lay4
  rw [List.getElem?_toArray]
  by_cases h1 : k < o
  · rw [if_neg (by omega), List.append_assoc, List.getElem?_append_left (by omega), List.getElem?_take, if_pos h1, Array.getElem?_toList]
  · by_cases h2 : k < o + cs.length
    · rw [if_pos ⟨by omega, h2⟩, List.append_assoc, List.getElem?_append_right (by omega), ho, List.getElem?_append_left (by omega)]
    · rw [if_neg (by omega), List.getElem?_append_right (by rw [List.length_append, ho]; omega), List.length_append, ho, List.getElem?_drop, ← Array.getElem?_toList]
      congr 1; omega
theorem run_copyL (w : World) (ty : TypeId) (g o dLen dCap : Nat) (a : Addr) (sLen sCap m : Nat) (cur : Array Value) (t : TypeId) (cs : List Value) (hg : w.heap[g]? = some (.cells cur t (0, 0))) (hm : m = Nat.min sLen dLen) (hn : cs.length = m * 4)
    (hsrc : ∀ j v, cs[j]? = some v → w.cell? (a.add j) = some v) (hfit : o + cs.length ≤ cur.size) (h1 : ∀ v ∈ cs, v.oneCell' = true) :
    (Builtin.copy_ #[22, 22] ty #[.slice (some ⟨g, o, none⟩) dLen dCap, .slice (some a) sLen sCap]).run Tryd.prog w = .ok (goInt m) (w.setRow g (lay4 cur o cs)) := run_copy4 w ty g o dLen dCap a sLen sCap m cur t cs hg hm hn hsrc hfit h1
/-- a line put in at place i -/
def insL (l : List Ln) (i : Nat) (x : Ln) : List Ln := l.take i ++ x :: l.drop i
theorem insL_len (l : List Ln) (i : Nat) (x : Ln) (_h : i ≤ l.length) : (insL l i x).length = l.length + 1 := by
  unfold insL; rw [List.length_append, List.length_cons, List.length_take, List.length_drop]; omega
theorem lcells_ins (l : List Ln) (i : Nat) (x : Ln) : lcells (insL l i x) = lcells (l.take i) ++ ((encLn x).toList ++ lcells (l.drop i)) := by
  unfold insL; rw [lcells_app]; rfl
theorem ins_row {cur : Array Value} {l : List Ln} {i : Nat} {x : Ln} (hi : i ≤ l.length) (final : Array Value)
    (hf : ∀ k, k < (l.length + 1) * 4 → final[k]? = if k < i * 4 then cur[k]? else if k < (i + 1) * 4 then (encLn x)[k - i * 4]? else (lcells (l.drop i))[k - (i + 1) * 4]?)
    (hp : cur.toList.take (i * 4) = lcells (l.take i)) : final.toList.take ((insL l i x).length * 4) = lcells (insL l i x) := by
  rw [insL_len l i x hi, lcells_ins]
  have hli : (lcells (l.take i)).length = i * 4 := by rw [lcells_len, List.length_take]; omega
  have hld : (lcells (l.drop i)).length = (l.length - i) * 4 := by rw [lcells_len, List.length_drop]
  have he : (encLn x).toList.length = 4 := rfl
  apply List.ext_getElem?
  intro k
  rw [List.getElem?_take]
  by_cases hk : k < (l.length + 1) * 4
  · rw [if_pos hk, Array.getElem?_toList, hf k hk]
    by_cases h1 : k < i * 4
    · rw [if_pos h1, List.getElem?_append_left (by omega), ← hp, List.getElem?_take, if_pos h1, Array.getElem?_toList]
    · rw [if_neg h1, List.getElem?_append_right (by omega), hli]
      by_cases h2 : k < (i + 1) * 4
      · rw [if_pos h2, List.getElem?_append_left (by omega), Array.getElem?_toList]
      · rw [if_neg h2, List.getElem?_append_right (by omega), he]
        congr 1; omega
  · rw [if_neg hk, List.getElem?_eq_none (by rw [List.length_append, List.length_append, hli, he, hld]; omega)]
set_option maxRecDepth 100000 in
set_option maxHeartbeats 8000000 in
theorem Insert_end (b : Nat) (v : Value) (l : List Ln) (x : Ln) (vb : Nat) (w : World) (h : OwnL b w v l) (hbw : b ≤ w.heap.size) (hx : Blk w vb 42 #[.int .i64 x.a.lv, .int .u64 (u x.a.c), .int .i64 x.a.ig, .int .i64 x.n]) (hle : l.length ≤ 2000) :
    Calls Tryd.prog 60 #[v, .int .i64 (l.length : Nat), .slice (some ⟨vb, 0, none⟩) 1 1] w fun e w' => ∃ v', e = .returned v' ∧ OwnL b w' v' (l ++ [x]) ∧ (∀ g, v'.ownBlock = some g → v.ownBlock = some g ∨ w.heap.size ≤ g) ∧ Turns (fun k => v.ownBlock = some k ∨ w.heap.size ≤ k) w w' := by
  obtain ⟨i0, hi, hz0, hz1, hz2⟩ := info_parts infoLn
  have hsrc : Src w 4 (some ⟨vb, 0, none⟩) 1 [.int .i64 x.a.lv, .int .u64 (u x.a.c), .int .i64 x.a.ig, .int .i64 x.n] := ⟨rfl, (fun h => by cases h), fun ad ha => by
    cases ha
    intro j u hu
    rw [Go.WideShapes.add_plain, Nat.zero_add]
    exact hx.at_ (by rw [← List.getElem?_toArray] at hu; exact hu)⟩
  have hT : ∀ w1, w.grownBy w1 v.ownBlock → Turns (fun k => v.ownBlock = some k ∨ w.heap.size ≤ k) w w1 := fun w1 hg => (Turns.refl _ w).grown hg (fun k hk => ⟨.inl hk, fun o ho => by
    obtain ⟨_, cs, hb⟩ := h.blk hk
    rw [show w.heap[k]? = _ from hb] at ho
    cases ho; rfl⟩)
  have HT := Lib.hid hT
  clear hT
  rcases h.2 with ⟨rfl, h0⟩ | ⟨g, cap, cur, rfl, hb, hh, hc, hm, hs, ht⟩
  · obtain rfl : l = [] := List.length_eq_zero_iff.1 h0
    have hown : w.ownsRow b 42 4 (.slice none 0 0) 0 [] := World.ownsRow_nil _ _ _ _
    clear h h0
    simp only [List.length_nil]
    go_enter Tryd.func60, Tryd.ntmps60
    go_wp2_with (at_builtin; refine wpList_append_src _ rfl _ _ 22 rfl b 42 i0 (.agg #[.int .i64 0, .int .u64 0, .int .i64 0, .int .i64 0]) 4 32 Tryd.underlying22 hi hz0 hz1 hz2 rfl (by decide) _ _ _ rfl hown _ 1 1 _ rfl hsrc (by simp [Value.oneCell']) (by unfold maxLen; omega) (by omega) hbw ?_; intro v' w1 hown' hgrow ho)
    have HT1 := Lib.hid (HT.out w1 hgrow)
    have HO : Hid (OwnL b w1 v' [x]) := Lib.hid hown'
    have HW : Hid (∀ g, v'.ownBlock = some g → (Value.slice none 0 0).ownBlock = some g ∨ w.heap.size ≤ g) := Lib.hid (fun g hg => by
      rcases ho with e | e
      · exact .inl (e ▸ hg)
      · rw [e] at hg; cases hg; exact .inr (Nat.le_refl _))
    clear hown' hgrow ho hown hsrc
    go_wp2_with fail
    go_ret
    exact ⟨v', rfl, HO.out, HW.out, HT1.out⟩
  · have hmx : maxLen = 9223372036854775807 := by unfold maxLen; rfl
    have hown : w.ownsRow b 42 4 (.slice (some ⟨g, 0, none⟩) l.length cap) l.length (lcells l) := h
    obtain ⟨n, hn⟩ : ∃ n, n = l.length := ⟨_, rfl⟩
    have HN := Lib.hid hn
    have b0 : (0 : Int) ≤ (n : Int) := by omega
    have b1 : (n : Int) ≤ (cap : Int) := by omega
    have b2 : n ≤ cap := by omega
    have b3 : n ≤ 2000 := by omega
    rw [← hn] at hown
    rw [← hn]
    clear h hh hs ht hc hb hm hle hn
    by_cases hcn : n = cap
    · subst hcn
      go_enter Tryd.func60, Tryd.ntmps60
      go_wp2_with (at_builtin; refine wpList_append_src _ rfl _ _ 22 rfl b 42 i0 (.agg #[.int .i64 0, .int .u64 0, .int .i64 0, .int .i64 0]) 4 32 Tryd.underlying22 hi hz0 hz1 hz2 rfl (by decide) _ _ _ rfl hown _ 1 1 _ rfl hsrc (by simp [Value.oneCell']) (by omega) (by omega) hbw ?_; intro v' w1 hown' hgrow ho)
      have HT1 := Lib.hid (HT.out w1 hgrow)
      have HO : Hid (OwnL b w1 v' (l ++ [x])) := Lib.hid (by
        have h := hown'
        rw [HN.out] at h
        have e : (l ++ [x]).length = l.length + 1 := by rw [List.length_append]; rfl
        unfold OwnL
        rw [e, lcells_snoc]; exact h)
      have HW : Hid (∀ g', v'.ownBlock = some g' → (Value.slice (some ⟨g, 0, none⟩) n n).ownBlock = some g' ∨ w.heap.size ≤ g') := Lib.hid (fun g' hg => by
        rcases ho with e | e
        · exact .inl (e ▸ hg)
        · rw [e] at hg; cases hg; exact .inr (Nat.le_refl _))
      clear hown' hgrow ho hown hsrc
      go_wp2_with fail
      go_ret
      exact ⟨v', rfl, HO.out, HW.out, HT1.out⟩
    · have hcn2 : ¬ cap = n := fun e => hcn e.symm
      go_enter Tryd.func60, Tryd.ntmps60
      go_wp2_with (at_builtin; refine wpList_append_src _ rfl _ _ 22 rfl b 42 i0 (.agg #[.int .i64 0, .int .u64 0, .int .i64 0, .int .i64 0]) 4 32 Tryd.underlying22 hi hz0 hz1 hz2 rfl (by decide) _ _ _ rfl hown _ 1 1 _ rfl hsrc (by simp [Value.oneCell']) (by omega) (by omega) hbw ?_; intro v' w1 hown' hgrow ho)
      have HT1 := Lib.hid (HT.out w1 hgrow)
      have HO : Hid (OwnL b w1 v' (l ++ [x])) := Lib.hid (by
        have h := hown'
        rw [HN.out] at h
        have e : (l ++ [x]).length = l.length + 1 := by rw [List.length_append]; rfl
        unfold OwnL
        rw [e, lcells_snoc]; exact h)
      have HW : Hid (∀ g', v'.ownBlock = some g' → (Value.slice (some ⟨g, 0, none⟩) n cap).ownBlock = some g' ∨ w.heap.size ≤ g') := Lib.hid (fun g' hg => by
        rcases ho with e | e
        · exact .inl (e ▸ hg)
        · rw [e] at hg; cases hg; exact .inr (Nat.le_refl _))
      clear hown' hgrow ho hown hsrc
      go_wp2_with fail
      go_ret
      exact ⟨v', rfl, HO.out, HW.out, HT1.out⟩
end Go.Proofs.YtbggaijjgnjknaaDoor
