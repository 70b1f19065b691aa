/-
  THE WALKS OF floater.path: an iterator that writes the floater's label between two rounds.
-/
import Derived.Test.YtmbafllkiofhnaaDoorCeiD
import Derived.Test.YtmbafllkiofhnaaDoorLeast
import Derived.Test.YtmbafllkiofhnaaDoorEls
namespace Go.Proofs.YtmbafllkiofhnaaDoor
open Go.RowKit Go.Shelf

attribute [local go_sem] Oper.semAt_some
attribute [local go_sem] u_and u_or u_andNot u_add u_sub u_bit u_eq_zero u_beq

/-! ### plain: where one is behind some labels -/
def stepP (h c a : Lab) : Lab := if le3 (joinL c a) h then joinL c a else c
def pathAt (h c : Lab) (l : List Lab) : Lab := l.foldl (stepP h) c
def errP (sa : Addr) (h c a : Lab) : Value := if le3 (joinL c a) h then .nilIface else stopV (.iface 109 (.pointer (some sa))) a
/-- as far as k all is well -/
def GoodTo (h c : Lab) (l : List Lab) (k : Nat) : Prop := ∀ i a, i < k → l[i]? = some a → le3 (joinL (pathAt h c (l.take i)) a) h = true
theorem pathAt_snoc (h c : Lab) (l : List Lab) (a : Lab) : pathAt h c (l ++ [a]) = stepP h (pathAt h c l) a := by unfold pathAt; rw [List.foldl_append]; rfl
theorem okL_stepP {h c a : Lab} (hc : okL c = true) (ha : okL a = true) : okL (stepP h c a) = true := by
  unfold stepP; split
  · exact okL_join hc ha
  · exact hc
theorem okL_pathAt (h : Lab) (l : List Lab) : ∀ {c : Lab}, okL c = true → (∀ x, x ∈ l → okL x = true) → okL (pathAt h c l) = true := by
  induction l with
  | nil => exact fun hc _ => hc
  | cons x l ih => exact fun hc hl => ih (okL_stepP hc (hl x (by simp))) (fun y hy => hl y (by simp [hy]))
theorem GoodTo.zero (h c : Lab) (l : List Lab) : GoodTo h c l 0 := fun i a hi _ => by omega
theorem GoodTo.next {h c : Lab} {l : List Lab} {k : Nat} {a : Lab} (g : GoodTo h c l k) (ha : l[k]? = some a) (hl : le3 (joinL (pathAt h c (l.take k)) a) h = true) : GoodTo h c l (k + 1) := fun i b hi hb => by
  by_cases e : i = k
  · subst e; rw [ha] at hb; cases hb; exact hl
  · exact g i b (by omega) hb
theorem to_is {f h a nx : Lab} {er : Value} {sa : Addr} {fb : Nat} {w : World} (hn : stepP h f a = nx) (he : errP sa h f a = er) (hh : Env sa w) (hf : Blk w fb 43 #[.int .i64 f.lv, .int .u64 (u f.c), .int .i64 f.ig, .int .i64 h.lv, .int .u64 (u h.c), .int .i64 h.ig]) (of : okL f = true) (oh : okL h = true) (oa : okL a = true) :
    Calls Tryd.prog 30 #[.pointer (some ⟨fb, 0, none⟩), .agg #[.int .i64 a.lv, .int .u64 (u a.c), .int .i64 a.ig]] w fun e w' => e = .returned er ∧ Blk w' fb 43 #[.int .i64 nx.lv, .int .u64 (u nx.c), .int .i64 nx.ig, .int .i64 h.lv, .int .u64 (u h.c), .int .i64 h.ig] ∧ Turns (· = fb) w w' := by
  subst hn he
  exact (to_any f h a sa fb w hh hf of oh oa).mono fun e w' hp => hp
theorem Env.alloc {sa : Addr} {W : World} (h : Env sa W) (o : Obj) : Env sa (W.alloc o) := h.up ((Below.refl _ _).alloc (Nat.le_refl _) _)
theorem Env.keep {sa : Addr} {W W' : World} {B : Nat} (h : Env sa W) (hE : 1 < B) (hC : 0 < B) (hk : ∀ b q x, b < B → W.cell? ⟨b, q, none⟩ = some x → W'.cell? ⟨b, q, none⟩ = some x) : Env sa W' :=
  ⟨⟨World.block_lt_of_cell? _ _ (hk _ _ _ hE h.h.2), hk _ _ _ hE h.h.2⟩, hk _ _ _ hC h.s⟩

/-! ### the iterator -/
def encP (it : Nat × Value) : Array Value := #[.int .i64 (it.1 : Nat), it.2]
structure NextP (sa : Addr) (h f : Lab) (ls : List Lab) (fb : Nat) (pre : List (Nat × Value)) (it : Nat × Value) (W : World) : Prop where
  i : it.1 = pre.length
  good : GoodTo h f ls pre.length
  e : ∃ x, ls[pre.length]? = some x ∧ it.2 = errP sa h (pathAt h f (ls.take pre.length)) x
  b : Blk W fb 43 #[.int .i64 (pathAt h f (ls.take (pre.length + 1))).lv, .int .u64 (u (pathAt h f (ls.take (pre.length + 1))).c), .int .i64 (pathAt h f (ls.take (pre.length + 1))).ig, .int .i64 h.lv, .int .u64 (u h.c), .int .i64 h.ig]
--SEQ
set_option maxRecDepth 100000 in
set_option maxHeartbeats 8000000 in
theorem path_seq (n : Nat) (hn : 1 ≤ n) (ls : List Lab) (v : Value) (f h : Lab) (sa : Addr) (bl bf fb B n0 : Nat) (W : World) (U : Nat → Prop) (hbox : W.cell? ⟨bl, 0, none⟩ = some v) (hbf : Blk W bf 41 #[.pointer (some ⟨fb, 0, none⟩)]) (hfb : Blk W fb 43 #[.int .i64 f.lv, .int .u64 (u f.c), .int .i64 f.ig, .int .i64 h.lv, .int .u64 (u h.c), .int .i64 h.ig])
    (hl : LabsAt B W v ls) (hen : Env sa W) (hE : 1 < B) (hC : 0 < B) (hBf : B ≤ fb) (hne : bf ≠ fb) (okF : okL f = true) (okH : okL h = true) (okA : ∀ x, x ∈ ls → okL x = true) (hU : ∀ k, U k → B ≤ k ∧ k ≠ fb ∧ k ≠ bf ∧ k < W.heap.size) :
    SeqM Fence.wide n Tryd.prog 54 #[.pointer (some ⟨bl, 0, none⟩), .pointer (some ⟨bf, 0, none⟩)] encP n0 (fun k => k = fb ∨ W.heap.size ≤ k) U (fun pre it W1 => NextP sa h f ls fb pre it W1)
      (fun xs W1 => (xs.length = ls.length ∧ GoodTo h f ls ls.length ∧ Blk W1 fb 43 #[.int .i64 (pathAt h f (ls.take xs.length)).lv, .int .u64 (u (pathAt h f (ls.take xs.length)).c), .int .i64 (pathAt h f (ls.take xs.length)).ig, .int .i64 h.lv, .int .u64 (u h.c), .int .i64 h.ig]) ∨ ∃ it, it ∈ xs ∧ it.2 ≠ .nilIface)
      (fun pre W1 => Blk W1 fb 43 #[.int .i64 (pathAt h f (ls.take pre.length)).lv, .int .u64 (u (pathAt h f (ls.take pre.length)).c), .int .i64 (pathAt h f (ls.take pre.length)).ig, .int .i64 h.lv, .int .u64 (u h.c), .int .i64 h.ig]) W := by
  intro l J Jx hJ hJx hY h0
  have HY := Lib.hid hY
  have HJ := Lib.hid hJ
  have HJX := Lib.hid hJx
  have H0 := Lib.hid h0
  have HU := Lib.hid hU
  have BF0 := Lib.hid hfb
  have BX0 := Lib.hid hbf
  have HEN0 := Lib.hid hen
  have HA := Lib.hid okA
  have HOF := Lib.hid okF
  have HOH := Lib.hid okH
  have HXF := Lib.hid hne
  have hbfl : bf < W.heap.size := hbf.lt
  clear hY hJ hJx h0 hU hfb hbf hen okA okF okH hne
  refine callsIn_of_wp Tryd.func54 rfl trivial ?_ rfl
  simp only [Tryd.ntmps54, List.size_toArray, List.length_cons, List.length_nil, Nat.reduceAdd, Nat.reduceSub, Array.replicate_succ, Array.replicate_zero, List.push_toArray, List.append_toArray, List.nil_append, List.cons_append]
  refine wpInW_scope ?_
  gi_wp2_with fail
  refine wpIn_label ?_
  simp only [Exit.then]
  rcases hl with ⟨rfl, rfl⟩ | ⟨b, off, cap, rfl, hlt, hcap, hn63, hc⟩
  · gi_wp2
    gi_loopw [9] (fun s wr => s = .int .i64 0 ∧ wr = W) (fun s _ => 0)
    case atStart => exact ⟨rfl, rfl⟩
    case round =>
      obtain ⟨rfl, rfl⟩ := hrel
      gi_wp2
      rw [Exit.noGoto_normal]
      go_end0
      exact ⟨⟨_, rfl⟩, .inl ⟨[], .inl ⟨rfl, GoodTo.zero _ _ _, BF0.out⟩, H0.out⟩⟩
  have HC := Lib.hid hc
  clear hc
  gi_wp2
  gi_loopw [9] (fun s wr => ∃ (pre : List (Nat × Value)) (o : Lab), s = .int .i64 pre.length ∧ pre.length ≤ ls.length ∧ o = pathAt h f (ls.take pre.length) ∧ GoodTo h f ls pre.length ∧ J pre wr ∧ Blk wr fb 43 #[.int .i64 o.lv, .int .u64 (u o.c), .int .i64 o.ig, .int .i64 h.lv, .int .u64 (u h.c), .int .i64 h.ig] ∧ Blk wr bf 41 #[.pointer (some ⟨fb, 0, none⟩)] ∧ W.heap.size ≤ wr.heap.size ∧ (∀ b' q x', b' < B → W.cell? ⟨b', q, none⟩ = some x' → wr.cell? ⟨b', q, none⟩ = some x')) (fun s _ => ls.length - (intOf s).toNat)
  case atStart => exact ⟨[], f, rfl, Nat.zero_le _, rfl, GoodTo.zero _ _ _, H0.out, BF0.out, BX0.out, Nat.le_refl _, fun _ _ _ _ hx => hx⟩
  case round =>
    obtain ⟨pre, o, rfl, hlen, hfo, hgd, hJp, hF, hX, hsz, hK⟩ := hrel
    have HJP := Lib.hid hJp
    have BF := Lib.hid hF
    have BX := Lib.hid hX
    have HK := Lib.hid hK
    have HSZ := Lib.hid hsz
    have HFO := Lib.hid hfo
    have HGD := Lib.hid hgd
    have HEN := Lib.hid (HEN0.out.keep hE hC hK)
    have okO := Lib.hid (show okL o = true by rw [hfo]; exact okL_pathAt h _ HOF.out (fun x hx => HA.out x (List.mem_of_mem_take hx)))
    have px := hX.at_ (i := 0) (v := .pointer (some ⟨fb, 0, none⟩)) rfl
    have hxl : bf < wr.heap.size := hX.lt
    have hxl1 : bf < wr.heap.size + 1 := by omega
    clear hJp hF hX hK hsz hfo hgd
    by_cases hkl : pre.length < ls.length
    · obtain ⟨x, hx⟩ : ∃ x, ls[pre.length]? = some x := ⟨_, List.getElem?_eq_getElem hkl⟩
      obtain ⟨nx, hnx⟩ : ∃ nx, stepP h o x = nx := ⟨_, rfl⟩
      obtain ⟨c0, c1, c2⟩ := HC.out _ x hx
      replace c0 := HK.out _ _ _ hlt c0
      replace c1 := HK.out _ _ _ hlt c1
      replace c2 := HK.out _ _ _ hlt c2
      have HF2 : Hid (nx = pathAt h f (ls.take (pre.length + 1))) := by
        show _ = _
        rw [take_snoc' hx, pathAt_snoc, ← HFO.out]; exact hnx.symm
      have HF := Lib.hid (show pathAt h f (ls.take (pre.length + 1)) = nx from HF2.out.symm)
      have okX := Lib.hid (HA.out x (List.mem_of_getElem? hx))
      have HX := Lib.hid hx
      have HNX := Lib.hid hnx
      clear hx hnx
      by_cases hle : le3 (joinL o x) h = true
      · have HER := Lib.hid (show errP sa h o x = .nilIface from if_pos hle)
        have HER2 := Lib.hid (show Value.nilIface = errP sa h (pathAt h f (ls.take pre.length)) x by rw [← HFO.out]; exact HER.out.symm)
        have HGN := Lib.hid (HGD.out.next HX.out (by rw [← HFO.out]; exact hle))
        clear hle
        gi_wp2_with fail
        refine ⟨trivial, ?_⟩
        refine (callsIn_wide.2 (to_is HNX.out HER.out (HEN.out.alloc _) (BF.out.alloc _) okO.out HOH.out okX.out)).mono ?_
        rintro e w2 ⟨rfl, hF2, hT2⟩
        have BF2 := Lib.hid hF2
        have HT2 := Lib.hid hT2
        have HJ2 := Lib.hid (HJ.out _ _ _ HJP.out (((Turns.refl _ wr).alloc _).trans (hT2.mono (fun k e => .inl e))))
        have BX2 := Lib.hid (Blk.turned (BX.out.alloc _) hT2 HXF.out)
        have hnext := Lib.hid (NextP.mk (it := (pre.length, Value.nilIface)) (W := w2) rfl HGD.out ⟨x, HX.out, HER2.out⟩ (HF2.out ▸ hF2))
        have hsz2 : wr.heap.size < w2.heap.size := (by have := hT2.size; simp at this; omega)
        clear hF2 hT2
        obtain ⟨fn, tmps, assign, body, hy, hR⟩ := HY.out pre (pre.length, Value.nilIface) w2 HJ2.out hnext.out
        have HR := Lib.hid hR
        clear hR
        simp only [encP] at hy
        gi_wp2_with fail
        refine HR.out.mono ?_
        rintro e W3 (⟨rfl, hJ3, hk3⟩ | ⟨rfl, hJx3, hk3⟩)
        · have BF3 : Blk W3 fb 43 #[.int .i64 nx.lv, .int .u64 (u nx.c), .int .i64 nx.ig, .int .i64 h.lv, .int .u64 (u h.c), .int .i64 h.ig] := hk3.block BF2.out rfl (fun t => (HU.out _ t).2.1 rfl)
          have BX3 : Blk W3 bf 41 #[.pointer (some ⟨fb, 0, none⟩)] := hk3.block BX2.out rfl (fun t => (HU.out _ t).2.2.1 rfl)
          have HJ3 := Lib.hid hJ3
          have hK3 : Hid (∀ b' q x', b' < B → W.cell? ⟨b', q, none⟩ = some x' → W3.cell? ⟨b', q, none⟩ = some x') := fun b' q x' hb hx => by
            have h1 := HK.out b' q x' hb hx
            have h2 : (wr.alloc (.cells #[.int .i64 x.lv, .int .u64 (u x.c), .int .i64 x.ig] 24)).cell? ⟨b', q, none⟩ = some x' := (World.cell?_alloc_lt _ _ _ (World.block_lt_of_cell? _ _ h1)).trans h1
            have h3 := (HT2.out.moves 0).cell h2 (fun (t : b' = fb) => by omega)
            exact hk3.cell h3 (fun t => by have := (HU.out b' t).1; omega)
          have hz3 : W.heap.size ≤ W3.heap.size := by have := HSZ.out; have := hk3.size; omega
          have HB3 := Lib.hid BF3
          have HX3 := Lib.hid BX3
          clear hJ3 hk3 BF3 BX3
          gi_wp2_with fail
          go_roundw
          case rel => exact ⟨pre ++ [(pre.length, Value.nilIface)], nx, by rw [List.length_append, List.length_singleton]; go_num, by rw [List.length_append, List.length_singleton]; omega, by rw [List.length_append, List.length_singleton]; exact HF.out.symm, by rw [List.length_append, List.length_singleton]; exact HGN.out, HJ3.out, HB3.out, HX3.out, hz3, hK3.out⟩
          case measure => simp [intOf]; omega
        · have BF3 : Blk W3 fb 43 #[.int .i64 nx.lv, .int .u64 (u nx.c), .int .i64 nx.ig, .int .i64 h.lv, .int .u64 (u h.c), .int .i64 h.ig] := hk3.block BF2.out rfl (fun t => (HU.out _ t).2.1 rfl)
          have HB3 := Lib.hid BF3
          have HJX3 := Lib.hid hJx3
          clear hJx3 hk3 BF3
          gi_wp2_with fail
          rw [Exit.noGoto_normal]
          go_end0
          exact ⟨⟨_, rfl⟩, .inr ⟨_, by show Blk W3 fb 43 _; rw [List.length_append, List.length_singleton]; exact HF2.out ▸ HB3.out, HJX3.out⟩⟩

      · have HER := Lib.hid (show errP sa h o x = (.iface 67 (.agg #[.iface 109 (.pointer (some sa)), .int .i64 x.lv, .int .u64 (u x.c), .int .i64 x.ig])) from if_neg hle)
        have HER2 := Lib.hid (show (.iface 67 (.agg #[.iface 109 (.pointer (some sa)), .int .i64 x.lv, .int .u64 (u x.c), .int .i64 x.ig])) = errP sa h (pathAt h f (ls.take pre.length)) x by rw [← HFO.out]; exact HER.out.symm)
        clear hle
        gi_wp2_with fail
        refine ⟨trivial, ?_⟩
        refine (callsIn_wide.2 (to_is HNX.out HER.out (HEN.out.alloc _) (BF.out.alloc _) okO.out HOH.out okX.out)).mono ?_
        rintro e w2 ⟨rfl, hF2, hT2⟩
        have BF2 := Lib.hid hF2
        have HT2 := Lib.hid hT2
        have HJ2 := Lib.hid (HJ.out _ _ _ HJP.out (((Turns.refl _ wr).alloc _).trans (hT2.mono (fun k e => .inl e))))
        have BX2 := Lib.hid (Blk.turned (BX.out.alloc _) hT2 HXF.out)
        have hnext := Lib.hid (NextP.mk (it := (pre.length, (.iface 67 (.agg #[.iface 109 (.pointer (some sa)), .int .i64 x.lv, .int .u64 (u x.c), .int .i64 x.ig])))) (W := w2) rfl HGD.out ⟨x, HX.out, HER2.out⟩ (HF2.out ▸ hF2))
        have hsz2 : wr.heap.size < w2.heap.size := (by have := hT2.size; simp at this; omega)
        clear hF2 hT2
        obtain ⟨fn, tmps, assign, body, hy, hR⟩ := HY.out pre (pre.length, (.iface 67 (.agg #[.iface 109 (.pointer (some sa)), .int .i64 x.lv, .int .u64 (u x.c), .int .i64 x.ig]))) w2 HJ2.out hnext.out
        have HR := Lib.hid hR
        clear hR
        simp only [encP] at hy
        gi_wp2_with fail
        refine HR.out.mono ?_
        rintro e W3 (⟨rfl, hJ3, hk3⟩ | ⟨rfl, hJx3, hk3⟩)
        · have BF3 : Blk W3 fb 43 #[.int .i64 nx.lv, .int .u64 (u nx.c), .int .i64 nx.ig, .int .i64 h.lv, .int .u64 (u h.c), .int .i64 h.ig] := hk3.block BF2.out rfl (fun t => (HU.out _ t).2.1 rfl)
          have BX3 : Blk W3 bf 41 #[.pointer (some ⟨fb, 0, none⟩)] := hk3.block BX2.out rfl (fun t => (HU.out _ t).2.2.1 rfl)
          have HJ3 := Lib.hid hJ3
          have hK3 : Hid (∀ b' q x', b' < B → W.cell? ⟨b', q, none⟩ = some x' → W3.cell? ⟨b', q, none⟩ = some x') := fun b' q x' hb hx => by
            have h1 := HK.out b' q x' hb hx
            have h2 : (wr.alloc (.cells #[.int .i64 x.lv, .int .u64 (u x.c), .int .i64 x.ig] 24)).cell? ⟨b', q, none⟩ = some x' := (World.cell?_alloc_lt _ _ _ (World.block_lt_of_cell? _ _ h1)).trans h1
            have h3 := (HT2.out.moves 0).cell h2 (fun (t : b' = fb) => by omega)
            exact hk3.cell h3 (fun t => by have := (HU.out b' t).1; omega)
          have hz3 : W.heap.size ≤ W3.heap.size := by have := HSZ.out; have := hk3.size; omega
          have HB3 := Lib.hid BF3
          have HX3 := Lib.hid BX3
          clear hJ3 hk3 BF3 BX3
          gi_wp2_with fail
          rw [Exit.noGoto_normal]
          go_end0
          exact ⟨⟨_, rfl⟩, .inl ⟨_, .inr ⟨_, List.mem_append_right _ (List.mem_singleton.2 rfl), by simp⟩, HJ3.out⟩⟩
        · have BF3 : Blk W3 fb 43 #[.int .i64 nx.lv, .int .u64 (u nx.c), .int .i64 nx.ig, .int .i64 h.lv, .int .u64 (u h.c), .int .i64 h.ig] := hk3.block BF2.out rfl (fun t => (HU.out _ t).2.1 rfl)
          have HB3 := Lib.hid BF3
          have HJX3 := Lib.hid hJx3
          clear hJx3 hk3 BF3
          gi_wp2_with fail
          rw [Exit.noGoto_normal]
          go_end0
          exact ⟨⟨_, rfl⟩, .inr ⟨_, by show Blk W3 fb 43 _; rw [List.length_append, List.length_singleton]; exact HF2.out ▸ HB3.out, HJX3.out⟩⟩

    · gi_wp2
      rw [Exit.noGoto_normal]
      go_end0
      have he : pre.length = ls.length := by omega
      exact ⟨⟨_, rfl⟩, .inl ⟨pre, .inl ⟨he, he ▸ HGD.out, HFO.out ▸ BF.out⟩, HJP.out⟩⟩
end Go.Proofs.YtmbafllkiofhnaaDoor
