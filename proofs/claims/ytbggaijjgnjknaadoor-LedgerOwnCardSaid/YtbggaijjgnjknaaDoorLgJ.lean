/-
  PACKAGE slices at lines: Insert of one line among others.
-/
import Derived.Test.YtbggaijjgnjknaaDoorLgI
namespace Go.Proofs.YtbggaijjgnjknaaDoor
open Go.RowKit

theorem Blk.keepT {W W' : World} {b t : Nat} {cs : Array Value} {T : Nat → Prop} (h : Blk W b t cs) (k : Turns T W W') (hT : ¬ T b) : Blk W' b t cs := k.same _ _ h (.inl hT)
theorem lnSrc {w : World} {vb : Nat} {x : Ln} (hx : Blk w vb 42 #[.int .i64 x.a.lv, .int .u64 (u x.a.c), .int .i64 x.a.ig, .int .i64 x.n]) : ∀ j u, (encLn x).toList[j]? = some u → w.cell? ((⟨vb, 0, none⟩ : Addr).add j) = some u := by
  intro j u hu
  rw [Go.WideShapes.add_plain, Nat.zero_add]
  exact hx.at_ (by rw [Array.getElem?_toList] at hu; exact hu)
theorem lnOne (x : Ln) : ∀ u, u ∈ (encLn x).toList → u.oneCell' = true := by
  intro u hu
  simp only [encLn, List.mem_cons, List.not_mem_nil, or_false] at hu
  rcases hu with rfl | rfl | rfl | rfl <;> rfl
set_option maxRecDepth 100000 in
set_option maxHeartbeats 8000000 in
theorem Insert_grow (g cap i : Nat) (cur : Array Value) (l : List Ln) (x : Ln) (vb : Nat) (w : World) (h : RowL w g cap cur l) (hi : i < l.length) (hx : Blk w vb 42 #[.int .i64 x.a.lv, .int .u64 (u x.a.c), .int .i64 x.a.ig, .int .i64 x.n]) (hle : l.length ≤ 2000) (hroom : cap = l.length) :
    Calls Tryd.prog 60 #[.slice (some ⟨g, 0, none⟩) l.length cap, .int .i64 i, .slice (some ⟨vb, 0, none⟩) 1 1] w fun e w' => ∃ G cur', e = .returned (.slice (some ⟨w.heap.size, 0, none⟩) (l.length + 1) G) ∧ RowL w' w.heap.size G cur' (insL l i x) ∧ Turns (fun k => w.heap.size ≤ k) w w' := by
  obtain ⟨i0, hi0, hz0, hz1, hz2⟩ := info_parts infoLn
  have hmx2 : maxLen = 9223372036854775807 := by unfold maxLen; rfl
  have hgl := h.lt
  have hvl := hx.lt
  obtain ⟨n, hn⟩ : ∃ n, n = l.length := ⟨_, rfl⟩
  obtain ⟨G, hG⟩ : ∃ G, G = grownCap w (n + 1) n 42 := ⟨_, rfl⟩
  have hG1 : n + 1 ≤ G := by rw [hG]; exact grownCap_ge _ _ _ _
  have hG2 : G ≤ maxLen := by rw [hG]; exact grownCap_le_maxLen _ _ _ _ (by omega)
  obtain ⟨ROW, hROW⟩ : ∃ ROW : Array Value, ROW = (lcells (l.take i)).toArray ++ Builtin.zeroCells (Value.agg #[.int .i64 0, .int .u64 0, .int .i64 0, .int .i64 0]).cells (n + 1 - i) ++ Builtin.zeroCells (Value.agg #[.int .i64 0, .int .u64 0, .int .i64 0, .int .i64 0]).cells (G - (n + 1)) := ⟨_, rfl⟩
  have hzs : ∀ m, (Builtin.zeroCells (Value.agg #[.int .i64 0, .int .u64 0, .int .i64 0, .int .i64 0]).cells m).size = m * 4 := fun m => by simp [Builtin.zeroCells, Value.cells]
  have hli : (lcells (l.take i)).length = i * 4 := by rw [lcells_len, List.length_take]; omega
  have hld : (lcells (l.drop i)).length = (n - i) * 4 := by rw [lcells_len, List.length_drop, hn]
  have hRs : ROW.size = G * 4 := by rw [hROW, Array.size_append, Array.size_append, hzs, hzs, List.size_toArray, hli]; omega
  have hRp : ROW.toList.take (i * 4) = lcells (l.take i) := by
    rw [hROW, Array.toList_append, Array.toList_append, List.append_assoc, List.take_append_of_le_length (by simp [hli])]
    simp [← hli]
  obtain ⟨W1, hW1⟩ : ∃ W1, W1 = w.drew.alloc (.cells ROW 42) := ⟨_, rfl⟩
  have hcap : (if cap = i then some (⟨g, 0, none⟩ : Addr) else some ⟨g, i * 4, none⟩) = some ⟨g, i * 4, none⟩ := by rw [if_neg (by omega)]
  have hr1 : ∀ ty, (Builtin.append_ #[22, 3] ty #[.slice (some ⟨g, 0, none⟩) i n, .int .i64 ((n + 1 - i : Nat) : Int)]).run Tryd.prog w = .ok (.slice (some ⟨w.heap.size, 0, none⟩) (n + 1) G) W1 := fun ty => by
    have hr := Lib.run_append_grow_zeros (P := Tryd.prog) w 22 3 ty 42 i0 _ .i64 .i64 Tryd.underlying22 Tryd.underlying3 hi0 hz0 (some ⟨g, 0, none⟩) i n (lcells (l.take i))
      (by rw [hz1]; exact run_firstCells_some w.drew 4 i ⟨g, 0, none⟩ i n (lcells (l.take i)) (by rw [hli]) (fun j v hj => by
        have := (h.drew.pre i (by omega)).tail 0 j v (by rw [List.drop_zero]; exact hj)
        rwa [Nat.zero_mul] at this)) (n + 1 - i) (by omega) (by omega) (by omega) (by omega) (by rw [hz2]; omega) (by rw [hz2, show i + (n + 1 - i) = n + 1 by omega]; exact growslice_fits (by omega) (by omega))
    rw [show i + (n + 1 - i) = n + 1 by omega, ← hG, ← hROW, ← hW1] at hr
    exact hr
  have hg1 : W1.heap[w.heap.size]? = some (.cells ROW 42 (0, 0)) := by rw [hW1]; exact World.alloc_heap_new w.drew _
  have hk1 : Below w.heap.size w W1 := by rw [hW1]; exact below_alloc ((Below.refl _ w).drew) _
  have hfit1 : i * 4 + (encLn x).toList.length ≤ ROW.size := by rw [hRs]; show i * 4 + 4 ≤ G * 4; omega
  obtain ⟨W2, hW2⟩ : ∃ W2, W2 = W1.setRow w.heap.size (lay4 ROW (i * 4) (encLn x).toList) := ⟨_, rfl⟩
  have hr2 : ∀ ty, (Builtin.copy_ #[22, 22] ty #[.slice (some ⟨w.heap.size, i * 4, none⟩) (n + 1 - i) (G - i), .slice (some ⟨vb, 0, none⟩) 1 1]).run Tryd.prog W1 = .ok (goInt 1) W2 := fun ty => by
    rw [hW2]
    exact run_copyL W1 ty w.heap.size (i * 4) (n + 1 - i) (G - i) ⟨vb, 0, none⟩ 1 1 1 ROW _ (encLn x).toList hg1 (by show 1 = min 1 (n + 1 - i); omega) rfl (lnSrc (hx.after hk1)) hfit1 (lnOne x)
  have hg2 : W2.heap[w.heap.size]? = some (.cells (lay4 ROW (i * 4) (encLn x).toList) 42 (0, 0)) := by rw [hW2]; exact setRow_heap _ _ _ _ _ _ hg1
  have hs2 : (lay4 ROW (i * 4) (encLn x).toList).size = G * 4 := by rw [lay4_size hfit1, hRs]
  have hT2 : Turns (fun k => w.heap.size ≤ k) w W2 := by rw [hW2]; exact (Turns.of_below hk1).setRow (Nat.le_refl _) hg1 _
  have hrow2 : RowL W2 g cap cur l := h.turn hT2 (by omega)
  have hfit2 : (i + 1) * 4 + (lcells (l.drop i)).length ≤ (lay4 ROW (i * 4) (encLn x).toList).size := by rw [hs2, hld]; omega
  obtain ⟨W3, hW3⟩ : ∃ W3, W3 = W2.drew.setRow w.heap.size (lay4 (lay4 ROW (i * 4) (encLn x).toList) ((i + 1) * 4) (lcells (l.drop i))) := ⟨_, rfl⟩
  have hr3 : ∀ ty, (Builtin.copy_ #[22, 22] ty #[.slice (some ⟨w.heap.size, (i + 1) * 4, none⟩) (n - i) (G - (i + 1)), .slice (some ⟨g, i * 4, none⟩) (n - i) (n - i)]).run Tryd.prog W2.drew = .ok (goInt (n - i : Nat)) W3 := fun ty => by
    rw [hW3]
    exact run_copyL W2.drew ty w.heap.size ((i + 1) * 4) (n - i) (G - (i + 1)) ⟨g, i * 4, none⟩ (n - i) (n - i) (n - i) _ _ (lcells (l.drop i)) hg2 (by show n - i = min (n - i) (n - i); omega) (by rw [hld]) (fun j u hu => hrow2.drew.tail i j u hu) hfit2 (lcells_one _)
  have hfin : RowL W3 w.heap.size G (lay4 (lay4 ROW (i * 4) (encLn x).toList) ((i + 1) * 4) (lcells (l.drop i))) (insL l i x) := by
    refine ⟨by rw [hW3]; exact setRow_heap _ _ _ _ _ _ hg2, by rw [insL_len l i x (by omega)]; omega, hG2, by rw [lay4_size hfit2, hs2], ?_⟩
    refine ins_row (cur := ROW) (by omega) _ (fun k hk => ?_) hRp
    rw [lay4_get hfit2, hld]
    by_cases h1 : k < i * 4
    · rw [if_neg (by omega), lay4_get hfit1, if_neg (by omega), if_pos h1]
    · by_cases h2 : k < (i + 1) * 4
      · have he : (encLn x).toList.length = 4 := rfl
        rw [if_neg (by omega), lay4_get hfit1, if_pos (by omega), if_neg h1, if_pos h2, Array.getElem?_toList]
      · rw [if_pos (by omega), if_neg h1, if_neg h2]
  have hT3 : Turns (fun k => w.heap.size ≤ k) w W3 := by rw [hW3]; exact hT2.drew.setRow (Nat.le_refl _) hg2 _
  have R1 := Lib.hid hr1
  have R2 := Lib.hid hr2
  have R3 := Lib.hid hr3
  have HF := Lib.hid hfin
  have HT := Lib.hid hT3
  have b0 : (0 : Int) ≤ (i : Int) := by omega
  have b1 : (i : Int) ≤ (n : Int) := by omega
  have b2 : ((i : Int) == (n : Int)) = false := beq_eq_false_iff_ne.2 (by omega)
  have b3 : IntKind.i64.wrap ((n : Int) + 1) = ((n + 1 : Nat) : Int) := wrapI _ (by omega)
  have b4 : decide ((n : Int) < ((n + 1 : Nat) : Int)) = true := decide_eq_true (by omega)
  have b5 : IntKind.i64.wrap (((n + 1 : Nat) : Int) - (i : Int)) = ((n + 1 - i : Nat) : Int) := by rw [wrapI _ (by omega)]; omega
  have b5a : IntKind.i64.wrap ((n : Int) + 1 - (i : Int)) = ((n + 1 - i : Nat) : Int) := by rw [wrapI _ (by omega)]; omega
  have b5b : wrap64 ((n : Int) + 1 - (i : Int)) = ((n + 1 - i : Nat) : Int) := by unfold wrap64; omega
  have b6 : IntKind.i64.wrap ((i : Int) + 1) = ((i + 1 : Nat) : Int) := wrapI _ (by omega)
  have b7 : ¬ n = i := by omega
  have b8 : ¬ G = i := by omega
  have b9 : ¬ G = i + 1 := by omega
  have c1 : (i : Int) ≤ ((n + 1 : Nat) : Int) := by omega
  have c2 : ((i + 1 : Nat) : Int) ≤ ((n + 1 : Nat) : Int) := by omega
  have c3 : (0 : Int) ≤ (i : Int) + 1 := by omega
  have c4 : (i : Int) + 1 ≤ (n : Int) + 1 := by omega
  have c5 : i ≤ n := by omega
  have c6 : i + 1 ≤ n + 1 := by omega
  have c7 : (i : Int) ≤ (n : Int) + 1 := by omega
  obtain rfl : cap = n := by omega
  rw [← hn]
  clear hr1 hr2 hr3 hfin hT3 hT2 hrow2 hfit1 hfit2 hg1 hg2 hs2 hk1 hRs hRp hROW hG hn hroom hzs hli hld hcap hW1 hW2 hW3 h hx hle hi hG1 hG2
  go_enter Tryd.func60, Tryd.ntmps60
  have hc2 := R2.out 3
  go_wp2_with (first | (at_builtin; refine wpList_append_run rfl _ _ 22 3 rfl _ _ rfl rfl (R1.out _) ?_))
  refine wp_region_gen2 (S := fun _ => True) (N := fun W' => W' = W2.drew) (by kernel_rfl) trivial rfl (fun wz hS hN => ?_)
  subst hN
  refine wpAnyH_take (i := 0) (v := ?_) (op_at rfl) (by kernel_rfl) (by kernel_rfl) (by kernel_rfl) (fun _ _ _ h => h) (Or.inl ⟨by rfl, ?_⟩) hS ?_; rotate_left; focus ((intro w' hSw; clear hSw; go_simp) <;> with_reducible rfl)
  try simp only [Act.put, List.setIfInBounds_toArray, List.set_cons_zero, List.set_cons_succ]
  refine wpAnyH_take (i := 1) (v := ?_) (op_at rfl) (by kernel_rfl) (by kernel_rfl) (by kernel_rfl) (fun _ _ _ h => h) (Or.inl ⟨by rfl, ?_⟩) hS ?_; rotate_left; focus ((intro w' hSw; clear hSw; go_simp) <;> with_reducible rfl)
  try simp only [Act.put, List.setIfInBounds_toArray, List.set_cons_zero, List.set_cons_succ]
  refine wpAnyH_take (i := 2) (v := ?_) (op_at rfl) (by kernel_rfl) (by kernel_rfl) (by kernel_rfl) (fun _ _ _ h => h) (Or.inl ⟨by rfl, ?_⟩) hS ?_; rotate_left; focus ((intro w' hSw; clear hSw; go_simp) <;> with_reducible rfl)
  try simp only [Act.put, List.setIfInBounds_toArray, List.set_cons_zero, List.set_cons_succ]
  refine wpAnyH_take (i := 3) (v := ?_) (op_at rfl) (by kernel_rfl) (by kernel_rfl) (by kernel_rfl) (fun _ _ _ h => h) (Or.inl ⟨by rfl, ?_⟩) hS ?_; rotate_left; focus ((intro w' hSw; clear hSw; go_simp) <;> with_reducible rfl)
  try simp only [Act.put, List.setIfInBounds_toArray, List.set_cons_zero, List.set_cons_succ]
  refine wpAnyH_take (i := 4) (v := ?_) (op_at rfl) (by kernel_rfl) (by kernel_rfl) (by kernel_rfl) (fun _ _ _ h => h) (Or.inl ⟨by rfl, ?_⟩) hS ?_; rotate_left; focus ((intro w' hSw; clear hSw; go_simp) <;> with_reducible rfl)
  try simp only [Act.put, List.setIfInBounds_toArray, List.set_cons_zero, List.set_cons_succ]
  refine wpAnyH_take (i := 5) (v := ?_) (op_at rfl) (by kernel_rfl) (by kernel_rfl) (by kernel_rfl) (fun _ _ _ h => h) (Or.inl ⟨by rfl, ?_⟩) hS ?_; rotate_left; focus ((intro w' hSw; clear hSw; go_simp) <;> with_reducible rfl)
  try simp only [Act.put, List.setIfInBounds_toArray, List.set_cons_zero, List.set_cons_succ]
  refine wpAnyH_take (i := 6) (v := ?_) (op_at rfl) (by kernel_rfl) (by kernel_rfl) (by kernel_rfl) (fun _ _ _ h => h) (Or.inl ⟨by rfl, ?_⟩) hS ?_; rotate_left; focus ((intro w' hSw; clear hSw; go_simp) <;> with_reducible rfl)
  try simp only [Act.put, List.setIfInBounds_toArray, List.set_cons_zero, List.set_cons_succ]
  refine wpAnyH_take (i := 7) (v := ?_) (op_at rfl) (by kernel_rfl) (by kernel_rfl) (by kernel_rfl) (fun _ _ _ h => h) (Or.inl ⟨by rfl, ?_⟩) hS ?_; rotate_left; focus ((intro w' hSw; clear hSw; go_simp) <;> with_reducible rfl)
  try simp only [Act.put, List.setIfInBounds_toArray, List.set_cons_zero, List.set_cons_succ]
  refine wpAnyH_ready (rs := [8]) (by kernel_rfl) (by simp) ?_
  refine (AllReadyH.cons (op_at rfl) (fun K hK => ?_) AllReadyH.nil)
  refine wp_copy_run _ _ 22 22 rfl _ _ rfl rfl (R3.out _) ?_
  refine hK.out _ _ trivial (fun hS => ?_)
  clear hK K
  try simp only [Act.put, List.setIfInBounds_toArray, List.set_cons_zero, List.set_cons_succ]
  refine wpAnyH_done (by kernel_rfl) ?_ _
  go_wp2_with fail
  go_ret
  exact ⟨G, _, rfl, HF.out, HT.out⟩
set_option maxRecDepth 100000 in
set_option maxHeartbeats 8000000 in
theorem Insert_shift (g cap i : Nat) (cur : Array Value) (l : List Ln) (x : Ln) (vb : Nat) (w : World) (h : RowL w g cap cur l) (hi : i < l.length) (hx : Blk w vb 42 #[.int .i64 x.a.lv, .int .u64 (u x.a.c), .int .i64 x.a.ig, .int .i64 x.n]) (hle : l.length ≤ 2000) (hroom : l.length + 1 ≤ cap) (hne : vb ≠ g) :
    Calls Tryd.prog 60 #[.slice (some ⟨g, 0, none⟩) l.length cap, .int .i64 i, .slice (some ⟨vb, 0, none⟩) 1 1] w fun e w' => ∃ cur', e = .returned (.slice (some ⟨g, 0, none⟩) (l.length + 1) cap) ∧ RowL w' g cap cur' (insL l i x) ∧ Turns (fun k => k = g) w w' := by
  obtain ⟨i0, hi0, hz0, hz1, hz2⟩ := info_parts infoLn
  have hmx2 : maxLen = 9223372036854775807 := by unfold maxLen; rfl
  have hmx := h.mx
  obtain ⟨n, hn⟩ : ∃ n, n = l.length := ⟨_, rfl⟩
  have hszL : ∀ w, (Go.sizeOf 42).run Tryd.prog w = .ok 4 w := fun w => by simp [Go.sizeOf, typeInfo, hi0, hz1]
  have hov : ∀ lb cb, (callFunc 65 #[.slice (some ⟨vb, 0, none⟩) 1 1, .slice (some ⟨g, (i + 1) * 4, none⟩) lb cb]).run Tryd.prog w = .ok (.value (.bool false)) w := fun lb cb => by
    have hbx : w.heap[vb]? = some (.cells #[.int .i64 x.a.lv, .int .u64 (u x.a.c), .int .i64 x.a.ig, .int .i64 x.n] 42 (0, 0)) := hx
    have hsA : w.shape? vb = some (42, 4) := by unfold World.shape?; rw [hbx]; rfl
    have hsB : w.shape? g = some (42, cur.size) := by unfold World.shape?; rw [h.hp]
    rw [run_callFunc_extern Tryd.func65 (by kernel_rfl) (by kernel_rfl) (by kernel_rfl) (e := Extern.SlicesOverlaps.overlaps #[22, 22] #[4]) (by kernel_rfl),
      Lib.run_overlaps_apart w 22 4 42 Tryd.underlying22 4 hszL ⟨vb, 0, none⟩ ⟨g, (i + 1) * 4, none⟩ 1 1 lb cb hne _ _ 4 cur.size hsA hsB (by rw [h.sz]; omega) (by simp [World.frozen?, hbx]) (by simp [World.frozen?, hbx])]
    rfl
  have hli : (lcells (l.take i)).length = i * 4 := by rw [lcells_len, List.length_take]; omega
  have hld : (lcells (l.drop i)).length = (n - i) * 4 := by rw [lcells_len, List.length_drop, hn]
  have hfit1 : (i + 1) * 4 + (lcells (l.drop i)).length ≤ cur.size := by rw [h.sz, hld]; omega
  have hg0 : w.drew.heap[g]? = some (.cells cur 42 (0, 0)) := h.hp
  obtain ⟨W1, hW1⟩ : ∃ W1, W1 = w.drew.setRow g (lay4 cur ((i + 1) * 4) (lcells (l.drop i))) := ⟨_, rfl⟩
  have hr1 : ∀ ty, (Builtin.copy_ #[22, 22] ty #[.slice (some ⟨g, (i + 1) * 4, none⟩) (n - i) (cap - (i + 1)), .slice (some ⟨g, i * 4, none⟩) (n + 1 - i) (cap - i)]).run Tryd.prog w.drew = .ok (goInt (n - i : Nat)) W1 := fun ty => by
    rw [hW1]
    exact run_copyL w.drew ty g ((i + 1) * 4) (n - i) (cap - (i + 1)) ⟨g, i * 4, none⟩ (n + 1 - i) (cap - i) (n - i) _ _ (lcells (l.drop i)) hg0 (by show n - i = min (n + 1 - i) (n - i); omega) (by rw [hld]) (fun j u hu => h.drew.tail i j u hu) hfit1 (lcells_one _)
  have hg1 : W1.heap[g]? = some (.cells (lay4 cur ((i + 1) * 4) (lcells (l.drop i))) 42 (0, 0)) := by rw [hW1]; exact setRow_heap _ _ _ _ _ _ hg0
  have hs1 : (lay4 cur ((i + 1) * 4) (lcells (l.drop i))).size = cap * 4 := by rw [lay4_size hfit1, h.sz]
  have hT1 : Turns (fun k => k = g) w W1 := by rw [hW1]; exact (Turns.refl (fun k => k = g) w).drew.setRow rfl hg0 _
  have hfit2 : i * 4 + (encLn x).toList.length ≤ (lay4 cur ((i + 1) * 4) (lcells (l.drop i))).size := by rw [hs1]; show i * 4 + 4 ≤ cap * 4; omega
  obtain ⟨W2, hW2⟩ : ∃ W2, W2 = W1.setRow g (lay4 (lay4 cur ((i + 1) * 4) (lcells (l.drop i))) (i * 4) (encLn x).toList) := ⟨_, rfl⟩
  have hr2 : ∀ ty, (Builtin.copy_ #[22, 22] ty #[.slice (some ⟨g, i * 4, none⟩) (n + 1 - i) (cap - i), .slice (some ⟨vb, 0, none⟩) 1 1]).run Tryd.prog W1 = .ok (goInt 1) W2 := fun ty => by
    rw [hW2]
    exact run_copyL W1 ty g (i * 4) (n + 1 - i) (cap - i) ⟨vb, 0, none⟩ 1 1 1 _ _ (encLn x).toList hg1 (by show 1 = min 1 (n + 1 - i); omega) rfl (lnSrc (hx.keepT hT1 hne)) hfit2 (lnOne x)
  have hfin : RowL W2 g cap (lay4 (lay4 cur ((i + 1) * 4) (lcells (l.drop i))) (i * 4) (encLn x).toList) (insL l i x) := by
    have hp := (h.pre i (by omega)).tk
    rw [List.length_take, Nat.min_eq_left (by omega)] at hp
    refine ⟨by rw [hW2]; exact setRow_heap _ _ _ _ _ _ hg1, by rw [insL_len l i x (by omega)]; omega, hmx, by rw [lay4_size hfit2, hs1], ?_⟩
    refine ins_row (cur := cur) (by omega) _ (fun k hk => ?_) hp
    have he : (encLn x).toList.length = 4 := rfl
    rw [lay4_get hfit2]
    by_cases h1 : k < i * 4
    · rw [if_neg (by omega), lay4_get hfit1, if_neg (by omega), if_pos h1]
    · by_cases h2 : k < (i + 1) * 4
      · rw [if_pos (by omega), if_neg h1, if_pos h2, Array.getElem?_toList]
      · rw [if_neg (by omega), lay4_get hfit1, hld, if_pos (by omega), if_neg h1, if_neg h2]
  have hT2 : Turns (fun k => k = g) w W2 := by rw [hW2]; exact hT1.setRow rfl hg1 _
  have R1 := Lib.hid hr1
  have R2 := Lib.hid hr2
  have HF := Lib.hid hfin
  have HT := Lib.hid hT2
  have b0 : (0 : Int) ≤ (i : Int) := by omega
  have b1 : (i : Int) ≤ (n : Int) := by omega
  have b2 : ((i : Int) == (n : Int)) = false := beq_eq_false_iff_ne.2 (by omega)
  have b3 : IntKind.i64.wrap ((n : Int) + 1) = ((n + 1 : Nat) : Int) := wrapI _ (by omega)
  have b4 : decide ((cap : Int) < ((n + 1 : Nat) : Int)) = false := decide_eq_false (by omega)
  have b4a : ¬ ((cap : Int) < (n : Int) + 1) := by omega
  have b4b : decide ((cap : Int) < (n : Int) + 1) = false := decide_eq_false b4a
  have b6 : IntKind.i64.wrap ((i : Int) + 1) = ((i + 1 : Nat) : Int) := wrapI _ (by omega)
  have b7 : ¬ cap = i := by omega
  have b8 : ¬ cap = i + 1 := by omega
  have c1 : (i : Int) ≤ ((n + 1 : Nat) : Int) := by omega
  have c2 : ((i + 1 : Nat) : Int) ≤ ((n + 1 : Nat) : Int) := by omega
  have c3 : (0 : Int) ≤ (i : Int) + 1 := by omega
  have c4 : (i : Int) + 1 ≤ (n : Int) + 1 := by omega
  have c5 : i ≤ n := by omega
  have c6 : i + 1 ≤ n + 1 := by omega
  have c7 : (i : Int) ≤ (n : Int) + 1 := by omega
  have c8 : (0 : Int) ≤ (n : Int) + 1 := by omega
  have c9 : (n : Int) + 1 ≤ (cap : Int) := by omega
  have d1 : n + 1 ≤ cap := by omega
  have d2 : n ≤ cap := by omega
  rw [← hn]
  clear hr1 hr2 hfin hT2 hT1 hfit1 hfit2 hg0 hg1 hs1 hn hroom hli hld hW1 hW2 h hx hle hi hszL
  go_enter Tryd.func60, Tryd.ntmps60
  go_wp2_with (simp only [hov])
  refine wp_region_gen2 (S := fun _ => True) (N := fun W' => W' = w.drew) (by kernel_rfl) trivial rfl (fun wz hS hN => ?_)
  subst hN
  refine wpAnyH_take (i := 0) (v := ?_) (op_at rfl) (by kernel_rfl) (by kernel_rfl) (by kernel_rfl) (fun _ _ _ h => h) (Or.inl ⟨by rfl, ?_⟩) hS ?_; rotate_left; focus ((intro w' hSw; clear hSw; go_simp) <;> with_reducible rfl)
  try simp only [Act.put, List.setIfInBounds_toArray, List.set_cons_zero, List.set_cons_succ]
  refine wpAnyH_take (i := 1) (v := ?_) (op_at rfl) (by kernel_rfl) (by kernel_rfl) (by kernel_rfl) (fun _ _ _ h => h) (Or.inl ⟨by rfl, ?_⟩) hS ?_; rotate_left; focus ((intro w' hSw; clear hSw; go_simp) <;> with_reducible rfl)
  try simp only [Act.put, List.setIfInBounds_toArray, List.set_cons_zero, List.set_cons_succ]
  refine wpAnyH_take (i := 2) (v := ?_) (op_at rfl) (by kernel_rfl) (by kernel_rfl) (by kernel_rfl) (fun _ _ _ h => h) (Or.inl ⟨by rfl, ?_⟩) hS ?_; rotate_left; focus ((intro w' hSw; clear hSw; go_simp) <;> with_reducible rfl)
  try simp only [Act.put, List.setIfInBounds_toArray, List.set_cons_zero, List.set_cons_succ]
  refine wpAnyH_take (i := 3) (v := ?_) (op_at rfl) (by kernel_rfl) (by kernel_rfl) (by kernel_rfl) (fun _ _ _ h => h) (Or.inl ⟨by rfl, ?_⟩) hS ?_; rotate_left; focus ((intro w' hSw; clear hSw; go_simp) <;> with_reducible rfl)
  try simp only [Act.put, List.setIfInBounds_toArray, List.set_cons_zero, List.set_cons_succ]
  refine wpAnyH_take (i := 4) (v := ?_) (op_at rfl) (by kernel_rfl) (by kernel_rfl) (by kernel_rfl) (fun _ _ _ h => h) (Or.inl ⟨by rfl, ?_⟩) hS ?_; rotate_left; focus ((intro w' hSw; clear hSw; go_simp) <;> with_reducible rfl)
  try simp only [Act.put, List.setIfInBounds_toArray, List.set_cons_zero, List.set_cons_succ]
  refine wpAnyH_take (i := 5) (v := ?_) (op_at rfl) (by kernel_rfl) (by kernel_rfl) (by kernel_rfl) (fun _ _ _ h => h) (Or.inl ⟨by rfl, ?_⟩) hS ?_; rotate_left; focus ((intro w' hSw; clear hSw; go_simp) <;> with_reducible rfl)
  try simp only [Act.put, List.setIfInBounds_toArray, List.set_cons_zero, List.set_cons_succ]
  refine wpAnyH_take (i := 6) (v := ?_) (op_at rfl) (by kernel_rfl) (by kernel_rfl) (by kernel_rfl) (fun _ _ _ h => h) (Or.inl ⟨by rfl, ?_⟩) hS ?_; rotate_left; focus ((intro w' hSw; clear hSw; go_simp) <;> with_reducible rfl)
  try simp only [Act.put, List.setIfInBounds_toArray, List.set_cons_zero, List.set_cons_succ]
  refine wpAnyH_take (i := 7) (v := ?_) (op_at rfl) (by kernel_rfl) (by kernel_rfl) (by kernel_rfl) (fun _ _ _ h => h) (Or.inl ⟨by rfl, ?_⟩) hS ?_; rotate_left; focus ((intro w' hSw; clear hSw; go_simp) <;> with_reducible rfl)
  try simp only [Act.put, List.setIfInBounds_toArray, List.set_cons_zero, List.set_cons_succ]
  refine wpAnyH_ready (rs := [8]) (by kernel_rfl) (by simp) ?_
  refine (AllReadyH.cons (op_at rfl) (fun K hK => ?_) AllReadyH.nil)
  refine wp_copy_run _ _ 22 22 rfl _ _ rfl rfl (R1.out _) ?_
  refine hK.out _ _ trivial (fun hS => ?_)
  clear hK K
  try simp only [Act.put, List.setIfInBounds_toArray, List.set_cons_zero, List.set_cons_succ]
  refine wpAnyH_done (by kernel_rfl) ?_ _
  have hc2 := R2.out 3
  go_wp2_with fail
  go_ret
  exact ⟨_, rfl, HF.out, HT.out⟩
/-- Insert of one line -/
theorem Insert_w (b : Nat) (v : Value) (l : List Ln) (i : Nat) (x : Ln) (vb : Nat) (w : World) (h : OwnL b w v l) (hbw : b ≤ w.heap.size) (hi : i ≤ l.length) (hx : Blk w vb 42 #[.int .i64 x.a.lv, .int .u64 (u x.a.c), .int .i64 x.a.ig, .int .i64 x.n]) (hle : l.length ≤ 2000) (hne : v.ownBlock ≠ some vb) :
    Calls Tryd.prog 60 #[v, .int .i64 i, .slice (some ⟨vb, 0, none⟩) 1 1] w fun e w' => ∃ v', e = .returned v' ∧ OwnL b w' v' (insL l i x) ∧ (∀ g, v'.ownBlock = some g → v.ownBlock = some g ∨ w.heap.size ≤ g) ∧ Turns (fun k => v.ownBlock = some k ∨ w.heap.size ≤ k) w w' := by
  by_cases hil : i < l.length
  · obtain ⟨g, cap, cur, rfl, hb, hr⟩ := h.open (by rintro rfl; exact absurd hil (by simp))
    have hne' : vb ≠ g := fun e => hne (by rw [e]; rfl)
    by_cases hroom : l.length + 1 ≤ cap
    · refine (Insert_shift g cap i cur l x vb w hr hil hx hle hroom hne').mono ?_
      rintro e w' ⟨cur', rfl, h1, h2⟩
      exact ⟨_, rfl, h1.own hb (insL_len l i x hi), fun g' hg => .inl hg, h2.mono (fun k hk => .inl (by rw [hk]; rfl))⟩
    · refine (Insert_grow g cap i cur l x vb w hr hil hx hle (by have := hr.le; omega)).mono ?_
      rintro e w' ⟨G, cur', rfl, h1, h2⟩
      exact ⟨_, rfl, h1.own hbw (insL_len l i x hi), fun g' hg => by cases hg; exact .inr (Nat.le_refl _), h2.mono (fun k hk => .inr hk)⟩
  · obtain rfl : i = l.length := by omega
    refine (Insert_end b v l x vb w h hbw hx hle).mono ?_
    rintro e w' ⟨v', rfl, h1, h2, h3⟩
    have e1 : insL l l.length x = l ++ [x] := by unfold insL; rw [List.take_length, List.drop_length]
    exact ⟨v', rfl, by rw [e1]; exact h1, h2, h3⟩
end Go.Proofs.YtbggaijjgnjknaaDoor
