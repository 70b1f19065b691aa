/-
  PACKAGE slices at lines: Delete, Insert.
-/
import Derived.Test.YtbggaijjgnjknaaDoorLgF
import Derived.Lib.Overlaps
import Derived.Laws.Externs
namespace Go.Proofs.YtbggaijjgnjknaaDoor
open Go.RowKit

section
variable {P : Program}
theorem wp_append_run {w : World} {o : Oper} {a : Act} {K : Act → World → Prop} {Q : Exit → Act → World → Prop} (d s : Operand) (t t' : TypeId)
    (ho : o.op = .call { callee := .builtin .append, args := #[d, s], argTypes := #[t, t'] }) (v u : Value) (hd : a.eval d = v) (hs : a.eval s = u) {v' : Value} {w' : World}
    (hr : (Builtin.append_ #[t, t'] o.type #[v, u]).run P w = .ok v' w') (h : K (a.put o.dst v') w') : o.wp P a w K Q := by
  unfold Oper.wp execOp
  simp only [ho, resolve, invoke, builtin, Sem.run_bind, Sem.run_pure, Result.andThen_ok, List.map_toArray, List.map_cons, List.map_nil, hd, hs, hr]
  exact h
theorem wp_copy_run {w : World} {o : Oper} {a : Act} {K : Act → World → Prop} {Q : Exit → Act → World → Prop} (d s : Operand) (t t' : TypeId)
    (ho : o.op = .call { callee := .builtin .copy, args := #[d, s], argTypes := #[t, t'] }) (v u : Value) (hd : a.eval d = v) (hs : a.eval s = u) {v' : Value} {w' : World}
    (hr : (Builtin.copy_ #[t, t'] o.type #[v, u]).run P w = .ok v' w') (h : K (a.put o.dst v') w') : o.wp P a w K Q := by
  unfold Oper.wp execOp
  simp only [ho, resolve, invoke, builtin, Sem.run_bind, Sem.run_pure, Result.andThen_ok, List.map_toArray, List.map_cons, List.map_nil, hd, hs, hr]
  exact h
theorem wp_clear_run {w : World} {o : Oper} {a : Act} {K : Act → World → Prop} {Q : Exit → Act → World → Prop} (s : Operand) (t : TypeId)
    (ho : o.op = .call { callee := .builtin .clear, args := #[s], argTypes := #[t] }) (u : Value) (hs : a.eval s = u) {v' : Value} {w' : World}
    (hr : (Builtin.clear_ #[t] o.type #[u]).run P w = .ok v' w') (h : K (a.put o.dst v') w') : o.wp P a w K Q := by
  unfold Oper.wp execOp
  simp only [ho, resolve, invoke, builtin, Sem.run_bind, Sem.run_pure, Result.andThen_ok, List.map_toArray, List.map_cons, List.map_nil, hs, hr]
  exact h
theorem wpList_append_run {w : World} {ops : Array Oper} {rest : List Oper} {o : Oper} {a : Act} {Q : Exit → Act → World → Prop} (hgd : o.guard = none) (d s : Operand) (t t' : TypeId)
    (ho : o.op = .call { callee := .builtin .append, args := #[d, s], argTypes := #[t, t'] }) (v u : Value) (hd : a.eval d = v) (hs : a.eval s = u) {v' : Value} {w' : World}
    (hr : (Builtin.append_ #[t, t'] o.type #[v, u]).run P w = .ok v' w') (h : wpList P ops Q rest (a.put o.dst v') w') : wpList P ops Q (o :: rest) a w :=
  wpList_plain hgd fun _ hK => wp_append_run d s t t' ho v u hd hs hr (hK _ _ h)
theorem wpList_copy_run {w : World} {ops : Array Oper} {rest : List Oper} {o : Oper} {a : Act} {Q : Exit → Act → World → Prop} (hgd : o.guard = none) (d s : Operand) (t t' : TypeId)
    (ho : o.op = .call { callee := .builtin .copy, args := #[d, s], argTypes := #[t, t'] }) (v u : Value) (hd : a.eval d = v) (hs : a.eval s = u) {v' : Value} {w' : World}
    (hr : (Builtin.copy_ #[t, t'] o.type #[v, u]).run P w = .ok v' w') (h : wpList P ops Q rest (a.put o.dst v') w') : wpList P ops Q (o :: rest) a w :=
  wpList_plain hgd fun _ hK => wp_copy_run d s t t' ho v u hd hs hr (hK _ _ h)
theorem wpList_clear_run {w : World} {ops : Array Oper} {rest : List Oper} {o : Oper} {a : Act} {Q : Exit → Act → World → Prop} (hgd : o.guard = none) (s : Operand) (t : TypeId)
    (ho : o.op = .call { callee := .builtin .clear, args := #[s], argTypes := #[t] }) (u : Value) (hs : a.eval s = u) {v' : Value} {w' : World}
    (hr : (Builtin.clear_ #[t] o.type #[u]).run P w = .ok v' w') (h : wpList P ops Q rest (a.put o.dst v') w') : wpList P ops Q (o :: rest) a w :=
  wpList_plain hgd fun _ hK => wp_clear_run s t ho u hs hr (hK _ _ h)
end
theorem Turns.setRow {T : Nat → Prop} {A B : World} (h : Turns T A B) {g : Nat} (hg : T g) {old : Array Value} {t : TypeId} (hh : B.heap[g]? = some (.cells old t (0, 0))) (cs : Array Value) : Turns T A (B.setRow g cs) := by
  refine h.trans ⟨rfl, rfl, rfl, by simp [World.setRow], fun k o hk hc => ?_⟩
  by_cases e : k = g
  · subst e
    rw [hh] at hk; cases hk
    rcases hc with hc | hc
    · exact absurd hg hc
    · cases hc
  · rw [setRow_other _ _ _ _ e]; exact hk
theorem RowL.turn {W W' : World} {g cap : Nat} {cur : Array Value} {l : List Ln} {T : Nat → Prop} (h : RowL W g cap cur l) (k : Turns T W W') (hT : ¬ T g) : RowL W' g cap cur l := ⟨k.same _ _ h.hp (.inl hT), h.le, h.mx, h.sz, h.tk⟩
theorem RowL.after {W W' : World} {g cap : Nat} {cur : Array Value} {l : List Ln} (h : RowL W g cap cur l) (hb : Below W.heap.size W W') : RowL W' g cap cur l := h.turn (T := fun _ => False) (Turns.of_below hb) id
theorem RowL.drew {W : World} {g cap : Nat} {cur : Array Value} {l : List Ln} (h : RowL W g cap cur l) : RowL W.drew g cap cur l := ⟨h.hp, h.le, h.mx, h.sz, h.tk⟩
theorem RowL.lt {W : World} {g cap : Nat} {cur : Array Value} {l : List Ln} (h : RowL W g cap cur l) : g < W.heap.size := (Array.getElem?_eq_some_iff.1 h.hp).1
/-- the cells of the lines from k on -/
theorem RowL.tail {W : World} {g cap : Nat} {cur : Array Value} {l : List Ln} (h : RowL W g cap cur l) (k : Nat) : ∀ j u, (lcells (l.drop k))[j]? = some u → W.cell? ((⟨g, k * 4, none⟩ : Addr).add j) = some u := by
  intro j u hu
  have hb : Blk W g 42 cur := h.hp
  rw [Go.WideShapes.add_plain]
  refine hb.at_ ?_
  rw [← lcells_drop, List.getElem?_drop, ← h.tk, List.getElem?_take] at hu
  split at hu
  · rw [← Array.getElem?_toList]; exact hu
  · cases hu
set_option maxRecDepth 100000 in
set_option maxHeartbeats 8000000 in
theorem Delete_w (g cap i : Nat) (cur : Array Value) (l : List Ln) (w : World) (h : RowL w g cap cur l) (hi : i < l.length) (hle : l.length ≤ 2000) :
    Calls Tryd.prog 48 #[.slice (some ⟨g, 0, none⟩) l.length cap, .int .i64 i, .int .i64 ((i + 1 : Nat) : Int)] w fun e w' => e = .returned (.slice (some ⟨g, 0, none⟩) (l.length - 1) cap) ∧ (∃ cur', RowL w' g cap cur' (l.take i ++ l.drop (i + 1))) ∧ Turns (fun k => k = g) w w' := by
  obtain ⟨i0, hi0, hz0, hz1, hz2⟩ := info_parts infoLn
  have hle2 := h.le
  have hmx := h.mx
  have hmx2 : maxLen = 9223372036854775807 := by unfold maxLen; rfl
  obtain ⟨n, hn⟩ : ∃ n, n = l.length := ⟨_, rfl⟩
  have HR := Lib.hid h.drew
  -- the append in place
  obtain ⟨A, hA, hsrc⟩ : ∃ A : Addr, (if cap = i + 1 then some (⟨g, 0, none⟩ : Addr) else some ⟨g, (i + 1) * 4, none⟩) = some A ∧ ∀ j u, (lcells (l.drop (i + 1)))[j]? = some u → w.drew.cell? (A.add j) = some u := by
    by_cases hc : cap = i + 1
    · refine ⟨⟨g, 0, none⟩, by simp [hc], fun j u hu => ?_⟩
      rw [List.drop_eq_nil_of_le (by omega)] at hu
      simp [lcells] at hu
    · exact ⟨⟨g, (i + 1) * 4, none⟩, by simp [hc], fun j u hu => h.drew.tail (i + 1) j u hu⟩
  have hpre : OwnL 0 w.drew (.slice (some ⟨g, 0, none⟩) i cap) (l.take i) := (h.drew.pre i (by omega)).own (Nat.zero_le _) (by rw [List.length_take]; omega)
  have hil : (l.take i).length = i := by rw [List.length_take]; omega
  have hdl : (l.drop (i + 1)).length = l.length - (i + 1) := List.length_drop
  obtain ⟨w1, hr1, hown1, hgr1⟩ : ∃ w1, (∀ ty, (Builtin.append_ #[22, 22] ty #[.slice (some ⟨g, 0, none⟩) i cap, .slice (some A) (n - (i + 1)) (cap - (i + 1))]).run Tryd.prog w.drew = .ok (.slice (some ⟨g, 0, none⟩) (n - 1) cap) w1) ∧ w1.ownsRow 0 42 4 (.slice (some ⟨g, 0, none⟩) (i + (n - (i + 1))) cap) (i + (n - (i + 1))) (lcells (l.take i) ++ lcells (l.drop (i + 1))) ∧ w.drew.grownBy w1 (some g) := by
    have hp : w.drew.ownsRow 0 42 4 (.slice (some ⟨g, 0, none⟩) i cap) i (lcells (l.take i)) := by have h0 := hpre; unfold OwnL at h0; rw [hil] at h0; exact h0
    obtain ⟨w1, hrun, h2, h3⟩ := run_append_fits (P := Tryd.prog) w.drew 0 22 22 42 i0 4 Tryd.underlying22 hi0 hz1 g i cap (lcells (l.take i)) hp A (n - (i + 1)) (cap - (i + 1)) (lcells (l.drop (i + 1))) (by rw [lcells_len, hdl, hn]) hsrc (lcells_one _) (by omega)
    refine ⟨w1, fun ty => ?_, h2, h3⟩
    rw [show n - 1 = i + (n - (i + 1)) by omega]
    exact hrun
  have hnew : (l.take i ++ l.drop (i + 1)).length = n - 1 := by rw [List.length_append, hil, hdl]; omega
  have hrow1 : ∃ cur1, RowL w1 g cap cur1 (l.take i ++ l.drop (i + 1)) := by
    rw [show i + (n - (i + 1)) = n - 1 by omega, ← lcells_app] at hown1
    rcases hown1.2 with ⟨h0, _⟩ | ⟨g', cap', cur1, hv, _, hh, hc, hm, hs, ht⟩
    · cases h0
    · cases hv
      exact ⟨cur1, hh, by rw [hnew]; exact hc, hm, hs, by rw [hnew]; exact ht⟩
  obtain ⟨cur1, hrow1⟩ := hrow1
  have hT1 : Turns (fun k => k = g) w w1 := (Turns.refl (fun k => k = g) w).drew.grown hgr1 (fun k hk => by cases hk; exact ⟨rfl, fun o ho => by rw [show w.drew.heap[g]? = _ from h.hp] at ho; cases ho; rfl⟩)
  have hsz1 := hrow1.sz
  have hcl : ∀ ty, (Builtin.clear_ #[22] ty #[.slice (some ⟨g, (n - 1) * 4, none⟩) (n - (n - 1)) (cap - (n - 1))]).run Tryd.prog w1 = .ok (.tuple #[]) (w1.setRow g (cur1.toList.take ((n - 1) * 4) ++ [Value.int .i64 0, Value.int .u64 0, Value.int .i64 0, Value.int .i64 0] ++ cur1.toList.drop ((n - 1) * 4 + 4)).toArray) :=
    fun ty => by rw [show n - (n - 1) = 1 by omega]; exact run_clear4 w1 ty g ((n - 1) * 4) (cap - (n - 1)) cur1 _ hrow1.hp (by omega)
  have hfin : ∃ cur', RowL (w1.setRow g (cur1.toList.take ((n - 1) * 4) ++ [Value.int .i64 0, Value.int .u64 0, Value.int .i64 0, Value.int .i64 0] ++ cur1.toList.drop ((n - 1) * 4 + 4)).toArray) g cap cur' (l.take i ++ l.drop (i + 1)) := by
    refine ⟨_, setRow_heap _ _ _ _ _ _ hrow1.hp, hrow1.le, hrow1.mx, ?_, ?_⟩
    · simp; omega
    · rw [hnew]
      have := hrow1.tk
      rw [hnew] at this
      rw [List.append_assoc, List.take_append_of_le_length (by simp; omega), List.take_take, Nat.min_self]
      exact this
  have hT2 := hT1.setRow (g := g) rfl hrow1.hp (cur1.toList.take ((n - 1) * 4) ++ [Value.int .i64 0, Value.int .u64 0, Value.int .i64 0, Value.int .i64 0] ++ cur1.toList.drop ((n - 1) * 4 + 4)).toArray
  generalize (cur1.toList.take ((n - 1) * 4) ++ [Value.int .i64 0, Value.int .u64 0, Value.int .i64 0, Value.int .i64 0] ++ cur1.toList.drop ((n - 1) * 4 + 4)).toArray = ROW at hcl hfin hT2
  have happ := Lib.hid hr1
  have HCL := Lib.hid hcl
  have HF := Lib.hid hfin
  have HT2 := Lib.hid hT2
  have b0 : (0 : Int) ≤ (i : Int) := by omega
  have b1 : (i : Int) ≤ ((i + 1 : Nat) : Int) := by omega
  have b2 : ((i + 1 : Nat) : Int) ≤ (n : Int) := by omega
  have b3 : (n : Int) ≤ (cap : Int) := by omega
  have b4 : (((i : Nat) : Int) == ((i + 1 : Nat) : Int)) = false := beq_eq_false_iff_ne.2 (by omega)
  have b5 : (i : Int) ≤ (cap : Int) := by omega
  have b6 : i ≤ cap := by omega
  have b7 : i + 1 ≤ n := by omega
  have b8 : n ≤ cap := by omega
  have b9 : (0 : Int) ≤ (i : Int) + 1 := by omega
  have b10 : (i : Int) + 1 ≤ (n : Int) := by omega
  rw [← hn]
  have HN := Lib.hid hn
  clear hn
  clear hr1 hcl hfin hT2 hT1 hrow1 hsz1 hown1 hgr1 hpre hsrc hnew hil hdl hi
  go_enter Tryd.func48, Tryd.ntmps48
  go_wp2_with fail
  refine wp_region_gen2 (S := fun _ => True) (N := fun W' => W' = w.drew) (by kernel_rfl) trivial rfl (fun w0 hS hN => ?_)
  subst hN
  refine wpAnyH_take (i := 0) (v := ?_) (op_at rfl) (by kernel_rfl) (by kernel_rfl) (by kernel_rfl) (fun _ _ _ h => h) (Or.inl ⟨by rfl, ?_⟩) hS ?_; rotate_left; focus ((intro w' hSw; clear hSw; go_simp) <;> with_reducible rfl)
  try simp only [Act.put, List.setIfInBounds_toArray, List.set_cons_zero, List.set_cons_succ]
  refine wpAnyH_take (i := 1) (v := ?_) (op_at rfl) (by kernel_rfl) (by kernel_rfl) (by kernel_rfl) (fun _ _ _ h => h) (Or.inl ⟨by rfl, ?_⟩) hS ?_; rotate_left; focus ((intro w' hSw; clear hSw; go_simp) <;> with_reducible rfl)
  try simp only [Act.put, List.setIfInBounds_toArray, List.set_cons_zero, List.set_cons_succ]
  refine wpAnyH_take (i := 2) (v := ?_) (op_at rfl) (by kernel_rfl) (by kernel_rfl) (by kernel_rfl) (fun _ _ _ h => h) (Or.inl ⟨by rfl, ?_⟩) hS ?_; rotate_left; focus ((intro w' hSw; clear hSw; go_simp) <;> with_reducible rfl)
  try simp only [Act.put, List.setIfInBounds_toArray, List.set_cons_zero, List.set_cons_succ]
  refine wpAnyH_take (i := 3) (v := ?_) (op_at rfl) (by kernel_rfl) (by kernel_rfl) (by kernel_rfl) (fun _ _ _ h => h) (Or.inl ⟨by rfl, ?_⟩) hS ?_; rotate_left; focus ((intro w' hSw; clear hSw; go_simp) <;> with_reducible rfl)
  try simp only [Act.put, List.setIfInBounds_toArray, List.set_cons_zero, List.set_cons_succ]
  refine wpAnyH_take (i := 4) (v := ?_) (op_at rfl) (by kernel_rfl) (by kernel_rfl) (by kernel_rfl) (fun _ _ _ h => h) (Or.inl ⟨by rfl, ?_⟩) hS ?_; rotate_left; focus ((intro w' hSw; clear hSw; go_simp) <;> with_reducible rfl)
  try simp only [Act.put, List.setIfInBounds_toArray, List.set_cons_zero, List.set_cons_succ]
  refine wpAnyH_take (i := 5) (v := ?_) (op_at rfl) (by kernel_rfl) (by kernel_rfl) (by kernel_rfl) (fun _ _ _ h => h) (Or.inl ⟨by rfl, ?_⟩) hS ?_; rotate_left; focus ((intro w' hSw; clear hSw; go_simp) <;> with_reducible rfl)
  try simp only [Act.put, List.setIfInBounds_toArray, List.set_cons_zero, List.set_cons_succ]
  refine wpAnyH_ready (rs := [6]) (by kernel_rfl) (by simp) ?_
  refine (AllReadyH.cons (op_at rfl) (fun K hK => ?_) AllReadyH.nil)
  refine wp_append_run _ _ 22 22 rfl _ _ rfl rfl (happ.out _) ?_
  refine hK.out _ _ trivial (fun hS => ?_)
  clear hK K
  try simp only [Act.put, List.setIfInBounds_toArray, List.set_cons_zero, List.set_cons_succ]
  refine wpAnyH_take (i := 7) (v := ?_) (op_at rfl) (by kernel_rfl) (by kernel_rfl) (by kernel_rfl) (fun _ _ _ h => h) (Or.inl ⟨by rfl, ?_⟩) hS ?_; rotate_left; focus ((intro w' hSw; clear hSw; go_simp) <;> with_reducible rfl)
  try simp only [Act.put, List.setIfInBounds_toArray, List.set_cons_zero]
  refine wpAnyH_done (by kernel_rfl) ?_ _
  have hcl0 := HCL.out 0
  go_wp2_with fail
  go_ret
  exact ⟨rfl, HF.out, HT2.out⟩
end Go.Proofs.YtbggaijjgnjknaaDoor
