/-
  PACKAGE slots: Take.
-/
import Derived.Test.YtgjnmpbahekbfaaDoorSlJ
namespace Go.Proofs.YtgjnmpbahekbfaaDoor
open Go.RowKit

theorem SentS.keepT {W W' : World} {ea eb : Addr} {T : Nat → Prop} {n : Nat} (h : SentS W ea eb) (k : Turns T W W') (hb : 0 < n ∧ 1 < n ∧ ea.block < n ∧ eb.block < n) (hT : ∀ b, b < n → ¬ T b) : SentS W' ea eb := by
  obtain ⟨b0, b1, b2, b3⟩ := hb
  obtain ⟨c, t, h0⟩ := h.h0
  obtain ⟨d, u, h1⟩ := h.h1
  have hc0 := h.c0
  have hc1 := h.c1
  have c0 := (k.moves 0).cell hc0 (hT _ b0)
  have c1 := (k.moves 0).cell hc1 (hT _ b1)
  exact ⟨c0, c1, h.ne, ⟨c, t, k.same _ _ h0 (.inl (hT _ b2))⟩, ⟨d, u, k.same _ _ h1 (.inl (hT _ b3))⟩⟩

set_option maxRecDepth 100000 in
set_option maxHeartbeats 8000000 in
theorem Take_core (sb : Nat) (i y n : Int) (ev : Value) (R : World → Prop) (ea eb : Addr) (w : World) (he : SentS w ea eb)
    (ht : Calls Tryd.prog 23 #[.pointer (some ⟨sb, 0, none⟩)] (w.alloc (.cells #[.int .i64 0, .int .i64 0] 28)) fun e w1 => e = .returned (.tuple #[.agg #[.int .i64 i, .int .i64 y], ev]) ∧ R w1)
    (hR : ∀ w1, R w1 → Blk w1 w.heap.size 28 #[.int .i64 0, .int .i64 0] ∧ SentS w1 ea eb ∧ w.heap.size < w1.heap.size)
    (hn : ∀ W, SentS W ea eb → Calls Tryd.prog 24 #[ev] W fun e w' => e = .returned (.int .i64 n) ∧ W = w') :
    Calls Tryd.prog 11 #[.pointer (some ⟨sb, 0, none⟩)] w fun e w' => e = .returned (.tuple #[.agg #[.int .i64 i, .int .i64 y], .int .i64 n]) ∧ ∃ w1, R w1 ∧ Turns (fun k => k = w.heap.size ∨ w1.heap.size ≤ k) w1 w' := by
  have HL := Lib.hid he.lt
  have HT := Lib.hid ht
  have HR := Lib.hid hR
  have HN := Lib.hid hn
  clear he ht hR hn
  go_enter Tryd.func11, Tryd.ntmps11
  go_wp2_with fail
  refine (HT.out).mono ?_
  rintro e w1 ⟨rfl, hr⟩
  obtain ⟨h1, h2, z1⟩ := HR.out w1 hr
  have B1 := Lib.hid h1
  have E1 := Lib.hid h2
  have HR1 := Lib.hid hr
  clear h1 h2 hr
  have HB : Hid (Turns (fun k => k = w.heap.size ∨ w1.heap.size ≤ k) w1 (w1.alloc (.cells #[.int .i64 i, .int .i64 y] 28))) := Lib.hid ((Turns.refl _ w1).alloc _)
  go_wp2_with fail
  refine wp_region_gen2 (S := (fun W' => Blk W' (w1.heap.size) 28 #[.int .i64 i, .int .i64 y] ∧ Turns (fun k => k = w.heap.size ∨ w1.heap.size ≤ k) w1 W')) (N := (fun W' => Blk W' (w.heap.size) 28 #[.int .i64 0, .int .i64 0])) (by kernel_rfl) ⟨Blk.drew (Blk.new' rfl), HB.out.drew⟩ (Blk.drew (Blk.alloc B1.out _)) (fun w2 hS hN => ?_)
  have n0 := hN
  have N0 := Lib.hid n0
  have d0_N0 : w1.heap.size ≠ w.heap.size := by omega
  clear n0 hN
  refine wpAnyH_take (i := 0) (v := ?_) (op_at rfl) (by kernel_rfl) (by kernel_rfl) (by kernel_rfl) (fun _ _ _ h => h) (Or.inl ⟨by rfl, ?_⟩) hS ?_; rotate_left; focus ((intro w' hSw; obtain ⟨q, -⟩ := hSw; have c0 := q.at_ (i := 0) (v := .int .i64 i) rfl; have c1 := q.at_ (i := 1) (v := .int .i64 y) rfl; clear q; go_simp) <;> with_reducible rfl)
  try simp only [Act.put, List.setIfInBounds_toArray, List.set_cons_zero, List.set_cons_succ]
  refine wpAnyH_take (i := 1) (v := ?_) (op_at rfl) (by kernel_rfl) (by kernel_rfl) (by kernel_rfl) (fun _ _ _ h => h) (Or.inl ⟨by rfl, ?_⟩) hS ?_; rotate_left; focus ((intro w' hSw; clear hSw; go_simp) <;> with_reducible rfl)
  try simp only [Act.put, List.setIfInBounds_toArray, List.set_cons_zero, List.set_cons_succ]
  refine wpAnyH_ready (rs := [2]) (by kernel_rfl) (by simp) ?_
  refine (AllReadyH.cons (op_at rfl) (fun K hK => ?_) AllReadyH.nil)
  go_simp
  obtain ⟨b0, hb⟩ := hS
  refine (HN.out _ (E1.out.keepT hb HL.out (fun b hb e => by omega))).mono ?_
  rintro e w' ⟨rfl, rfl⟩
  refine hK.out _ _ ⟨b0, hb⟩ (fun hS => ?_)
  clear hK K b0 hb
  try simp only [Act.put, List.setIfInBounds_toArray, List.set_cons_zero, List.set_cons_succ]
  refine wpAnyH_ready (rs := [3]) (by kernel_rfl) (by simp) ?_
  refine (AllReadyH.cons (op_at rfl) (fun K hK => ?_) AllReadyH.nil)
  have p_0 := N0.out.at_ (i := 0) (v := .int .i64 0) rfl
  have f_0 := N0.out.frozen 0
  have p_1 := N0.out.at_ (i := 1) (v := .int .i64 0) rfl
  have f_1 := N0.out.frozen 1
  go_simp
  clear p_0 f_0 p_1 f_1
  obtain ⟨b0, hb⟩ := hS
  refine hK.out _ _ ⟨(Blk.far (Blk.far b0 d0_N0 _) d0_N0 _), ((hb.setCell (p := ⟨w.heap.size, 0, none⟩) (.inl rfl) _).setCell (p := ⟨w.heap.size, 1, none⟩) (.inl rfl) _)⟩ (fun hS => ?_)
  replace N0 := Lib.hid (Blk.set' (u := .int .i64 y) (i := 1) (cs' := #[.int .i64 i, .int .i64 y]) (Blk.set' (u := .int .i64 i) (i := 0) (cs' := #[.int .i64 i, .int .i64 0]) N0.out rfl) rfl)
  clear hK K b0 hb
  try simp only [Act.put, List.setIfInBounds_toArray, List.set_cons_zero, List.set_cons_succ]
  refine wpAnyH_take (i := 4) (v := ?_) (op_at rfl) (by kernel_rfl) (by kernel_rfl) (by kernel_rfl) (fun _ _ _ h => h) (Or.inl ⟨by rfl, ?_⟩) hS ?_; rotate_left; focus ((intro w' hSw; clear hSw; go_simp) <;> with_reducible rfl)
  try simp only [Act.put, List.setIfInBounds_toArray, List.set_cons_zero, List.set_cons_succ]
  refine wpAnyH_done (by kernel_rfl) ?_ _
  obtain ⟨b0, hb⟩ := hS
  clear b0
  replace HB := Lib.hid hb
  clear hb
  go_wp2_with fail
  have R1 : Blk ((w2.setCell ⟨w.heap.size, 0, none⟩ (.int .i64 i)).setCell ⟨w.heap.size, 1, none⟩ (.int .i64 y)) (w.heap.size) 28 #[.int .i64 i, .int .i64 y] := N0.out
  have k1_0 := R1.at_ (i := 0) (v := .int .i64 i) rfl
  have k1_1 := R1.at_ (i := 1) (v := .int .i64 y) rfl
  refine bodyPost_ret (v := .tuple #[.agg #[.int .i64 i, .int .i64 y], .int .i64 n]) (by simp [results, Tryd.results11, go_sem, k1_0, k1_1]) rfl ⟨rfl, w1, HR1.out, HB.out⟩
/-- Take at slots of which none is left -/
theorem Take_full (base sb gb tb : Nat) (v : Value) (gen : List Int) (tk : List Bool) (un : Int) (ea eb : Addr) (w : World) (H : SlotsAt base w sb gb tb v gen tk [] un) (he : SentS w ea eb) :
    Calls Tryd.prog 11 #[.pointer (some ⟨sb, 0, none⟩)] w fun e w' => e = .returned (.tuple #[.agg #[.int .i64 0, .int .i64 0], .int .i64 60]) ∧ Below w.heap.size w w' := by
  obtain ⟨A, c, hv⟩ := H.h.form
  have hs := H.s
  rw [hv] at hs
  refine (Take_core sb 0 0 60 (errE ea) (fun w1 => Below (w.heap.size + 1) (w.alloc (.cells #[.int .i64 0, .int .i64 0] 28)) w1) ea eb w he ?_ ?_ (told_slots ea eb)).mono ?_
  · have h := take_full sb c A _ _ un ea eb (w.alloc (.cells #[.int .i64 0, .int .i64 0] 28)) (hs.alloc _) (he.keepT (T := fun _ => False) ((Turns.refl _ w).alloc _) he.lt (fun _ _ => id))
    rwa [show ((w.alloc (.cells #[.int .i64 0, .int .i64 0] 28)).heap.size) = w.heap.size + 1 from Array.size_push _] at h
  · intro w1 hb
    have hz : (w.alloc (.cells #[.int .i64 0, .int .i64 0] 28)).heap.size = w.heap.size + 1 := Array.size_push _
    have hb' : Below (w.alloc (.cells #[.int .i64 0, .int .i64 0] 28)).heap.size (w.alloc (.cells #[.int .i64 0, .int .i64 0] 28)) w1 := by rw [hz]; exact hb
    have hl := hb'.size
    exact ⟨(Blk.new' rfl).after hb', he.keepT (T := fun k => w.heap.size ≤ k) (((Turns.refl _ w).alloc _).below hb') he.lt (fun b hb hc => by omega), by omega⟩
  · rintro e w' ⟨rfl, w1, hb, hT⟩
    have h0 : Below w.heap.size w (w.alloc (.cells #[.int .i64 0, .int .i64 0] 28)) := below_alloc (Below.refl _ _) _
    have hz : (w.alloc (.cells #[.int .i64 0, .int .i64 0] 28)).heap.size = w.heap.size + 1 := Array.size_push _
    have h1 := h0.trans (hb.mono (Nat.le_succ _))
    have hl := h1.size
    exact ⟨rfl, h1.trans (hT.down hl (fun k hk => by omega))⟩
theorem SlotsAt.keepT {base : Nat} {w w' : World} {sb gb tb : Nat} {v : Value} {gen : List Int} {tk : List Bool} {h : List Int} {un : Int} {T : Nat → Prop} (H : SlotsAt base w sb gb tb v gen tk h un) (k : Turns T w w') (h0 : ¬ T sb) (h1 : ¬ T gb) (h2 : ¬ T tb) (h3 : ∀ g, v.ownBlock = some g → ¬ T g) : SlotsAt base w' sb gb tb v gen tk h un :=
  ⟨H.s.keepT k h0, H.h.keepT k h3, H.g.keepT k h1, H.t.keepT k h2, H.gl, H.tl, Nat.le_trans H.bl k.size⟩
theorem SlotsAt.alloc {base : Nat} {w : World} {sb gb tb : Nat} {v : Value} {gen : List Int} {tk : List Bool} {h : List Int} {un : Int} (H : SlotsAt base w sb gb tb v gen tk h un) (o : Obj) : SlotsAt base (w.alloc o) sb gb tb v gen tk h un :=
  H.keepT (T := fun _ => False) ((Turns.refl _ w).alloc o) id id id (fun _ _ => id)
theorem SlotsAt.lts {base : Nat} {w : World} {sb gb tb : Nat} {v : Value} {gen : List Int} {tk : List Bool} {h : List Int} {un : Int} (H : SlotsAt base w sb gb tb v gen tk h un) : sb < w.heap.size ∧ gb < w.heap.size ∧ tb < w.heap.size ∧ ∀ g, v.ownBlock = some g → g < w.heap.size :=
  ⟨H.s.lt, H.g.lt, H.t.lt, fun _ hg => (H.h.own_lt hg).2⟩
/-- what lies below lo: the sentinels; slots lie above -/
structure Above (ea eb : Addr) (base sb gb tb : Nat) : Prop where
  lo : ∃ lo, (0 < lo ∧ 1 < lo ∧ ea.block < lo ∧ eb.block < lo) ∧ lo ≤ sb ∧ lo ≤ gb ∧ lo ≤ tb ∧ lo ≤ base
theorem SentS.keepS {W W' : World} {ea eb : Addr} {base sb gb tb n : Nat} {v : Value} {gen : List Int} {tk : List Bool} {h : List Int} {un : Int} (E : SentS W ea eb) (H : SlotsAt base W sb gb tb v gen tk h un) (hA : Above ea eb base sb gb tb) (hn : base ≤ n) (k : Turns (OwnS sb gb tb v n) W W') : SentS W' ea eb := by
  obtain ⟨lo, hl, h1, h2, h3, h4⟩ := hA.lo
  refine E.keepT k hl (fun b hb => ?_)
  rintro (e | e | e | e | e)
  · omega
  · omega
  · omega
  · have := (H.h.own_lt e).1; omega
  · omega
/-- Take at slots of which one is left -/
theorem Take_any (base sb gb tb i : Nat) (v : Value) (gen : List Int) (tk : List Bool) (h : List Int) (un x : Int) (b : Bool) (ea eb : Addr) (w : World) (H : SlotsAt base w sb gb tb v gen tk h un) (he : SentS w ea eb) (hA : Above ea eb base sb gb tb) (hn : h ≠ []) (hle : h.length ≤ 900)
    (hi : at0 (popL h) (h.length - 1) = (i : Int)) (hx : gen[i]? = some x) (hb : tk[i]? = some b) (hgl : gen.length ≤ 900) (hx0 : 0 ≤ x ∧ x < 1000) (hun : 0 ≤ un ∧ un < 1000) :
    Calls Tryd.prog 11 #[.pointer (some ⟨sb, 0, none⟩)] w fun e w' => e = .returned (.tuple #[.agg #[.int .i64 i, .int .i64 (x + 1)], .int .i64 0]) ∧ ∃ v', SlotsAt base w' sb gb tb v' (gen.set i (x + 1)) (tk.set i true) ((popL h).take (h.length - 1)) (un + 1) ∧ v'.ownBlock = v.ownBlock ∧ Turns (OwnS sb gb tb v w.heap.size) w w' := by
  have hz : (w.alloc (.cells #[.int .i64 0, .int .i64 0] 28)).heap.size = w.heap.size + 1 := Array.size_push _
  obtain ⟨l0, l1, l2, l3⟩ := H.lts
  refine (Take_core sb i (x + 1) 0 .nilIface (fun w1 => ∃ v', SlotsAt base w1 sb gb tb v' (gen.set i (x + 1)) (tk.set i true) ((popL h).take (h.length - 1)) (un + 1) ∧ v'.ownBlock = v.ownBlock ∧ Turns (OwnS sb gb tb v (w.heap.size + 1)) (w.alloc (.cells #[.int .i64 0, .int .i64 0] 28)) w1) ea eb w he ?_ ?_ (told_nil ea eb)).mono ?_
  · have h1 := take_any base sb gb tb i v gen tk h un x b _ (H.alloc (.cells #[.int .i64 0, .int .i64 0] 28)) hn hle hi hx hb hgl hx0 hun
    rwa [hz] at h1
  · rintro w1 ⟨v', h1, h2, h3⟩
    have hs := h3.size
    refine ⟨(Blk.new' rfl).keepT h3 ?_, (he.keepT (T := fun _ => False) ((Turns.refl _ w).alloc _) he.lt (fun _ _ => id)).keepS (H.alloc _) hA (by have := H.bl; omega) h3, by omega⟩
    rintro (e | e | e | e | e)
    · omega
    · omega
    · omega
    · have := l3 _ e; omega
    · omega
  · rintro e w' ⟨rfl, w1, ⟨v', h1, h2, h3⟩, hT⟩
    have hs := h3.size
    refine ⟨rfl, v', h1.keepT hT (by omega) (by omega) (by omega) (fun g hg => ?_), h2, ?_⟩
    · rw [h2] at hg
      have := l3 _ hg; omega
    · refine (((Turns.refl _ w).alloc _).trans (h3.mono (fun k hk => ?_))).trans (hT.mono (fun k hk => .inr (.inr (.inr (.inr (by omega))))))
      rcases hk with e | e | e | e | e
      · exact .inl e
      · exact .inr (.inl e)
      · exact .inr (.inr (.inl e))
      · exact .inr (.inr (.inr (.inl e)))
      · exact .inr (.inr (.inr (.inr (by omega))))
end Go.Proofs.YtgjnmpbahekbfaaDoor
