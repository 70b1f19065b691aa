/-
  SLOTS AS A PLAIN STATE: generations and what is taken; the heap holds the free ones.
-/
import Derived.Test.YtgjnmpbahekbfaaDoorSlL
import Derived.Test.YtgjnmpbahekbfaaDoorHeap
import Derived.Test.YtgjnmpbahekbfaaDoorSlP
import Derived.Test.YtgjnmpbahekbfaaDoorSlR
namespace Go.Proofs.YtgjnmpbahekbfaaDoor
open Go.RowKit

def FreeAt (gen : List Int) (tk : List Bool) (i : Nat) : Prop := tk[i]? = some false ∧ ∃ g, gen[i]? = some g ∧ g < 1000
structure GoodS (n : Nat) (gen : List Int) (tk : List Bool) (h : List Int) (un : Int) : Prop where
  gl : gen.length = n
  tl : tk.length = n
  nl : n ≤ 64
  hp : IsHeap h h.length
  nd : h.Nodup
  mem : ∀ x, x ∈ h ↔ ∃ i : Nat, x = i ∧ FreeAt gen tk i
  hl : (h.length : Int) + un ≤ n
  un : un = (tk.count true : Nat)
  g0 : ∀ (i : Nat) (g : Int), gen[i]? = some g → 0 ≤ g ∧ g ≤ 1000
theorem mem_at0 {h : List Int} {x : Int} (hx : x ∈ h) : ∃ k, k < h.length ∧ at0 h k = x := by
  obtain ⟨k, hk, e⟩ := List.getElem_of_mem hx
  exact ⟨k, hk, by unfold at0; rw [List.getElem?_eq_getElem hk, e]; rfl⟩
theorem at0_mem {h : List Int} (hn : h ≠ []) : at0 h 0 ∈ h := by
  match h, hn with
  | a :: r, _ => exact List.mem_cons_self
theorem GoodS.free {n : Nat} {gen : List Int} {tk : List Bool} {h : List Int} {un : Int} (G : GoodS n gen tk h un) {i : Nat} (hf : FreeAt gen tk i) : h ≠ [] := fun e => by
  have := (G.mem i).2 ⟨i, rfl, hf⟩
  rw [e] at this; cases this
theorem GoodS.none {n : Nat} {gen : List Int} {tk : List Bool} {h : List Int} {un : Int} (G : GoodS n gen tk h un) (hf : ∀ i, ¬ FreeAt gen tk i) : h = [] := by
  match h, G with
  | [], _ => rfl
  | a :: r, G => exact absurd ((G.mem a).1 List.mem_cons_self) (fun ⟨i, _, hi⟩ => hf i hi)
theorem GoodS.top {n : Nat} {gen : List Int} {tk : List Bool} {h : List Int} {un : Int} (G : GoodS n gen tk h un) {i : Nat} (hf : FreeAt gen tk i) (hl : ∀ j, j < i → ¬ FreeAt gen tk j) : at0 h 0 = i := by
  obtain ⟨k, e, hk⟩ := (G.mem _).1 (at0_mem (G.free hf))
  obtain ⟨m, hm, e'⟩ := mem_at0 ((G.mem i).2 ⟨i, rfl, hf⟩)
  have h1 := heap_least G.hp m hm
  rw [e, e'] at h1
  by_cases h2 : k < i
  · exact absurd hk (hl k h2)
  · rw [e]; omega
theorem count_up {tk : List Bool} {i : Nat} (h : tk[i]? = some false) : (tk.set i true).count true = tk.count true + 1 := by
  obtain ⟨hi, e⟩ := List.getElem?_eq_some_iff.1 h
  rw [List.count_set hi, e]; simp
theorem count_down {tk : List Bool} {i : Nat} (h : tk[i]? = some true) : (tk.set i false).count true + 1 = tk.count true := by
  obtain ⟨hi, e⟩ := List.getElem?_eq_some_iff.1 h
  have := List.count_pos_iff.2 (List.mem_of_getElem? h)
  rw [List.count_set hi, e]; simp; omega
theorem GoodS.take {n : Nat} {gen : List Int} {tk : List Bool} {h : List Int} {un : Int} (G : GoodS n gen tk h un) {i : Nat} {x : Int} (ht : tk[i]? = some false) (hg : gen[i]? = some x) (hx : x < 1000) (hl : ∀ j, j < i → ¬ FreeAt gen tk j) :
    GoodS n (gen.set i (x + 1)) (tk.set i true) ((popL h).take (h.length - 1)) (un + 1) := by
  have hf : FreeAt gen tk i := ⟨ht, x, hg, hx⟩
  have hn := G.free hf
  have hp := pop_parts hn
  have h0 := G.top hf hl
  have hlen : ((popL h).take (h.length - 1)).length + 1 = h.length := by
    have := hp.length_eq
    rwa [List.length_append] at this
  have hnd : ((popL h).take (h.length - 1) ++ [at0 h 0]).Nodup := hp.nodup_iff.2 G.nd
  rw [List.nodup_append] at hnd
  refine ⟨by rw [List.length_set]; exact G.gl, by rw [List.length_set]; exact G.tl, G.nl, ?_, hnd.1, fun y => ?_, ?_, ?_, fun j g hj => ?_⟩
  · have e : ((popL h).take (h.length - 1)).length = h.length - 1 := by omega
    rw [e]
    exact pop_heap G.hp hn
  · have hm : y ∈ h ↔ y ∈ (popL h).take (h.length - 1) ∨ y = at0 h 0 := by rw [← hp.mem_iff, List.mem_append, List.mem_singleton]
    rw [h0] at hm
    constructor
    · intro hy
      obtain ⟨j, rfl, hj⟩ := (G.mem y).1 (hm.2 (.inl hy))
      have hne : j ≠ i := by
        rintro rfl
        exact hnd.2.2 _ hy _ List.mem_cons_self h0.symm
      refine ⟨j, rfl, ?_⟩
      unfold FreeAt
      rw [List.getElem?_set_ne (Ne.symm hne), List.getElem?_set_ne (Ne.symm hne)]
      exact hj
    · rintro ⟨j, rfl, hj⟩
      have hne : j ≠ i := by
        rintro rfl
        have h1 := hj.1
        rw [List.getElem?_set] at h1
        simp at h1
      unfold FreeAt at hj
      rw [List.getElem?_set_ne (Ne.symm hne), List.getElem?_set_ne (Ne.symm hne)] at hj
      exact (hm.1 ((G.mem j).2 ⟨j, rfl, hj⟩)).resolve_right (by omega)
  · have := G.hl; omega
  · rw [count_up ht, G.un]; omega
  · rw [List.getElem?_set] at hj
    have := G.g0 i x hg
    split at hj
    · split at hj
      · cases hj; omega
      · cases hj
    · exact G.g0 j g hj
theorem GoodS.worn {n : Nat} {gen : List Int} {tk : List Bool} {h : List Int} {un : Int} (G : GoodS n gen tk h un) {i : Nat} {x : Int} (ht : tk[i]? = some true) (hg : gen[i]? = some x) (hx : 1000 ≤ x) :
    GoodS n gen (tk.set i false) h (un - 1) := by
  have hc := count_down ht
  refine ⟨G.gl, by rw [List.length_set]; exact G.tl, G.nl, G.hp, G.nd, fun y => ?_, by have := G.hl; omega, by rw [G.un]; omega, G.g0⟩
  rw [G.mem]
  constructor
  · rintro ⟨j, e, hj⟩
    have hne : j ≠ i := by
      rintro rfl
      rw [hj.1] at ht; cases ht
    refine ⟨j, e, ?_⟩
    unfold FreeAt
    rw [List.getElem?_set_ne (Ne.symm hne)]
    exact hj
  · rintro ⟨j, e, hj⟩
    have hne : j ≠ i := by
      rintro rfl
      obtain ⟨_, g, h2, h3⟩ := hj
      rw [hg] at h2; cases h2; omega
    unfold FreeAt at hj
    rw [List.getElem?_set_ne (Ne.symm hne)] at hj
    exact ⟨j, e, hj⟩
theorem GoodS.push {n : Nat} {gen : List Int} {tk : List Bool} {h : List Int} {un : Int} (G : GoodS n gen tk h un) {i : Nat} {x : Int} (ht : tk[i]? = some true) (hg : gen[i]? = some x) (hx : x < 1000) :
    GoodS n gen (tk.set i false) (upL (h ++ [(i : Int)]) h.length) (un - 1) := by
  have hc := count_down ht
  have hp := push_perm h i
  have hlen : (upL (h ++ [(i : Int)]) h.length).length = h.length + 1 := by rw [upL_len, List.length_append]; rfl
  have hi : i < tk.length := (List.getElem?_eq_some_iff.1 ht).1
  refine ⟨G.gl, by rw [List.length_set]; exact G.tl, G.nl, by rw [hlen]; exact push_heap G.hp, ?_, fun y => ?_, by rw [hlen]; have := G.hl; omega, by rw [G.un]; omega, G.g0⟩
  · rw [hp.nodup_iff, List.nodup_append]
    refine ⟨G.nd, by simp, ?_⟩
    rintro a ha b hb rfl
    rw [List.mem_singleton] at hb
    subst hb
    obtain ⟨j, e, hj⟩ := (G.mem _).1 ha
    have : j = i := by omega
    subst this
    rw [hj.1] at ht; cases ht
  · rw [hp.mem_iff, List.mem_append, List.mem_singleton, G.mem]
    constructor
    · rintro (⟨j, e, hj⟩ | e)
      · have hne : j ≠ i := by
          rintro rfl
          rw [hj.1] at ht; cases ht
        refine ⟨j, e, ?_⟩
        unfold FreeAt
        rw [List.getElem?_set_ne (Ne.symm hne)]
        exact hj
      · exact ⟨i, e, by rw [List.getElem?_set]; simp [hi], x, hg, hx⟩
    · rintro ⟨j, e, hj⟩
      by_cases hne : j = i
      · subst hne; exact .inr e
      · unfold FreeAt at hj
        rw [List.getElem?_set_ne (Ne.symm hne)] at hj
        exact .inl ⟨j, e, hj⟩
theorem heapN_heap : ∀ k, IsHeap (heapN k) k ∧ (heapN k).Nodup ∧ ∀ x, x ∈ heapN k ↔ ∃ i : Nat, x = i ∧ i < k
  | 0 => ⟨fun i h0 hi => absurd hi (by omega), List.nodup_nil, fun x => Iff.intro (fun h => by cases h) (fun ⟨i, _, h⟩ => absurd h (by omega))⟩
  | k + 1 => by
    obtain ⟨h1, h2, h3⟩ := heapN_heap k
    have e : heapN (k + 1) = upL (heapN k ++ [(k : Int)]) (heapN k).length := rfl
    have hl := heapN_len k
    have hp := push_perm (heapN k) k
    rw [e]
    refine ⟨?_, ?_, fun x => ?_⟩
    · have := push_heap (h := heapN k) (x := k) (by rw [hl]; exact h1)
      rwa [show (heapN k).length + 1 = k + 1 by omega] at this
    · rw [hp.nodup_iff, List.nodup_append]
      refine ⟨h2, by simp, ?_⟩
      rintro a ha b hb rfl
      rw [List.mem_singleton] at hb
      subst hb
      obtain ⟨j, e, hj⟩ := (h3 _).1 ha
      omega
    · rw [hp.mem_iff, List.mem_append, List.mem_singleton, h3]
      constructor
      · rintro (⟨j, e, hj⟩ | e)
        · exact ⟨j, e, by omega⟩
        · exact ⟨k, e, by omega⟩
      · rintro ⟨j, ej, hj⟩
        by_cases h : j = k
        · exact .inr (by rw [ej, h])
        · exact .inl ⟨j, ej, by omega⟩
theorem GoodS.new (n : Nat) (hn : n ≤ 64) : GoodS n (List.replicate n 0) (List.replicate n false) (heapN n) 0 := by
  obtain ⟨h1, h2, h3⟩ := heapN_heap n
  refine ⟨List.length_replicate, List.length_replicate, hn, by rw [heapN_len]; exact h1, h2, fun x => ?_, by rw [heapN_len]; omega, by rw [List.count_replicate]; simp, fun i g h => ?_⟩
  · rw [h3]
    constructor
    · rintro ⟨i, e, hi⟩
      exact ⟨i, e, by rw [List.getElem?_replicate, if_pos hi], 0, by rw [List.getElem?_replicate, if_pos hi], by omega⟩
    · rintro ⟨i, e, hi, -⟩
      refine ⟨i, e, ?_⟩
      have := (List.getElem?_eq_some_iff.1 hi).1
      rwa [List.length_replicate] at this
  · rw [List.getElem?_replicate] at h
    split at h
    · cases h; omega
    · cases h
/-- slots as they lie, of a plain state -/
def Well (base : Nat) (w : World) (sb gb tb : Nat) (v : Value) (n : Nat) (gen : List Int) (tk : List Bool) : Prop := ∃ h un, SlotsAt base w sb gb tb v gen tk h un ∧ GoodS n gen tk h un
theorem Well.keepT {base : Nat} {w w' : World} {sb gb tb : Nat} {v : Value} {n : Nat} {gen : List Int} {tk : List Bool} {T : Nat → Prop} (H : Well base w sb gb tb v n gen tk) (k : Turns T w w') (h0 : ¬ T sb) (h1 : ¬ T gb) (h2 : ¬ T tb) (h3 : ∀ g, v.ownBlock = some g → ¬ T g) : Well base w' sb gb tb v n gen tk :=
  have ⟨h, un, H, G⟩ := H; ⟨h, un, H.keepT k h0 h1 h2 h3, G⟩
theorem Well.alloc {base : Nat} {w : World} {sb gb tb : Nat} {v : Value} {n : Nat} {gen : List Int} {tk : List Bool} (H : Well base w sb gb tb v n gen tk) (o : Obj) : Well base (w.alloc o) sb gb tb v n gen tk :=
  have ⟨h, un, H, G⟩ := H; ⟨h, un, H.alloc o, G⟩
theorem Well.after {base : Nat} {w w' : World} {sb gb tb : Nat} {v : Value} {n : Nat} {gen : List Int} {tk : List Bool} (H : Well base w sb gb tb v n gen tk) (hb : Below w.heap.size w w') : Well base w' sb gb tb v n gen tk :=
  H.keepT (T := fun _ => False) (Turns.of_below hb) id id id (fun _ _ => id)
theorem Well.lts {base : Nat} {w : World} {sb gb tb : Nat} {v : Value} {n : Nat} {gen : List Int} {tk : List Bool} (H : Well base w sb gb tb v n gen tk) : sb < w.heap.size ∧ gb < w.heap.size ∧ tb < w.heap.size ∧ ∀ g, v.ownBlock = some g → g < w.heap.size :=
  have ⟨_, _, H, _⟩ := H; H.lts
theorem Well.own {base : Nat} {w : World} {sb gb tb : Nat} {v : Value} {n : Nat} {gen : List Int} {tk : List Bool} (H : Well base w sb gb tb v n gen tk) : base ≤ w.heap.size ∧ gb < base ∧ ∀ g, v.ownBlock = some g → base ≤ g :=
  have ⟨_, _, H, _⟩ := H; ⟨H.bl, H.gl, fun _ hg => (H.h.own_lt hg).1⟩
theorem Well.down {base m : Nat} {w0 w w' : World} {sb gb tb : Nat} {v : Value} {n : Nat} {gen : List Int} {tk : List Bool} (H : Well base w sb gb tb v n gen tk) (hT : Turns (OwnS sb gb tb v w.heap.size) w w') (hb : Below m w0 w) (hm : m ≤ sb ∧ m ≤ gb ∧ m ≤ tb ∧ m ≤ base) : Below m w0 w' := by
  obtain ⟨h0, -, h1⟩ := H.own
  refine hb.trans (hT.down (by omega) ?_)
  rintro k (e | e | e | e | e)
  · omega
  · omega
  · omega
  · have := h1 _ e; omega
  · omega
/-- what is neither slots', nor numbers, nor yes-noes -/
theorem Well.other {base : Nat} {w w' : World} {sb gb tb : Nat} {v : Value} {n : Nat} {gen : List Int} {tk : List Bool} (H : Well base w sb gb tb v n gen tk) (hT : Turns (OwnS sb gb tb v w.heap.size) w w') {b t : Nat} {cs : Array Value} (hb : Blk w b t cs) (ht : t ≠ 57 ∧ t ≠ 3 ∧ t ≠ 4) : Blk w' b t cs := by
  obtain ⟨h, un, H, -⟩ := H
  refine hb.keepT hT ?_
  have hl := hb.lt
  rintro (e | e | e | e | e)
  · exact blk_apart hb H.s ht.1 e
  · exact blk_apart hb H.g ht.2.1 e
  · exact blk_apart hb H.t ht.2.2 e
  · exact H.h.own_ne hb ht.2.1 e rfl
  · omega
/-- what is elder than the slots -/
theorem Well.elder {base m : Nat} {w w' : World} {sb gb tb : Nat} {v : Value} {n : Nat} {gen : List Int} {tk : List Bool} (H : Well base w sb gb tb v n gen tk) (hT : Turns (OwnS sb gb tb v w.heap.size) w w') (hm : m ≤ sb ∧ m ≤ gb ∧ m ≤ tb ∧ m ≤ base) {b t : Nat} {cs : Array Value} (hb : Blk w b t cs) (hl : b < m) : Blk w' b t cs := by
  obtain ⟨h0, -, h1⟩ := H.own
  refine hb.keepT hT ?_
  rintro (e | e | e | e | e)
  · omega
  · omega
  · omega
  · have := h1 _ e; omega
  · omega
theorem SentS.keepW {W W' : World} {ea eb : Addr} {base sb gb tb : Nat} {v : Value} {n : Nat} {gen : List Int} {tk : List Bool} (E : SentS W ea eb) (H : Well base W sb gb tb v n gen tk) (hA : Above ea eb base sb gb tb) (k : Turns (OwnS sb gb tb v W.heap.size) W W') : SentS W' ea eb :=
  have ⟨_, _, H, _⟩ := H; E.keepS H hA H.bl k
/-- Take: the least free -/
theorem Take_w (base sb gb tb : Nat) (v : Value) (n : Nat) (gen : List Int) (tk : List Bool) (i : Nat) (x : Int) (ea eb : Addr) (w : World) (H : Well base w sb gb tb v n gen tk) (he : SentS w ea eb) (hA : Above ea eb base sb gb tb)
    (ht : tk[i]? = some false) (hg : gen[i]? = some x) (hx : x < 1000) (hl : ∀ j, j < i → ¬ FreeAt gen tk j) :
    Calls Tryd.prog 11 #[.pointer (some ⟨sb, 0, none⟩)] w fun e w' => e = .returned (.tuple #[.agg #[.int .i64 i, .int .i64 (x + 1)], .int .i64 0]) ∧ ∃ v', Well base w' sb gb tb v' n (gen.set i (x + 1)) (tk.set i true) ∧ v'.ownBlock = v.ownBlock ∧ Turns (OwnS sb gb tb v w.heap.size) w w' := by
  obtain ⟨h, un, H, G⟩ := H
  have hf : FreeAt gen tk i := ⟨ht, x, hg, hx⟩
  have h0 := G.free hf
  have hn := G.nl
  have hu := G.un
  have hhl := G.hl
  have hgl := G.gl
  have hc := List.count_le_length (a := true) (l := tk)
  rw [G.tl] at hc
  refine (Take_any base sb gb tb i v gen tk h un x false ea eb w H he hA h0 (by omega) (by rw [pop_last h0, G.top hf hl]) hg ht (by omega) ⟨(G.g0 i x hg).1, hx⟩ ⟨by omega, by omega⟩).mono ?_
  rintro e w' ⟨rfl, v', h1, h2, h3⟩
  exact ⟨rfl, v', ⟨_, _, h1, G.take ht hg hx hl⟩, h2, h3⟩
/-- Take: none is free -/
theorem Take_w0 (base sb gb tb : Nat) (v : Value) (n : Nat) (gen : List Int) (tk : List Bool) (ea eb : Addr) (w : World) (H : Well base w sb gb tb v n gen tk) (he : SentS w ea eb) (hf : ∀ i, ¬ FreeAt gen tk i) :
    Calls Tryd.prog 11 #[.pointer (some ⟨sb, 0, none⟩)] w fun e w' => e = .returned (.tuple #[.agg #[.int .i64 0, .int .i64 0], .int .i64 60]) ∧ Below w.heap.size w w' := by
  obtain ⟨h, un, H, G⟩ := H
  have := G.none hf
  subst this
  exact Take_full base sb gb tb v gen tk un ea eb w H he
/-- Give: a live one -/
theorem Give_w (base sb gb tb : Nat) (v : Value) (n : Nat) (gen : List Int) (tk : List Bool) (i : Nat) (g : Int) (ea eb : Addr) (w : World) (H : Well base w sb gb tb v n gen tk) (he : SentS w ea eb) (hA : Above ea eb base sb gb tb)
    (ht : tk[i]? = some true) (hg : gen[i]? = some g) :
    Calls Tryd.prog 12 #[.pointer (some ⟨sb, 0, none⟩), .agg #[.int .i64 i, .int .i64 g]] w fun e w' => e = .returned (.int .i64 0) ∧ ∃ v', Well base w' sb gb tb v' n gen (tk.set i false) ∧ (∀ g', v'.ownBlock = some g' → v.ownBlock = some g' ∨ w.heap.size ≤ g') ∧ Turns (OwnS sb gb tb v w.heap.size) w w' := by
  obtain ⟨h, un, H, G⟩ := H
  have hn := G.nl
  have hu := G.un
  have hhl := G.hl
  have hgl := G.gl
  have hp := count_down ht
  have hc := List.count_le_length (a := true) (l := tk)
  rw [G.tl] at hc
  by_cases hx : g < 1000
  · refine (Give_push base sb gb tb i v gen tk h un g ea eb w H he hA (by omega) ht hg ⟨by omega, by omega⟩ hx (by omega)).mono ?_
    rintro e w' ⟨rfl, v', h1, ⟨g', h2, h3⟩, h4⟩
    exact ⟨rfl, v', ⟨_, _, h1, G.push ht hg hx⟩, fun k hk => by rw [h2] at hk; cases hk; exact h3, h4⟩
  · refine (Give_worn base sb gb tb i v gen tk h un g ea eb w H he hA (by omega) ht hg ⟨by omega, by omega⟩ (by omega)).mono ?_
    rintro e w' ⟨rfl, h1, h4⟩
    exact ⟨rfl, v, ⟨_, _, h1, G.worn ht hg (by omega)⟩, fun k hk => .inl hk, h4⟩
/-- Give: one that isn't live -/
theorem Give_w0 (base sb gb tb : Nat) (v : Value) (n : Nat) (gen : List Int) (tk : List Bool) (x : Hd) (ea eb : Addr) (w : World) (H : Well base w sb gb tb v n gen tk) (he : SentS w ea eb) (hn : x ∉ liveTo gen tk n) :
    Calls Tryd.prog 12 #[.pointer (some ⟨sb, 0, none⟩), .agg #[.int .i64 x.slot, .int .i64 x.gen]] w fun e w' => e = .returned (.int .i64 61) ∧ Below w.heap.size w w' := by
  obtain ⟨h, un, H, G⟩ := H
  have hn := G.nl
  exact Give_stale base sb gb tb v gen tk h un x ea eb w H (by rw [G.gl]; omega) he (by rw [G.gl]; assumption)
theorem Used_w (base sb gb tb : Nat) (v : Value) (n : Nat) (gen : List Int) (tk : List Bool) (w : World) (H : Well base w sb gb tb v n gen tk) :
    Calls Tryd.prog 13 #[.pointer (some ⟨sb, 0, none⟩)] w fun e w' => e = .returned (.int .i64 (tk.count true : Nat)) ∧ w = w' := by
  obtain ⟨h, un, H, G⟩ := H
  rw [← G.un]
  exact Used_any sb v _ _ un w H.s
theorem Live_w (base sb gb tb : Nat) (v : Value) (n : Nat) (gen : List Int) (tk : List Bool) (x : Hd) (w : World) (H : Well base w sb gb tb v n gen tk) :
    Calls Tryd.prog 17 #[.pointer (some ⟨sb, 0, none⟩), .agg #[.int .i64 x.slot, .int .i64 x.gen]] w fun e w' => e = .returned (.bool (decide (x ∈ liveTo gen tk n))) ∧ Below w.heap.size w w' := by
  obtain ⟨h, un, H, G⟩ := H
  have hn := G.nl
  have := Live_any base sb gb tb v gen tk h un x w H (by rw [G.gl]; omega)
  rwa [G.gl] at this
/-- New -/
theorem New_w (n : Nat) (w : World) (hn1 : 1 ≤ n) (hn2 : n ≤ 64) :
    Calls Tryd.prog 10 #[.int .i64 n] w fun e w' => ∃ sb gb tb v, e = .returned (.tuple #[.pointer (some ⟨sb, 0, none⟩), .int .i64 0]) ∧ Well (w.heap.size + 3) w' sb gb tb v n (List.replicate n 0) (List.replicate n false) ∧ Below w.heap.size w w' ∧ w.heap.size ≤ sb ∧ w.heap.size ≤ gb ∧ w.heap.size ≤ tb := by
  refine (New_any n w hn1 hn2).mono ?_
  rintro e w' ⟨sb, gb, tb, v, rfl, h1, h2⟩
  exact ⟨sb, gb, tb, v, rfl, ⟨_, _, h1, GoodS.new n hn2⟩, h2⟩
end Go.Proofs.YtgjnmpbahekbfaaDoor
