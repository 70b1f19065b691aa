/-
  PACKAGE slots: Give of a live handle.
-/
import Derived.Test.YtgjnmpbahekbfaaDoorSlO
namespace Go.Proofs.YtgjnmpbahekbfaaDoor
open Go.RowKit

abbrev boxH (x : Hd) (w : World) : World := (w.alloc (.cells #[.int .i64 x.slot, .int .i64 x.gen] 28)).alloc (.cells #[.int .i64 x.slot, .int .i64 x.gen] 28)
theorem boxH_size (x : Hd) (w : World) : (boxH x w).heap.size = w.heap.size + 2 := by
  show ((w.alloc _).alloc _).heap.size = _
  simp
theorem boxH_turns (x : Hd) (w : World) (T : Nat → Prop) : Turns T w (boxH x w) := ((Turns.refl _ w).alloc _).alloc _
theorem ownS_mono {sb gb tb : Nat} {v : Value} {m n : Nat} (h : m ≤ n) : ∀ k, OwnS sb gb tb v n k → OwnS sb gb tb v m k := by
  rintro k (e | e | e | e | e)
  · exact .inl e
  · exact .inr (.inl e)
  · exact .inr (.inr (.inl e))
  · exact .inr (.inr (.inr (.inl e)))
  · exact .inr (.inr (.inr (.inr (by omega))))
theorem Give_worn (base sb gb tb i : Nat) (v : Value) (gen : List Int) (tk : List Bool) (h : List Int) (un g : Int) (ea eb : Addr) (w : World) (H : SlotsAt base w sb gb tb v gen tk h un) (he : SentS w ea eb) (hA : Above ea eb base sb gb tb) (hle : gen.length ≤ 900)
    (hti : tk[i]? = some true) (hgi : gen[i]? = some g) (hun : 0 < un ∧ un < 1000) (hg : 1000 ≤ g) :
    Calls Tryd.prog 12 #[.pointer (some ⟨sb, 0, none⟩), .agg #[.int .i64 i, .int .i64 g]] w fun e w' => e = .returned (.int .i64 0) ∧ SlotsAt base w' sb gb tb v gen (tk.set i false) h (un - 1) ∧ Turns (OwnS sb gb tb v w.heap.size) w w' := by
  have hz := boxH_size ⟨i, g⟩ w
  have Hb : SlotsAt base (boxH ⟨i, g⟩ w) sb gb tb v gen tk h un := (H.alloc _).alloc _
  have hb : SentS (boxH ⟨i, g⟩ w) ea eb := he.keepT (T := fun _ => False) (boxH_turns _ w _) he.lt (fun _ _ => id)
  refine (Give_core sb 0 .nilIface (fun w1 => SlotsAt base w1 sb gb tb v gen (tk.set i false) h (un - 1) ∧ Turns (OwnS sb gb tb v (w.heap.size + 2)) (boxH ⟨i, g⟩ w) w1) ⟨i, g⟩ w ?_ ?_).mono ?_
  · have := give_worn base sb gb tb (w.heap.size + 1) i v gen tk h un g _ Hb hle (Blk.new' (w := w.alloc _) (by simp)) hti hgi hun hg
    rwa [hz] at this
  · rintro w1 ⟨h1, h2⟩
    exact told_nil ea eb w1 (hb.keepS Hb hA (by have := H.bl; omega) h2)
  · rintro e w1 ⟨rfl, h1, h2⟩
    exact ⟨rfl, h1, (boxH_turns _ w _).trans (h2.mono (ownS_mono (by omega)))⟩
theorem Give_push (base sb gb tb i : Nat) (v : Value) (gen : List Int) (tk : List Bool) (h : List Int) (un g : Int) (ea eb : Addr) (w : World) (H : SlotsAt base w sb gb tb v gen tk h un) (he : SentS w ea eb) (hA : Above ea eb base sb gb tb) (hle : gen.length ≤ 900)
    (hti : tk[i]? = some true) (hgi : gen[i]? = some g) (hun : 0 < un ∧ un < 1000) (hg : g < 1000) (hhl : h.length ≤ 900) :
    Calls Tryd.prog 12 #[.pointer (some ⟨sb, 0, none⟩), .agg #[.int .i64 i, .int .i64 g]] w fun e w' => e = .returned (.int .i64 0) ∧ ∃ v', SlotsAt base w' sb gb tb v' gen (tk.set i false) (upL (h ++ [(i : Int)]) h.length) (un - 1) ∧ (∃ g', v'.ownBlock = some g' ∧ (v.ownBlock = some g' ∨ w.heap.size ≤ g')) ∧ Turns (OwnS sb gb tb v w.heap.size) w w' := by
  have hz := boxH_size ⟨i, g⟩ w
  have Hb : SlotsAt base (boxH ⟨i, g⟩ w) sb gb tb v gen tk h un := (H.alloc _).alloc _
  have hb : SentS (boxH ⟨i, g⟩ w) ea eb := he.keepT (T := fun _ => False) (boxH_turns _ w _) he.lt (fun _ _ => id)
  refine (Give_core sb 0 .nilIface (fun w1 => (∃ v', SlotsAt base w1 sb gb tb v' gen (tk.set i false) (upL (h ++ [(i : Int)]) h.length) (un - 1) ∧ (∃ g', v'.ownBlock = some g' ∧ (v.ownBlock = some g' ∨ w.heap.size + 2 ≤ g'))) ∧ Turns (OwnS sb gb tb v (w.heap.size + 2)) (boxH ⟨i, g⟩ w) w1) ⟨i, g⟩ w ?_ ?_).mono ?_
  · refine (give_push base sb gb tb (w.heap.size + 1) i v gen tk h un g _ Hb hle (Blk.new' (w := w.alloc _) (by simp)) hti hgi hun hg hhl).mono ?_
    rintro e w1 ⟨rfl, v', h1, h2, h3⟩
    rw [hz] at h2 h3
    exact ⟨rfl, ⟨v', h1, h2⟩, h3⟩
  · rintro w1 ⟨_, h2⟩
    exact told_nil ea eb w1 (hb.keepS Hb hA (by have := H.bl; omega) h2)
  · rintro e w1 ⟨rfl, ⟨v', h1, g', h3, h4⟩, h2⟩
    exact ⟨rfl, v', h1, ⟨g', h3, h4.imp id (fun _ => by omega)⟩, (boxH_turns _ w _).trans (h2.mono (ownS_mono (by omega)))⟩
end Go.Proofs.YtgjnmpbahekbfaaDoor
