/-
  PACKAGE slots: Live; Give where the handle is not live.
-/
import Derived.Test.YtgjnmpbahekbfaaDoorSlM
namespace Go.Proofs.YtgjnmpbahekbfaaDoor
open Go.RowKit

set_option maxRecDepth 100000 in
set_option maxHeartbeats 4000000 in
theorem Live_any (base sb gb tb : Nat) (v : Value) (gen : List Int) (tk : List Bool) (h : List Int) (un : Int) (x : Hd) (w : World) (H : SlotsAt base w sb gb tb v gen tk h un) (hle : gen.length ≤ 900) :
    Calls Tryd.prog 17 #[.pointer (some ⟨sb, 0, none⟩), .agg #[.int .i64 x.slot, .int .i64 x.gen]] w fun e w' => e = .returned (.bool (decide (x ∈ liveTo gen tk gen.length))) ∧ Below w.heap.size w w' := by
  have HH := Lib.hid H
  have HLE := Lib.hid hle
  clear H hle
  go_enter Tryd.func17, Tryd.ntmps17
  go_wp2_with fail
  refine (isLive_any sb gb tb (w.heap.size + 1) v gen tk un x _ ((HH.out.s.alloc _).alloc _) ((HH.out.g.alloc _).alloc _) ((HH.out.t.alloc _).alloc _) HH.out.tl HLE.out (Blk.new' (w := w.alloc _) (by simp))).mono ?_
  rintro e w1 ⟨rfl, hB⟩
  have HB := Lib.hid (below_call (w := w) (below_alloc (below_alloc (Below.refl _ _) _) _) hB)
  clear hB
  go_wp2_with fail
  go_ret
  exact ⟨rfl, HB.out⟩
set_option maxRecDepth 100000 in
set_option maxHeartbeats 4000000 in
theorem give_stale (base sb gb tb hb : Nat) (v : Value) (gen : List Int) (tk : List Bool) (h : List Int) (un : Int) (x : Hd) (ea eb : Addr) (w : World) (H : SlotsAt base w sb gb tb v gen tk h un) (hle : gen.length ≤ 900) (hx : Blk w hb 28 #[.int .i64 x.slot, .int .i64 x.gen]) (he : SentS w ea eb) (hn : x ∉ liveTo gen tk gen.length) :
    Calls Tryd.prog 25 #[.pointer (some ⟨sb, 0, none⟩), .slice (some ⟨hb, 0, none⟩) 1 1] w fun e w' => e = .returned (errE eb) ∧ Below w.heap.size w w' := by
  have HH := Lib.hid H
  have HLE := Lib.hid hle
  have HX := Lib.hid hx
  have HE := Lib.hid he
  have HN := Lib.hid (decide_eq_false hn)
  clear H hle hx he hn
  go_enter Tryd.func25, Tryd.ntmps25
  go_wp2_with fail
  refine (isLive_any sb gb tb hb v gen tk un x _ HH.out.s HH.out.g HH.out.t HH.out.tl HLE.out HX.out).mono ?_
  rintro e w1 ⟨rfl, hB⟩
  rw [HN.out]
  have HB := Lib.hid hB
  have g1 := (HE.out.e1.after hB).at_ (i := 0) (v := errE eb) rfl
  clear hB
  go_wp2_with fail
  go_ret
  exact ⟨rfl, HB.out⟩
set_option maxRecDepth 100000 in
set_option maxHeartbeats 4000000 in
theorem Give_core (sb : Nat) (n : Int) (ev : Value) (R : World → Prop) (x : Hd) (w : World)
    (hg : Calls Tryd.prog 25 #[.pointer (some ⟨sb, 0, none⟩), .slice (some ⟨w.heap.size + 1, 0, none⟩) 1 1] ((w.alloc (.cells #[.int .i64 x.slot, .int .i64 x.gen] 28)).alloc (.cells #[.int .i64 x.slot, .int .i64 x.gen] 28)) fun e w1 => e = .returned ev ∧ R w1)
    (hn : ∀ w1, R w1 → Calls Tryd.prog 24 #[ev] w1 fun e w' => e = .returned (.int .i64 n) ∧ w1 = w') :
    Calls Tryd.prog 12 #[.pointer (some ⟨sb, 0, none⟩), .agg #[.int .i64 x.slot, .int .i64 x.gen]] w fun e w' => e = .returned (.int .i64 n) ∧ R w' := by
  have HG := Lib.hid hg
  have HN := Lib.hid hn
  clear hg hn
  go_enter Tryd.func12, Tryd.ntmps12
  go_wp2_with fail
  refine HG.out.mono ?_
  rintro e w1 ⟨rfl, hr⟩
  have HR := Lib.hid hr
  clear hr
  go_wp2_with fail
  refine (HN.out w1 HR.out).mono ?_
  rintro e w2 ⟨rfl, rfl⟩
  go_wp2_with fail
  go_ret
  exact ⟨rfl, HR.out⟩
theorem Give_stale (base sb gb tb : Nat) (v : Value) (gen : List Int) (tk : List Bool) (h : List Int) (un : Int) (x : Hd) (ea eb : Addr) (w : World) (H : SlotsAt base w sb gb tb v gen tk h un) (hle : gen.length ≤ 900) (he : SentS w ea eb) (hn : x ∉ liveTo gen tk gen.length) :
    Calls Tryd.prog 12 #[.pointer (some ⟨sb, 0, none⟩), .agg #[.int .i64 x.slot, .int .i64 x.gen]] w fun e w' => e = .returned (.int .i64 61) ∧ Below w.heap.size w w' := by
  have hb2 : Below w.heap.size w ((w.alloc (.cells #[.int .i64 x.slot, .int .i64 x.gen] 28)).alloc (.cells #[.int .i64 x.slot, .int .i64 x.gen] 28)) := below_alloc (below_alloc (Below.refl _ _) _) _
  have keep : ∀ W, Below w.heap.size w W → SentS W ea eb := fun W hb => he.keepT (T := fun _ => False) (Turns.of_below hb) he.lt (fun _ _ => id)
  refine (Give_core sb 61 (errE eb) (fun w1 => Below w.heap.size w w1) x w ?_ (fun w1 hr => told_stale ea eb w1 (keep _ hr)))
  refine (give_stale base sb gb tb (w.heap.size + 1) v gen tk h un x ea eb _ ((H.alloc _).alloc _) hle (Blk.new' (w := w.alloc _) (by simp)) (keep _ hb2) hn).mono ?_
  rintro e w1 ⟨rfl, hB⟩
  exact ⟨rfl, below_call hb2 hB⟩
end Go.Proofs.YtgjnmpbahekbfaaDoor
