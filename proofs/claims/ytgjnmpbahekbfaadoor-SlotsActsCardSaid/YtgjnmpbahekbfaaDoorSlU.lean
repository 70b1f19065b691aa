/-
  STATEMENTS OF LAYER 6: shown.
-/
import Derived.Test.YtgjnmpbahekbfaaDoorSlT
namespace Go.Proofs.YtgjnmpbahekbfaaDoor
open Go.RowKit

theorem SentS.up {w W : World} {ea eb : Addr} (he : SentS w ea eb) (hb : Below w.heap.size w W) : SentS W ea eb := he.keepT (T := fun _ => False) (Turns.of_below hb) he.lt (fun _ _ => id)
theorem SlotsAt.after {base : Nat} {w w' : World} {sb gb tb : Nat} {v : Value} {gen : List Int} {tk : List Bool} {h : List Int} {un : Int} (H : SlotsAt base w sb gb tb v gen tk h un) (hb : Below w.heap.size w w') : SlotsAt base w' sb gb tb v gen tk h un := H.keepT (T := fun _ => False) (Turns.of_below hb) id id id (fun _ _ => id)
theorem SlotsAt.down {base m : Nat} {w0 w w' : World} {sb gb tb : Nat} {v : Value} {gen : List Int} {tk : List Bool} {h : List Int} {un : Int} (H : SlotsAt base w sb gb tb v gen tk h un) (hT : Turns (OwnS sb gb tb v w.heap.size) w w') (hb : Below m w0 w) (hm : m ≤ sb ∧ m ≤ gb ∧ m ≤ tb ∧ m ≤ base) : Below m w0 w' := by
  have h0 := H.bl
  refine hb.trans (hT.down (by omega) ?_)
  rintro k (e | e | e | e | e)
  · omega
  · omega
  · omega
  · have := (H.h.own_lt e).1; omega
  · omega
theorem SlotsAt.other {base : Nat} {w w' : World} {sb gb tb : Nat} {v : Value} {gen : List Int} {tk : List Bool} {h : List Int} {un : Int} (H : SlotsAt base w sb gb tb v gen tk h un) (hT : Turns (OwnS sb gb tb v w.heap.size) w w') {b : Nat} {cs : Array Value} (hb : Blk w b 28 cs) : Blk w' b 28 cs := by
  refine hb.keepT hT ?_
  have hl := hb.lt
  rintro (e | e | e | e | e)
  · exact blk_apart hb H.s (by decide) e
  · exact blk_apart hb H.g (by decide) e
  · exact blk_apart hb H.t (by decide) e
  · exact H.h.own_ne hb (by decide) e rfl
  · omega
set_option maxRecDepth 100000 in
set_option maxHeartbeats 8000000 in
theorem shown_any (ea eb : Addr) (w : World) (he : SentS w ea eb) :
    Calls Tryd.prog 9 #[] w fun e w' => e = .returned (.bool true) ∧ Below w.heap.size w w' := by
  have HE := Lib.hid he
  clear he
  go_enter Tryd.func9, Tryd.ntmps9
  go_wp2_with fail
  refine (New_any 2 w (by decide) (by decide)).mono ?_
  rintro e w1 ⟨sb, gb, tb, v, rfl, hS, hB, m1, m2, m3⟩
  rw [heapN2] at hS
  have HM : Hid (w.heap.size ≤ sb ∧ w.heap.size ≤ gb ∧ w.heap.size ≤ tb ∧ w.heap.size ≤ w.heap.size + 3) := Lib.hid ⟨m1, m2, m3, by omega⟩
  have HA : Hid (Above ea eb (w.heap.size + 3) sb gb tb) := Lib.hid ⟨w.heap.size, HE.out.lt, HM.out⟩
  have S := Lib.hid hS
  have B := Lib.hid hB
  clear hS hB m1 m2 m3
  go_wp2_with fail
  refine (Take_any (w.heap.size + 3) sb gb tb 0 v [0, 0] [false, false] [0, 1] 0 0 false ea eb _ S.out (HE.out.up B.out) HA.out (by decide) (by decide) (by rw [pop01]; rfl) rfl rfl (by decide) (by decide) (by decide)).mono ?_
  rintro e w2 ⟨rfl, v2, hS, -, hT⟩
  rw [pop01] at hS
  replace B := Lib.hid (S.out.down hT B.out HM.out)
  replace S := Lib.hid hS
  clear hS hT
  go_wp2_with fail
  refine (Take_any (w.heap.size + 3) sb gb tb 1 v2 [1, 0] [true, false] [1] 1 0 false ea eb _ (S.out.alloc (.cells #[.int .i64 0, .int .i64 1] 28)) (HE.out.up (below_alloc B.out (.cells #[.int .i64 0, .int .i64 1] 28))) HA.out (by decide) (by decide) (by rw [pop1]; rfl) rfl rfl (by decide) (by decide) (by decide)).mono ?_
  rintro e w3 ⟨rfl, v3, hS, -, hT⟩
  rw [pop1] at hS
  have A0 := Lib.hid ((S.out.alloc (.cells #[.int .i64 0, .int .i64 1] 28)).other hT (Blk.new' (t := 28) (cs := #[.int .i64 0, .int .i64 1]) rfl))
  replace B := Lib.hid ((S.out.alloc (.cells #[.int .i64 0, .int .i64 1] 28)).down hT (below_alloc B.out (.cells #[.int .i64 0, .int .i64 1] 28)) HM.out)
  replace S := Lib.hid hS
  clear hS hT
  go_wp2_with fail
  refine (Take_full (w.heap.size + 3) sb gb tb v3 [1, 1] [true, true] 2 ea eb _ (S.out.alloc (.cells #[.int .i64 1, .int .i64 1] 28)) (HE.out.up (below_alloc B.out (.cells #[.int .i64 1, .int .i64 1] 28)))).mono ?_
  rintro e w4 ⟨rfl, hB⟩
  replace A0 := Lib.hid ((A0.out.alloc (.cells #[.int .i64 1, .int .i64 1] 28)).after hB)
  have A1 := Lib.hid ((Blk.new' (t := 28) (cs := #[.int .i64 1, .int .i64 1]) rfl).after hB)
  replace S := Lib.hid ((S.out.alloc (.cells #[.int .i64 1, .int .i64 1] 28)).after hB)
  replace B := Lib.hid (below_call (w := w) (below_alloc B.out (.cells #[.int .i64 1, .int .i64 1] 28)) hB)
  clear hB
  have p0 := (A0.out.alloc (.cells #[.int .i64 0, .int .i64 0] 28)).at_ (i := 0) (v := .int .i64 0) rfl
  have p1 := (A0.out.alloc (.cells #[.int .i64 0, .int .i64 0] 28)).at_ (i := 1) (v := .int .i64 1) rfl
  go_wp2_with fail
  refine (Give_push (w.heap.size + 3) sb gb tb 0 v3 [1, 1] [true, true] [] 2 1 ea eb _ (S.out.alloc (.cells #[.int .i64 0, .int .i64 0] 28)) (HE.out.up (below_alloc B.out (.cells #[.int .i64 0, .int .i64 0] 28))) HA.out (by decide) rfl rfl (by decide) (by decide) (by decide)).mono ?_
  rintro e w5 ⟨rfl, v5, hS, -, hT⟩
  rw [up0] at hS
  clear p0 p1
  replace A0 := Lib.hid ((S.out.alloc (.cells #[.int .i64 0, .int .i64 0] 28)).other hT (A0.out.alloc (.cells #[.int .i64 0, .int .i64 0] 28)))
  replace A1 := Lib.hid ((S.out.alloc (.cells #[.int .i64 0, .int .i64 0] 28)).other hT (A1.out.alloc (.cells #[.int .i64 0, .int .i64 0] 28)))
  have A2 := Lib.hid ((S.out.alloc (.cells #[.int .i64 0, .int .i64 0] 28)).other hT (Blk.new' (t := 28) (cs := #[.int .i64 0, .int .i64 0]) rfl))
  replace B := Lib.hid ((S.out.alloc (.cells #[.int .i64 0, .int .i64 0] 28)).down hT (below_alloc B.out (.cells #[.int .i64 0, .int .i64 0] 28)) HM.out)
  replace S := Lib.hid hS
  clear hS hT
  go_wp2_with fail
  refine (Take_any (w.heap.size + 3) sb gb tb 0 v5 [1, 1] [false, true] [0] 1 1 false ea eb _ S.out (HE.out.up B.out) HA.out (by decide) (by decide) (by rw [pop1]; rfl) rfl rfl (by decide) (by decide) (by decide)).mono ?_
  rintro e w6 ⟨rfl, v6, hS, -, hT⟩
  rw [pop1] at hS
  replace A0 := Lib.hid (S.out.other hT A0.out)
  replace A1 := Lib.hid (S.out.other hT A1.out)
  replace A2 := Lib.hid (S.out.other hT A2.out)
  replace B := Lib.hid (S.out.down hT B.out HM.out)
  replace S := Lib.hid hS
  clear hS hT
  have a0 := A0.out.lt
  have a1 := A1.out.lt
  have p0 := (A0.out.alloc (.cells #[.int .i64 0, .int .i64 2] 28)).at_ (i := 0) (v := .int .i64 0) rfl
  have p1 := (A0.out.alloc (.cells #[.int .i64 0, .int .i64 2] 28)).at_ (i := 1) (v := .int .i64 1) rfl
  have p2 := (A1.out.alloc (.cells #[.int .i64 0, .int .i64 2] 28)).at_ (i := 0) (v := .int .i64 1) rfl
  have p3 := (A1.out.alloc (.cells #[.int .i64 0, .int .i64 2] 28)).at_ (i := 1) (v := .int .i64 1) rfl
  have p4 := (Blk.new' (w := w6) (t := 28) (cs := #[.int .i64 0, .int .i64 2]) rfl).at_ (i := 0) (v := .int .i64 0) rfl
  have p5 := (Blk.new' (w := w6) (t := 28) (cs := #[.int .i64 0, .int .i64 2]) rfl).at_ (i := 1) (v := .int .i64 2) rfl
  go_wp2_with fail
  refine (Give_stale (w.heap.size + 3) sb gb tb v6 [2, 1] [true, true] [] 2 ⟨0, 1⟩ ea eb _ (S.out.alloc (.cells #[.int .i64 0, .int .i64 2] 28)) (by decide) (HE.out.up (below_alloc B.out (.cells #[.int .i64 0, .int .i64 2] 28))) (by decide)).mono ?_
  rintro e w7 ⟨rfl, hB⟩
  have B7 := Lib.hid (below_call (w := w) (below_alloc B.out (.cells #[.int .i64 0, .int .i64 2] 28)) hB)
  clear hB p0 p1 p2 p3 p4 p5
  go_wp2_with fail
  go_ret
  exact ⟨rfl, B7.out⟩
end Go.Proofs.YtgjnmpbahekbfaaDoor
