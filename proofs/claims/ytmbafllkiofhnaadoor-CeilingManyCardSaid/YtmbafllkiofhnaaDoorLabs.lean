/-
  A SLICE OF LABELS IN MEMORY, no program in sight.
-/
import Derived.Test.YtmbafllkiofhnaaDoorLab
import Derived.Test.YtmbafllkiofhnaaDoorStep
namespace Go.Proofs.YtmbafllkiofhnaaDoor
open Go.RowKit

/-- A slice value that reads as a list of labels (nil too), in blocks below B. -/
def LabsAt (B : Nat) (w : World) (v : Value) (l : List Lab) : Prop :=
  (v = .slice none 0 0 ∧ l = []) ∨ ∃ b off cap, v = .slice (some ⟨b, off, none⟩) l.length cap ∧ b < B ∧ l.length ≤ cap ∧ l.length ≤ 9223372036854775807 ∧
    ∀ k x, l[k]? = some x → w.cell? ⟨b, off + k * 3, none⟩ = some (.int .i64 x.lv) ∧ w.cell? ⟨b, off + k * 3 + 1, none⟩ = some (.int .u64 (u x.c)) ∧ w.cell? ⟨b, off + k * 3 + 2, none⟩ = some (.int .i64 x.ig)
theorem LabsAt.nil (B : Nat) (w : World) : LabsAt B w (.slice none 0 0) [] := .inl ⟨rfl, rfl⟩
theorem LabsAt.keep {B : Nat} {w w' : World} {v : Value} {l : List Lab} (h : LabsAt B w v l) (hk : ∀ b o u, b < B → w.cell? ⟨b, o, none⟩ = some u → w'.cell? ⟨b, o, none⟩ = some u) : LabsAt B w' v l := by
  rcases h with h | ⟨b, off, cap, hv, hlt, hcap, hn, hc⟩
  · exact .inl h
  · exact .inr ⟨b, off, cap, hv, hlt, hcap, hn, fun k x hx => ⟨hk _ _ _ hlt (hc k x hx).1, hk _ _ _ hlt (hc k x hx).2.1, hk _ _ _ hlt (hc k x hx).2.2⟩⟩
theorem LabsAt.below {B : Nat} {w w' : World} {v : Value} {l : List Lab} (h : LabsAt B w v l) (hb : Below B w w') : LabsAt B w' v l :=
  h.keep fun b o _ hlt hu => (hb.cell (p := ⟨b, o, none⟩) hlt).trans hu
theorem LabsAt.mono {B B' : Nat} {w : World} {v : Value} {l : List Lab} (h : LabsAt B w v l) (hb : B ≤ B') : LabsAt B' w v l := by
  rcases h with h | ⟨b, off, cap, hv, hlt, r⟩
  · exact .inl h
  · exact .inr ⟨b, off, cap, hv, by omega, r⟩
theorem LabsAt.slice {B : Nat} {w : World} {v : Value} {l : List Lab} (h : LabsAt B w v l) : ∃ A m c, v = .slice A m c := by
  rcases h with ⟨rfl, _⟩ | ⟨b, off, cap, rfl, _⟩
  · exact ⟨_, _, _, rfl⟩
  · exact ⟨_, _, _, rfl⟩
theorem LabsAt.of1 {w : World} {g : Nat} {t : TypeId} {x : Lab} (h : Blk w g t #[.int .i64 x.lv, .int .u64 (u x.c), .int .i64 x.ig]) : LabsAt w.heap.size w (.slice (some ⟨g, 0, none⟩) 1 1) [x] := by
  refine .inr ⟨g, 0, 1, rfl, h.lt, by simp, by simp, fun k y hy => ?_⟩
  match k with
  | 0 => cases hy; exact ⟨h.at_ rfl, h.at_ rfl, h.at_ rfl⟩
  | k + 1 => simp at hy
theorem LabsAt.of2 {w : World} {g : Nat} {t : TypeId} {x z : Lab} (h : Blk w g t #[.int .i64 x.lv, .int .u64 (u x.c), .int .i64 x.ig, .int .i64 z.lv, .int .u64 (u z.c), .int .i64 z.ig]) : LabsAt w.heap.size w (.slice (some ⟨g, 0, none⟩) 2 2) [x, z] := by
  refine .inr ⟨g, 0, 2, rfl, h.lt, by simp, by simp, fun k y hy => ?_⟩
  match k with
  | 0 => cases hy; exact ⟨h.at_ rfl, h.at_ rfl, h.at_ rfl⟩
  | 1 => cases hy; exact ⟨h.at_ rfl, h.at_ rfl, h.at_ rfl⟩
  | k + 2 => simp at hy
theorem LabsAt.of3 {w : World} {g : Nat} {t : TypeId} {x z v : Lab} (h : Blk w g t #[.int .i64 x.lv, .int .u64 (u x.c), .int .i64 x.ig, .int .i64 z.lv, .int .u64 (u z.c), .int .i64 z.ig, .int .i64 v.lv, .int .u64 (u v.c), .int .i64 v.ig]) : LabsAt w.heap.size w (.slice (some ⟨g, 0, none⟩) 3 3) [x, z, v] := by
  refine .inr ⟨g, 0, 3, rfl, h.lt, by simp, by simp, fun k y hy => ?_⟩
  match k with
  | 0 => cases hy; exact ⟨h.at_ rfl, h.at_ rfl, h.at_ rfl⟩
  | 1 => cases hy; exact ⟨h.at_ rfl, h.at_ rfl, h.at_ rfl⟩
  | 2 => cases hy; exact ⟨h.at_ rfl, h.at_ rfl, h.at_ rfl⟩
  | k + 3 => simp at hy
end Go.Proofs.YtmbafllkiofhnaaDoor
