/-
  STATEMENT SlotsNone: its walk.
-/
import Derived.Test.YtgjnmpbahekbfaaDoorSlS
import Derived.Test.YtgjnmpbahekbfaaDoorSlU
import Derived.Test.YtgjnmpbahekbfaaDoorClose
namespace Go.Proofs.YtgjnmpbahekbfaaDoor
open Go.RowKit

theorem none_walk (x : Hd) (ea eb : Addr) (w : World) (he : SentS w ea eb) :
    Calls Tryd.prog 8 #[.agg #[.int .i64 x.slot, .int .i64 x.gen]] w (Yes w) :=
  none_core x w (fun W hb => shown_any ea eb W (he.up hb))
end Go.Proofs.YtgjnmpbahekbfaaDoor
