/- CellsCounts, joined. -/
import Derived.Test.YtfmmphabfdpegaaCounts
import Derived.Test.YtfmmphabfdpegaaMake
import Derived.Test.YtfmmphabfdpegaaArg3
namespace Go.Proofs.Ytfmmphabfdpegaa
open Go.RowKit
theorem cellsCounts_walk (l0 l1 l2 l3 l4 : Int) (a1 : Option Addr) (len1 cap1 : Nat) (z1 : List Int) (w : World) (h1 : IsRow .u64 w a1 len1 cap1 z1) :
    Calls Try.prog 6 #[.agg #[.int .i64 l0, .int .i64 l1, .int .i64 l2, .int .i64 l3, .int .i64 l4], .slice a1 len1 cap1] w (fun e w' => e = .returned (.bool true) ∧ Below w.heap.size w w') :=
  cellsCounts_any w (mkCfg l0 l1 l2 l3 l4) l0 l1 l2 l3 l4 a1 len1 cap1 _ (z1.take len1) (fun w => config_any w l0 l1 l2 l3 l4) (mkCfg_ok _ _ _ _ _) h1.reads (by have := h1.le; unfold maxLen at this; omega)
end Go.Proofs.Ytfmmphabfdpegaa
