/- CellsCopies, joined. -/
import Derived.Test.YtfmmphabfdpegaaCopies
import Derived.Test.YtfmmphabfdpegaaMake
import Derived.Test.YtfmmphabfdpegaaArg3
namespace Go.Proofs.Ytfmmphabfdpegaa
open Go.RowKit
set_option linter.unusedVariables false
theorem cellsCopies_walk (l0 l1 l2 l3 l4 : Int) (a1 : Int) (w : World) (w1 : (Lit.int .u64 a1).wf = true) :
    Calls Try.prog 8 #[.agg #[.int .i64 l0, .int .i64 l1, .int .i64 l2, .int .i64 l3, .int .i64 l4], .int .u64 a1] w (fun e w' => e = .returned (.bool true) ∧ Below w.heap.size w w') :=
  cellsCopies_any w (mkCfg l0 l1 l2 l3 l4) l0 l1 l2 l3 l4 a1 (fun w => config_any w l0 l1 l2 l3 l4) (mkCfg_ok _ _ _ _ _)
end Go.Proofs.Ytfmmphabfdpegaa
