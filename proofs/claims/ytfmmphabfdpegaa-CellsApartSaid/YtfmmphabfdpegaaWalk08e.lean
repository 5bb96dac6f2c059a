/- CellsApart, with the opening of its arguments. -/
import Derived.Test.YtfmmphabfdpegaaApart
import Derived.Test.YtfmmphabfdpegaaMake
import Derived.Test.YtfmmphabfdpegaaArg3
import Derived.Test.YtfmmphabfdpegaaArg5
namespace Go.Proofs.Ytfmmphabfdpegaa
open Go.RowKit
set_option linter.unusedVariables false
theorem cellsApart_walk (l0 l1 l2 l3 l4 : Int) (x0 x1 x2 x3 x4 : Int) (w : World) (w0 : (Lit.int .i64 x0).wf = true) (w1 : (Lit.int .i64 x1).wf = true) (w2 : (Lit.int .i64 x2).wf = true) (w3 : (Lit.int .u64 x3).wf = true) (w4 : (Lit.int .u64 x4).wf = true) :
    Calls Try.prog 4 #[.agg #[.int .i64 l0, .int .i64 l1, .int .i64 l2, .int .i64 l3, .int .i64 l4], .agg #[.int .i64 x0, .int .i64 x1, .int .i64 x2, .int .u64 x3, .int .u64 x4]] w (fun e w' => e = .returned (.bool true) ∧ Below w.heap.size w w') :=
  cellsApart_any w (mkCfg l0 l1 l2 l3 l4) l0 l1 l2 l3 l4 x0 x1 x2 x3 x4 (fun w => config_any w l0 l1 l2 l3 l4) (mkCfg_ok _ _ _ _ _)
end Go.Proofs.Ytfmmphabfdpegaa
