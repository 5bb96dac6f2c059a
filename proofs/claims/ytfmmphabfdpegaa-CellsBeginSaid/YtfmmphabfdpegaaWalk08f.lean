/- CellsBegin, with the opening of its arguments. -/
import Derived.Test.YtfmmphabfdpegaaBegin
import Derived.Test.YtfmmphabfdpegaaMake
import Derived.Test.YtfmmphabfdpegaaArg3
import Derived.Test.YtfmmphabfdpegaaArg5
namespace Go.Proofs.Ytfmmphabfdpegaa
open Go.RowKit
set_option linter.unusedVariables false
theorem cellsBegin_walk (l0 l1 l2 l3 l4 : Int) (a1 : Int) (x0 x1 x2 x3 x4 x5 x6 x7 x8 x9 x10 x11 : Int) (x12 : Bool) (a3 : Option Addr) (len3 cap3 : Nat) (z3 : List Int) (a4 : Int) (w : World) (_ : (Lit.int .i64 a1).wf = true)
    (w0 : (Lit.int .i64 x0).wf = true) (w1 : (Lit.int .i64 x1).wf = true) (w2 : (Lit.int .i64 x2).wf = true) (w3 : (Lit.int .i64 x3).wf = true) (w4 : (Lit.int .i64 x4).wf = true) (w5 : (Lit.int .i64 x5).wf = true) (w6 : (Lit.int .i64 x6).wf = true) (w7 : (Lit.int .i64 x7).wf = true) (w8 : (Lit.int .i64 x8).wf = true) (w9 : (Lit.int .i64 x9).wf = true) (w10 : (Lit.int .i64 x10).wf = true) (w11 : (Lit.int .i64 x11).wf = true)
    (h3 : IsRow .u64 w a3 len3 cap3 z3) (_ : (Lit.int .i64 a4).wf = true) :
    Calls Try.prog 5 #[.agg #[.int .i64 l0, .int .i64 l1, .int .i64 l2, .int .i64 l3, .int .i64 l4], .int .i64 a1, .agg #[.int .i64 x0, .int .i64 x1, .int .i64 x2, .int .i64 x3, .int .i64 x4, .int .i64 x5, .int .i64 x6, .int .i64 x7, .int .i64 x8, .int .i64 x9, .int .i64 x10, .int .i64 x11, .bool x12], .slice a3 len3 cap3, .int .i64 a4] w (fun e w' => e = .returned (.bool true) ∧ Below w.heap.size w w') :=
  cellsBegin_any w (mkCfg l0 l1 l2 l3 l4) ⟨x0, x1, x2, x3, x4, x5, x6, x7, x8, x9, x10, x11, x12⟩ l0 l1 l2 l3 l4 a1 a4 a3 len3 cap3 _ (z3.take len3) h3.reads (fun w => config_any w l0 l1 l2 l3 l4) (mkCfg_ok _ _ _ _ _)
end Go.Proofs.Ytfmmphabfdpegaa
