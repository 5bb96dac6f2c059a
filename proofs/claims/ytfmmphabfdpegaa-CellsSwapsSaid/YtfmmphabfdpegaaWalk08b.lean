/- CellsSwaps, joined. -/
import Derived.Test.YtfmmphabfdpegaaSwaps
import Derived.Test.YtfmmphabfdpegaaMake
import Derived.Test.YtfmmphabfdpegaaArg3
namespace Go.Proofs.Ytfmmphabfdpegaa
open Go.RowKit
set_option linter.unusedVariables false
theorem cellsSwaps_walk (l0 l1 l2 l3 l4 : Int) (a1 : Int) (a2 : Option Addr) (len2 cap2 : Nat) (z2 : List Int) (w : World) (w1 : (Lit.int .i64 a1).wf = true) (h2 : IsRow .u64 w a2 len2 cap2 z2) :
    Calls Try.prog 3 #[.agg #[.int .i64 l0, .int .i64 l1, .int .i64 l2, .int .i64 l3, .int .i64 l4], .int .i64 a1, .slice a2 len2 cap2] w (fun e w' => e = .returned (.bool true) ∧ Below w.heap.size w w') :=
  cellsSwaps_any w (mkCfg l0 l1 l2 l3 l4) l0 l1 l2 l3 l4 a1 a2 len2 cap2 _ (z2.take len2) (fun w => config_any w l0 l1 l2 l3 l4) (mkCfg_ok _ _ _ _ _) h2.reads (fun x hx => by have := h2.wf x (List.mem_of_mem_take hx); simp [Lit.wf, IntKind.min, IntKind.max, IntKind.signed, IntKind.bits] at this; omega) (by have := h2.le; unfold maxLen at this; omega)
end Go.Proofs.Ytfmmphabfdpegaa
