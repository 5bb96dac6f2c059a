/- CellsFollow, joined. -/
import Derived.Test.YtfmmphabfdpegaaFollow
import Derived.Test.YtfmmphabfdpegaaMake
import Derived.Test.YtfmmphabfdpegaaArg3
namespace Go.Proofs.Ytfmmphabfdpegaa
open Go.RowKit
set_option linter.unusedVariables false
theorem IsStructs.le {ks : List FK} {w : World} {a : Option Addr} {len cap : Nat} (h : IsStructs ks w a len cap) : len ≤ maxLen := by
  rcases h with ⟨_, h, _⟩ | ⟨x, _, hl, hc, _⟩
  · omega
  · omega
theorem cellsFollow_walk (l0 l1 l2 l3 l4 : Int) (a1 : Int) (a2 : Option Addr) (len2 cap2 : Nat) (a3 : Bool) (w : World) (w1 : (Lit.int .i64 a1).wf = true) (h2 : IsStructs [.int .i64, .int .i64, .int .i64, .int .u64, .int .u64] w a2 len2 cap2) :
    Calls Try.prog 7 #[.agg #[.int .i64 l0, .int .i64 l1, .int .i64 l2, .int .i64 l3, .int .i64 l4], .int .i64 a1, .slice a2 len2 cap2, .bool a3] w (fun e w' => e = .returned (.bool true) ∧ Below w.heap.size w w') :=
  cellsFollow_any w (mkCfg l0 l1 l2 l3 l4) l0 l1 l2 l3 l4 a1 a2 len2 cap2 a3 (fun w => config_any w l0 l1 l2 l3 l4) (mkCfg_ok _ _ _ _ _) h2 (by have := h2.le; unfold maxLen at this; omega)
end Go.Proofs.Ytfmmphabfdpegaa
