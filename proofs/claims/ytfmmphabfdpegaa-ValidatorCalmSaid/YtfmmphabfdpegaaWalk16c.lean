/- ValidatorCalm, joined. -/
import Derived.Test.YtfmmphabfdpegaaVal4
import Derived.Test.YtfmmphabfdpegaaArg
namespace Go.Proofs.Ytfmmphabfdpegaa
open Go.RowKit
set_option linter.unusedVariables false
theorem validatorCalm_walk (a0 : Option Addr) (len0 cap0 : Nat) (z0 : List Int) (a1 : Int) (a2 : Option Addr) (len2 cap2 : Nat) (z2 : List Int) (w : World)
    (h0 : IsRow .i64 w a0 len0 cap0 z0) (w1 : (Lit.int .i64 a1).wf = true) (h2 : IsRow .i64 w a2 len2 cap2 z2) :
    Calls Try.prog 12 #[.slice a0 len0 cap0, .int .i64 a1, .slice a2 len2 cap2] w (fun e w' => e = .returned (.bool true) ∧ Below w.heap.size w w') :=
  validatorCalm_any w a0 a2 len0 len2 cap0 cap2 _ _ a1 (z0.take len0) (z2.take len2) h0.reads h2.reads (by have := h0.le; unfold maxLen at this; omega) (by have := h2.le; unfold maxLen at this; omega)
end Go.Proofs.Ytfmmphabfdpegaa
