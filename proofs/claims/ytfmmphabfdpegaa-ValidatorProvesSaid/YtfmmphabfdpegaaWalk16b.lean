/- ValidatorProves, joined. -/
import Derived.Test.YtfmmphabfdpegaaVal3
import Derived.Test.YtfmmphabfdpegaaArg
namespace Go.Proofs.Ytfmmphabfdpegaa
open Go.RowKit
set_option linter.unusedVariables false
theorem validatorProves_walk (a0 : Option Addr) (len0 cap0 : Nat) (z0 : List Int) (a1 : Int) (a2 : Option Addr) (len2 cap2 : Nat) (z2 : List Int) (a3 : Option Addr) (len3 cap3 : Nat) (z3 : List Int) (w : World)
    (h0 : IsRow .i64 w a0 len0 cap0 z0) (w1 : (Lit.int .i64 a1).wf = true) (h2 : IsRow .i64 w a2 len2 cap2 z2) (h3 : IsRow .i64 w a3 len3 cap3 z3) :
    Calls Try.prog 9 #[.slice a0 len0 cap0, .int .i64 a1, .slice a2 len2 cap2, .slice a3 len3 cap3] w (fun e w' => e = .returned (.bool true) ∧ Below w.heap.size w w') :=
  validatorProves_any w a0 a2 a3 len0 len2 len3 cap0 cap2 cap3 _ _ _ a1 (z0.take len0) (z2.take len2) (z3.take len3) h0.reads h2.reads h3.reads (by have := h0.le; unfold maxLen at this; omega) (by have := h2.le; unfold maxLen at this; omega) (by have := h3.le; unfold maxLen at this; omega)
end Go.Proofs.Ytfmmphabfdpegaa
