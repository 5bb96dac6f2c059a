/- WriterKeeps, joined. -/
import Derived.Test.YtddghhddafeojaaWr5
namespace Go.Proofs.Ytddghhddafeojaa
open Go.RowKit
set_option linter.unusedVariables false
theorem writerKeeps_walk (a0 : Option Addr) (len0 cap0 : Nat) (z0 : List Int) (a1 : Int) (w : World)
    (h0 : IsRow .i64 w a0 len0 cap0 z0) (w1 : (Lit.int .u64 a1).wf = true) :
    Calls Try.prog 5 #[.slice a0 len0 cap0, .int .u64 a1] w (fun e w' => e = .returned (.bool true) ∧ Below w.heap.size w w') :=
  writerKeeps_any w a0 len0 cap0 _ (z0.take len0) a1 h0.reads (by have := h0.le; unfold maxLen at this; omega)
end Go.Proofs.Ytddghhddafeojaa
