/- FreelistEmpty, with the opening of its arguments. -/
import Derived.Test.YtigjpfhjddkckaaFle
import Derived.Test.YtigjpfhjddkckaaArg
namespace Go.Proofs.Ytigjpfhjddkckaa
open Go.RowKit
theorem freelistEmpty_walk (a0 a1 : Int) (w : World) (w0 : (Lit.int .i64 a0).wf = true) (w1 : (Lit.int .i64 a1).wf = true) :
    Calls Try.prog 6 #[.int .i64 a0, .int .i64 a1] w fun e w' => e = .returned (.bool true) ∧ Below w.heap.size w w' :=
  freelistEmpty_any a0 a1 w (bounds_i64 w0) (bounds_i64 w1)
end Go.Proofs.Ytigjpfhjddkckaa
