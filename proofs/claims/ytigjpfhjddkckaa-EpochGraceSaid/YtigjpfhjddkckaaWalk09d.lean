/- EpochGrace, with the opening of its arguments. -/
import Derived.Test.YtigjpfhjddkckaaEp8
import Derived.Test.YtigjpfhjddkckaaArg3
namespace Go.Proofs.Ytigjpfhjddkckaa
open Go.RowKit
theorem epochGrace_walk (l0 l1 l2 l3 l4 : Int) (a1 : Option Addr) (len1 cap1 : Nat) (z1 : List Int) (w : World) (h1 : IsRow .i64 w a1 len1 cap1 z1) :
    Calls Try.prog 12 #[.agg #[.int .i64 l0, .int .i64 l1, .int .i64 l2, .int .i64 l3, .int .i64 l4], .slice a1 len1 cap1] w (fun e w' => e = .returned (.bool true) ∧ Below w.heap.size w w') :=
  epochGrace_any l0 l1 l2 l3 l4 a1 len1 cap1 _ (z1.take len1) w h1.reads (by have := h1.le; simpa [maxLen] using this)
end Go.Proofs.Ytigjpfhjddkckaa
