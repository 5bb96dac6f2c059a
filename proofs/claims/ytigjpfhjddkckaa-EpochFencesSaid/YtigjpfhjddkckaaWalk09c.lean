/- EpochFences, with the opening of its arguments. -/
import Derived.Test.YtigjpfhjddkckaaEp6
import Derived.Test.YtigjpfhjddkckaaArg3
namespace Go.Proofs.Ytigjpfhjddkckaa
open Go.RowKit
theorem epochFences_walk (l0 l1 l2 l3 l4 : Int) (a1 a2 a3 : Int) (a4 : Option Addr) (len4 cap4 : Nat) (z4 : List Int) (a5 : Option Addr) (len5 cap5 : Nat) (z5 : List Int) (w : World) (_ : (Lit.int .i64 a1).wf = true) (_ : (Lit.int .i64 a2).wf = true) (u3 : (Lit.int .u64 a3).wf = true) (h4 : IsRow .i64 w a4 len4 cap4 z4) (h5 : IsRow .i64 w a5 len5 cap5 z5) :
    Calls Try.prog 8 #[.agg #[.int .i64 l0, .int .i64 l1, .int .i64 l2, .int .i64 l3, .int .i64 l4], .int .i64 a1, .int .i64 a2, .int .u64 a3, .slice a4 len4 cap4, .slice a5 len5 cap5] w (fun e w' => e = .returned (.bool true) ∧ Below w.heap.size w w') :=
  epochFences_any l0 l1 l2 l3 l4 a1 a2 a3 a4 a5 len4 cap4 _ len5 cap5 _ (z4.take len4) (z5.take len5) w (by simp [Lit.wf, IntKind.min, IntKind.max, IntKind.signed, IntKind.bits] at u3; omega) h4.reads (by have := h4.le; simpa [maxLen] using this) h5.reads (by have := h5.le; simpa [maxLen] using this)
end Go.Proofs.Ytigjpfhjddkckaa
