/- FreelistFollows, with the opening of its arguments. -/
import Derived.Test.YtigjpfhjddkckaaFlf2
import Derived.Test.YtigjpfhjddkckaaArg
namespace Go.Proofs.Ytigjpfhjddkckaa
open Go.RowKit
theorem freelistFollows_walk (a0 : Option Addr) (len0 cap0 : Nat) (z0 : List Int) (a1 : Option Addr) (len1 cap1 : Nat) (z1 : List Int) (w : World) (w0 : IsRow .i64 w a0 len0 cap0 z0) (w1 : IsRow .i64 w a1 len1 cap1 z1) :
    Calls Try.prog 3 #[.slice a0 len0 cap0, .slice a1 len1 cap1] w fun e w' => e = .returned (.bool true) ∧ Below w.heap.size w w' := by
  exact freelistFollows_any a0 a1 len0 cap0 len1 cap1 _ _ (z0.take len0) (z1.take len1) w w0.reads w1.reads (by have := w0.le; simpa [maxLen] using this) (by have := w1.le; simpa [maxLen] using this)
end Go.Proofs.Ytigjpfhjddkckaa
