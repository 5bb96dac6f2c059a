/- ReaderSnapshot, with the opening of its arguments. -/
import Derived.Test.YtddghhddafeojaaRd5
import Derived.Test.YtddghhddafeojaaArg3
import Derived.Test.YtddghhddafeojaaArg4
namespace Go.Proofs.Ytddghhddafeojaa
open Go.RowKit
theorem readerSnapshot_walk (l0 l1 l2 l3 l4 : Int) (a1 : Int) (a2 : Option Addr) (len2 cap2 : Nat) (z2 : List Int) (a3 : Option Addr) (len3 cap3 : Nat) (w : World) (_ : (Lit.int .i64 a1).wf = true) (h2 : IsRow .u64 w a2 len2 cap2 z2) (h3 : IsStructs [.bool] w a3 len3 cap3) :
    Calls Try.prog 10 #[.agg #[.int .i64 l0, .int .i64 l1, .int .i64 l2, .int .i64 l3, .int .i64 l4], .int .i64 a1, .slice a2 len2 cap2, .slice a3 len3 cap3] w (fun e w' => e = .returned (.bool true) ∧ Below w.heap.size w w') :=
  readerSnapshot_any l0 l1 l2 l3 l4 a1 a2 a3 len2 cap2 _ len3 cap3 (z2.take len2) w h2.reads (by have := h2.le; simpa [maxLen] using this) h3
end Go.Proofs.Ytddghhddafeojaa
