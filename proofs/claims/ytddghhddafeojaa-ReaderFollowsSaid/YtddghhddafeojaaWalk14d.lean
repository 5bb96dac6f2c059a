/- ReaderFollows, with the opening of its arguments. -/
import Derived.Test.YtddghhddafeojaaRd6
import Derived.Test.YtddghhddafeojaaArg3
import Derived.Test.YtddghhddafeojaaArg2
namespace Go.Proofs.Ytddghhddafeojaa
open Go.RowKit
theorem readerFollows_walk (l0 l1 l2 l3 l4 : Int) (a1 a2 a3 : Int) (a4 : Option Addr) (len4 cap4 : Nat) (w : World) (_ : (Lit.int .i64 a1).wf = true) (_ : (Lit.int .i64 a2).wf = true) (_ : (Lit.int .i64 a3).wf = true) (h4 : IsStructs [.bool, .int .i64] w a4 len4 cap4) :
    Calls Try.prog 12 #[.agg #[.int .i64 l0, .int .i64 l1, .int .i64 l2, .int .i64 l3, .int .i64 l4], .int .i64 a1, .int .i64 a2, .int .i64 a3, .slice a4 len4 cap4] w (fun e w' => e = .returned (.bool true) ∧ Below w.heap.size w w') :=
  readerFollows_any l0 l1 l2 l3 l4 a1 a2 a3 a4 len4 cap4 w h4
end Go.Proofs.Ytddghhddafeojaa
