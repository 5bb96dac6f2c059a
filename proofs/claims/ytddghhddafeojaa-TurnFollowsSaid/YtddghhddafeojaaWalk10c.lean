/- TurnFollows, with the opening of its arguments. -/
import Derived.Test.YtddghhddafeojaaTu6
import Derived.Test.YtddghhddafeojaaArg3
namespace Go.Proofs.Ytddghhddafeojaa
open Go.RowKit
theorem turnFollows_walk (l0 l1 l2 l3 l4 : Int) (a1 a2 : Int) (a3 : Option Addr) (len3 cap3 : Nat) (z3 : List Int) (w : World) (u1 : (Lit.int .u64 a1).wf = true) (u2 : (Lit.int .u64 a2).wf = true) (h3 : IsRow .i64 w a3 len3 cap3 z3) :
    Calls Try.prog 7 #[.agg #[.int .i64 l0, .int .i64 l1, .int .i64 l2, .int .i64 l3, .int .i64 l4], .int .u64 a1, .int .u64 a2, .slice a3 len3 cap3] w (fun e w' => e = .returned (.bool true) ∧ Below w.heap.size w w') :=
  turnFollows_any l0 l1 l2 l3 l4 a1 a2 a3 len3 cap3 _ (z3.take len3) w (by simp [Lit.wf, IntKind.min, IntKind.max, IntKind.signed, IntKind.bits] at u1; omega) (by simp [Lit.wf, IntKind.min, IntKind.max, IntKind.signed, IntKind.bits] at u2; omega) h3.reads (by have := h3.le; simpa [maxLen] using this)
end Go.Proofs.Ytddghhddafeojaa
