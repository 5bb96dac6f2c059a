/- WriterFollows, joined. -/
import Derived.Test.YtddghhddafeojaaWr3
import Derived.Test.YtddghhddafeojaaArg
namespace Go.Proofs.Ytddghhddafeojaa
open Go.RowKit
set_option linter.unusedVariables false
theorem IsRow.cap {k : IntKind} {w : World} {a : Option Addr} {len cap : Nat} {zs : List Int} (h : IsRow k w a len cap zs) : len ≤ cap := by
  rcases h with ⟨_, rfl, rfl, _⟩ | ⟨x, _, hl, _⟩
  · exact Nat.le_refl _
  · exact hl
theorem writerFollows_walk (a0 : Option Addr) (len0 cap0 : Nat) (z0 : List Int) (a1 : Option Addr) (len1 cap1 : Nat) (z1 : List Int) (w : World)
    (h0 : IsRow .i64 w a0 len0 cap0 z0) (h1 : IsRow .u64 w a1 len1 cap1 z1) :
    Calls Try.prog 3 #[.slice a0 len0 cap0, .slice a1 len1 cap1] w (fun e w' => e = .returned (.bool true) ∧ Below w.heap.size w w') :=
  writerFollows_any w a0 a1 len0 len1 cap0 cap1 _ _ (z0.take len0) (z1.take len1) h0.reads h1.reads (by have := h0.le; unfold maxLen at this; omega) (by have := h1.le; unfold maxLen at this; omega) h1.cap
end Go.Proofs.Ytddghhddafeojaa
