/- Cells of both kinds, made alike: strongtxlaw08.start. -/
import Derived.Test.YtopcnaakdldkpaaRef08d
import Derived.Test.YtopcnaakdldkpaaNerr
namespace Go.Proofs.Ytopcnaakdldkpaa
open Go.RowKit
set_option linter.unusedVariables false

/-- The first words: 1, 11, 21, .. -/
def initL (n : Nat) : List Int := (List.range n).map fun i : Nat => 10 * (i : Int) + 1
theorem initL_succ (k : Nat) : (initL k).map (Value.int .u64) ++ [.int .u64 (10 * (k : Int) + 1)] = (initL (k + 1)).map (Value.int .u64) := by simp [initL, List.range_succ]
theorem initL_len (n : Nat) : (initL n).length = n := by simp [initL]
def StartPost (w0 : World) (R : Asr) (c : Cfg) (th : Nat) (e : Ending) (w' : World) : Prop :=
  ∃ g r, e = .returned (.tuple #[.pointer (some ⟨g, 0, none⟩), .pointer (some ⟨r, 0, none⟩), .bool true]) ∧ Hold w0 w' (memA g (newC c th (initL c.words.toNat)) * (refA r c (newC c th (initL c.words.toNat)) * R))
end Go.Proofs.Ytopcnaakdldkpaa
