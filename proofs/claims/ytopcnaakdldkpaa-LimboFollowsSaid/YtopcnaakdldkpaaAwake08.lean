/- strongtxlaw08.awake. -/
import Derived.Test.YtopcnaakdldkpaaMemW
import Derived.Test.YtopcnaakdldkpaaCells
namespace Go.Proofs.Ytopcnaakdldkpaa
open Go.RowKit
set_option linter.unusedVariables false

theorem nexts_len (c : Cfg) : (nexts c).length = nbl c := by simp [nexts]
theorem heads_len (c : Cfg) : (heads c).length = 4 := by simp [heads]
theorem newC_len {c : Cfg} {th : Nat} {init : List Int} (hc : cfgErr c = 0) (h2 : th ≤ 16) (hl : (init.length : Int) = c.words) (k : Nat) : (newC c th init k).length ≤ 1000 := by
  have h := cfgOk_of hc
  have hn := nbl_le h
  have := h.w; have := h.o
  unfold newC
  split <;> simp [zerosN, heads_len, nexts_len] <;> omega
end Go.Proofs.Ytopcnaakdldkpaa
