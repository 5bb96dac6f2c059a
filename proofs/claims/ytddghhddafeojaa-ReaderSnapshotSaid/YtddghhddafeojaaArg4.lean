/- Arguments: a slice of bools. -/
import Derived.Test.YtddghhddafeojaaArg2
namespace Go.Proofs.Ytddghhddafeojaa
open Go.RowKit Go.ChangeShapes Go.WideShapes Go.Deep
set_option linter.unusedVariables false

section
variable {H : Type} {enc : TypeId × Value → H} {P : Program} {w : World} {base : Nat} {held : Bool}
theorem open_bools {t e : TypeId} {fuel : Nat} {cs : List Value} {x : DataW H × List MemPlace} (ht : P.underlying t = some (.slice e)) (he : P.underlying e = some .bool)
    (hC : P.cellsOf e = 1) (h : DataW.trod enc P w base (fun _ => true) held fuel t cs = some x) :
    ∃ a len cap, cs = [.slice a len cap] ∧ IsStructs [.bool] w a len cap := by
  rcases open_slice ht h with ⟨h0, _⟩ | ⟨a, len, cap, m, n, D, Pl, hcs, hb, hl, hm, hmm, _, hi⟩
  · exact ⟨none, 0, 0, h0, .inl ⟨rfl, rfl, rfl⟩⟩
  · refine ⟨some a, len, cap, hcs, .inr ⟨a, rfl, hl, hm, fun i hlt j fk hj => ?_⟩⟩
    simp only [if_true] at hmm
    obtain ⟨cs', hc, ht'⟩ := hi i (by omega)
    obtain ⟨b, hv, _⟩ := DataW.trod_bool he ht'
    obtain ⟨_, hcl, hat⟩ := World.cells?_some hc
    have hj0 : j < 1 := (List.getElem?_eq_some_iff.1 hj).1
    obtain rfl : j = 0 := by omega
    have hcell := hat 0 (by omega)
    rw [hv, hC, Go.Deep.add_add] at hcell
    obtain rfl : FK.bool = fk := by simpa using hj
    exact ⟨.bool b, by simpa using hcell, b, rfl⟩
end
end Go.Proofs.Ytddghhddafeojaa
