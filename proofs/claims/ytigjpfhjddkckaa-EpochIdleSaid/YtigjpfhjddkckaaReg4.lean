/- Three operations of a region that are ready at once. -/
import Derived.Test.YtigjpfhjddkckaaReg3
namespace Go.Proofs.Ytigjpfhjddkckaa
open Go.RowKit
set_option linter.unusedVariables false

section
variable {P : Program} {Q : Exit → Act → World → Prop} {md : Region.Mode} {S : World → Prop} {brk : List Nat}
theorem wpAnyB_three {ol : List Oper} (m m2 m3 : List Bool) {i j k : Nat} {o o2 o3 : Oper} {a : Act} {w : World} {fuel : Nat} {listed : Array Bool} (hi : maskI 0 m = [i]) (ho : maskL m ol = [o]) (hi2 : maskI 0 m2 = [j]) (ho2 : maskL m2 ol = [o2]) (hi3 : maskI 0 m3 = [k]) (ho3 : maskL m3 ol = [o3])
    (hr : Region.ready md ol.toArray listed = [i, j, k])
    (h : ∀ QB : Exit → Act → World → Prop, Shut (∀ a' w', S w' → wpAnyB P md ol.toArray Q brk S fuel (listed.setIfInBounds i true) a' w' → QB .normal a' w') → Shut (∀ e a' w', e ≠ .normal → Q e a' w' → QB e a' w') →
      wpList P ol.toArray QB (maskL m ol) a w)
    (h2 : ∀ QB : Exit → Act → World → Prop, Shut (∀ a' w', S w' → wpAnyB P md ol.toArray Q brk S fuel (listed.setIfInBounds j true) a' w' → QB .normal a' w') → Shut (∀ e a' w', e ≠ .normal → Q e a' w' → QB e a' w') →
      wpList P ol.toArray QB (maskL m2 ol) a w)
    (h3 : ∀ QB : Exit → Act → World → Prop, Shut (∀ a' w', S w' → wpAnyB P md ol.toArray Q brk S fuel (listed.setIfInBounds k true) a' w' → QB .normal a' w') → Shut (∀ e a' w', e ≠ .normal → Q e a' w' → QB e a' w') →
      wpList P ol.toArray QB (maskL m3 ol) a w) : wpAnyB P md ol.toArray Q brk S (fuel + 1) listed a w := by
  refine ⟨fun h0 => absurd (hr ▸ h0) (by simp), hr ▸ fun t ht => ?_⟩
  rcases List.mem_cons.1 ht with rfl | ht
  · exact wpOp_barB m hi ho fun QB h1 h4 => h QB (fun a' w' hS hw => h1 a' w' ⟨fun _ => hS, hw⟩) h4
  · rcases List.mem_cons.1 ht with rfl | ht
    · exact wpOp_barB m2 hi2 ho2 fun QB h1 h4 => h2 QB (fun a' w' hS hw => h1 a' w' ⟨fun _ => hS, hw⟩) h4
    · obtain rfl : t = k := by simpa using ht
      exact wpOp_barB m3 hi3 ho3 fun QB h1 h4 => h3 QB (fun a' w' hS hw => h1 a' w' ⟨fun _ => hS, hw⟩) h4
end
end Go.Proofs.Ytigjpfhjddkckaa
