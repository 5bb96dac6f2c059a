/-
  What the proof of TopTransfers leans on, part 47 of 48: Yd. No statement of its own.
-/
import Derived.Test.YtmlfangeanmmeaaGreatDoorTm45
import Derived.Test.YtmlfangeanmmeaaGreatDoorTm46
namespace Go.Proofs.YtmlfangeanmmeaaGreatDoor
set_option maxRecDepth 8000
open Go.RowKit Go.ChangeShapes Go.WideShapes
set_option linter.unusedVariables false
theorem Za5 {H:Type} {enc:TypeId × Value→H} {P:Program} {w:World} {base b0:Nat} {sp:Nat→Bool} {held:Bool} {k e:TypeId} {q:IntKind} (hu:P.underlying k=some (.array 3 e)) (he:P.underlying e=some (.int q)) (h1:P.cellsOf e=1) (hk:P.cellsOf k=3) {r:Reach} {v:Value} {d:DataW H} {ps:List MemPlace}
    (hv:Value.okWide P w r b0 k v) (hd:DataW.Trod enc P w base sp held k v d ps):∃ x0 x1 x2:Int,v = .agg #[.int q x0,.int q x1,.int q x2]:=by
  obtain ⟨zs,hl,rfl,hw⟩:=Zhv hu he h1 hk hv hd
  match zs,hl with
  | [x0,x1,x2],_=>exact ⟨x0,x1,x2,by simp⟩
end Go.Proofs.YtmlfangeanmmeaaGreatDoor
