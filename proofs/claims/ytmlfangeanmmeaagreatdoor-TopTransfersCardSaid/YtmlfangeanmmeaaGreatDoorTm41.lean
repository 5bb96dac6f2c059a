/-
  What the proof of TopTransfers leans on, part 41 of 48: AppA. No statement of its own.
-/
import Derived.Test.YtmlfangeanmmeaaGreatDoorTm1
import Derived.Test.YtmlfangeanmmeaaGreatDoorTm2
import Derived.Deep.Upon
namespace Go.Proofs.YtmlfangeanmmeaaGreatDoor
set_option maxRecDepth 8000
open Go.RowKit
set_option linter.unusedVariables false
section
variable {w0:World} {R:Asr}
end
theorem Z4o (w:World) (a N:Int) (h0:0 < N) (h1:N≤9223372036854775807) :
    Calls Tryz.prog 7 #[.int .i64 a,.int .i64 N] w fun e w'=>∃ k:Nat,(k:Int) < N∧e = .returned (.int .i64 (k:Int))∧w=w':=by
  refine (place_any w a N h0 h1).mono ?_
  rintro e w' ⟨rfl,rfl⟩
  have p0:=Z5s a N h0
  have p1:=Zc7 a N h0
  exact ⟨(Zed a N).toNat,by omega,by rw [Int.toNat_of_nonneg p0],rfl⟩
end Go.Proofs.YtmlfangeanmmeaaGreatDoor
