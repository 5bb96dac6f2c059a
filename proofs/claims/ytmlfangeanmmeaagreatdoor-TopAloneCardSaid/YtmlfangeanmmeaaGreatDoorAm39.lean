/-
 What the proof of TopAlone leans on, part 39 of 49: AppA. No statement of its own.
-/
import Derived.Test.YtmlfangeanmmeaaGreatDoorAm1
import Derived.Test.YtmlfangeanmmeaaGreatDoorAm8
import Derived.Deep.Upon
set_option maxHeartbeats 16000000
set_option maxRecDepth 8000
set_option linter.unusedVariables false
namespace Go.Proofs.YtmlfangeanmmeaaGreatDoor
open Go.RowKit
section
variable {w0:World} {R:Asr}
end
theorem Z26 (w:World) (a N:Int) (h0:0<N) (h1:N<=9223372036854775807) :
  Calls Tryz.prog 7 #[.int .i64 a,.int .i64 N] w fun e w'=>∃k:Nat,(k:Int)<N/\e = .returned (.int .i64 (k:Int))/\w=w':=by
 refine(place_any w a N h0 h1).mono ?_;rintro e w' ⟨rfl,rfl⟩;have p0:=Z25 a N h0;have p1:=Z5r a N h0;exact⟨(Za1 a N).toNat,by omega,by rw[Int.toNat_of_nonneg p0],rfl⟩
end Go.Proofs.YtmlfangeanmmeaaGreatDoor
