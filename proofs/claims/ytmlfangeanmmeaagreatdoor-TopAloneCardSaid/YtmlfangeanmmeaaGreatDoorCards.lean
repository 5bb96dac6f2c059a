/-
  DERIVED. GIVEN WITH THE SEED: THE CARDS: each row of YtmlfangeanmmeaaGreatDoorRows.lean that lists a variable, with what it lists TIED to the program's text (the seventh form; the later family's looks); each row that meets fmt, with fmt's text TOLD by the authors' own Lean function (tested against real Go, not proved from fmt's source: count such statements apart). THE CARD IS WHAT COUNTS. Prove the row's statement (the work); the ties are given (YtmlfangeanmmeaaGreatDoorTie.lean); close each card by the builder's one call (the guide's Derived/Test/ToyasCard.lean, 'card_holds'). Laid BY PROGRAM, IN A SANDBOX (cutbox-door.mjs). By AI agents, Wed Nov 11 2026. No macro, syntax, notation, axiom, sorry.
-/
import Derived.Test.YtmlfangeanmmeaaGreatDoorRows
import GoSem.ClaimSeven
namespace Go.Proofs.YtmlfangeanmmeaaGreatDoor
namespace Rows

/-- THE TIED CARD OF 'strongtxtop.TopTransfers'. -/
def topTransfersCard : Claim7 := { stood := { row := topTransfersRow, standIns := [], harness := (true, "5259ddb4c9edc13254e50b9e699469e98903bd0c2dedb46a76fbbfc9627cab20"), looks := false }, kinds := [], alts := [], laidByText := true, laidKinds := [.data], laidTests := true, laidLooks := .later }
def TopTransfersCardSaid : Prop := Claim7.holds Tryz.pinned (.plain (OpenSpec.ofChange topTransfersSpec)) topTransfersCard

/-- THE TIED CARD OF 'strongtxtop.TopDoomed'. -/
def topDoomedCard : Claim7 := { stood := { row := topDoomedRow, standIns := [], harness := (true, "5259ddb4c9edc13254e50b9e699469e98903bd0c2dedb46a76fbbfc9627cab20"), looks := false }, kinds := [], alts := [], laidByText := true, laidKinds := [.data], laidTests := true, laidLooks := .later }
def TopDoomedCardSaid : Prop := Claim7.holds Tryz.pinned (.plain (OpenSpec.ofChange topDoomedSpec)) topDoomedCard

/-- THE TIED CARD OF 'strongtxtop.TopAlone'. -/
def topAloneCard : Claim7 := { stood := { row := topAloneRow, standIns := [], harness := (true, "5259ddb4c9edc13254e50b9e699469e98903bd0c2dedb46a76fbbfc9627cab20"), looks := false }, kinds := [], alts := [], laidByText := true, laidKinds := [.data], laidTests := true, laidLooks := .later }
def TopAloneCardSaid : Prop := Claim7.holds Tryz.pinned (.plain (OpenSpec.ofChange topAloneSpec)) topAloneCard

/-- THE SECOND FORM's CARD OF 'strongtxtop.TopTransfers'. -/
def topTransfersUptoCard : Claim7 := { stood := { row := topTransfersUptoRow, standIns := [], harness := (true, "5259ddb4c9edc13254e50b9e699469e98903bd0c2dedb46a76fbbfc9627cab20"), looks := false }, kinds := [], alts := [], laidByText := true, laidKinds := [.data], laidTests := true, laidLooks := .later }
def TopTransfersUptoCardSaid : Prop := Claim7.holds Tryz.pinned (.plain (OpenSpec.upto topTransfersSpec)) topTransfersUptoCard

/-- THE SECOND FORM's CARD OF 'strongtxtop.TopDoomed'. -/
def topDoomedUptoCard : Claim7 := { stood := { row := topDoomedUptoRow, standIns := [], harness := (true, "5259ddb4c9edc13254e50b9e699469e98903bd0c2dedb46a76fbbfc9627cab20"), looks := false }, kinds := [], alts := [], laidByText := true, laidKinds := [.data], laidTests := true, laidLooks := .later }
def TopDoomedUptoCardSaid : Prop := Claim7.holds Tryz.pinned (.plain (OpenSpec.upto topDoomedSpec)) topDoomedUptoCard

/-- THE SECOND FORM's CARD OF 'strongtxtop.TopAlone'. -/
def topAloneUptoCard : Claim7 := { stood := { row := topAloneUptoRow, standIns := [], harness := (true, "5259ddb4c9edc13254e50b9e699469e98903bd0c2dedb46a76fbbfc9627cab20"), looks := false }, kinds := [], alts := [], laidByText := true, laidKinds := [.data], laidTests := true, laidLooks := .later }
def TopAloneUptoCardSaid : Prop := Claim7.holds Tryz.pinned (.plain (OpenSpec.upto topAloneSpec)) topAloneUptoCard
end Rows
end Go.Proofs.YtmlfangeanmmeaaGreatDoor
