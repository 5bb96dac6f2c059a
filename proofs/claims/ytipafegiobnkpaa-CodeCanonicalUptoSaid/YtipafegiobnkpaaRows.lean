/-
  No cell of these rows narrows 'for every input' (looked for: loops, veiled, ifaces, maps, wideKeys, modest, calm, conditions, laid).
  DERIVED. THE GIVEN ROWS OF THIS SEAT. 6 by the template 'for every input the law returns true; each argument reads behind the call as it read before'; 0 by the template 'total and deterministic' (their statements: YtipafegiobnkpaaTotals.lean).
  GIVEN WITH THE SEED: the statements are not yours to turn. If you find one false, say at which input.
  Laid BY PROGRAM, IN A SANDBOX (cutbox-rows.mjs): the forced cells as the released guide's own fill.sh prints them over the translation 9cab92c95be895f5… (all of the seat's roots in one cut). By AI agents, Wed Nov 11 2026. No macro, syntax, notation, axiom, sorry.
-/
import Derived.Test.YtipafegiobnkpaaChecked
import GoSem.Claim
import GoSem.ClaimJoined
import GoSem.ClaimMapViews
import Derived.JoinedTies
import Derived.KernelRfl
namespace Go.Proofs.Ytipafegiobnkpaa
/- THE CELL 'sum', in the pinned program and in every row, IS THE sha256 OF THE DUMP (.gsa) THAT YtipafegiobnkpaaProg.lean LOADS. Nothing in Lean hashes anything: it is a label: what it is worth is what the hold of that sum in a sandbox is worth. -/
noncomputable def Try.pinned : Pinned := { name := "ytipafegiobnkpaa", sum := "9cab92c95be895f5479d17607a0415c36cda9e58a51fddb60c9af9a85d85b349", checked := Try.checked }
namespace Rows
def none {H : Type} : Left H := { results := [], args := [] }

/-- 'strongtxlaw05.CodeEncodes': WHATEVER THE INPUT: true; the input reads as it did. -/
def codeEncodesSpec : ChangeSpec := { name := "codeEncodes", fn := fun _ => fun
  | [d] => { results := [.lit (.bool true)], args := [d] }
  | _ => none }
def codeEncodesRow : OpenClaim := { program := "ytipafegiobnkpaa", sum := "9cab92c95be895f5479d17607a0415c36cda9e58a51fddb60c9af9a85d85b349", func := "strongtx/strongtxlaw05.CodeEncodes", spec := "codeEncodes", unfollowed := true, recurses := true, apart := false }
def CodeEncodesSaid : Prop := codeEncodesRow.holds Try.pinned (OpenSpec.ofChange codeEncodesSpec)

/-- ITS FALSE NEIGHBOUR: 'it returns false'. Refute it at one input. -/
def codeEncodesWrong : ChangeSpec := { name := "codeEncodes", fn := fun _ => fun
  | [d] => { results := [.lit (.bool false)], args := [d] }
  | _ => none }
def CodeEncodesWrongFalsely : Prop := codeEncodesRow.holds Try.pinned (OpenSpec.ofChange codeEncodesWrong)

/-- 'strongtxlaw05.CodeRound': WHATEVER THE INPUT: true; the input reads as it did. -/
def codeRoundSpec : ChangeSpec := { name := "codeRound", fn := fun _ => fun
  | [d] => { results := [.lit (.bool true)], args := [d] }
  | _ => none }
def codeRoundRow : OpenClaim := { program := "ytipafegiobnkpaa", sum := "9cab92c95be895f5479d17607a0415c36cda9e58a51fddb60c9af9a85d85b349", func := "strongtx/strongtxlaw05.CodeRound", spec := "codeRound", unfollowed := true, recurses := true, apart := false }
def CodeRoundSaid : Prop := codeRoundRow.holds Try.pinned (OpenSpec.ofChange codeRoundSpec)

/-- ITS FALSE NEIGHBOUR: 'it returns false'. Refute it at one input. -/
def codeRoundWrong : ChangeSpec := { name := "codeRound", fn := fun _ => fun
  | [d] => { results := [.lit (.bool false)], args := [d] }
  | _ => none }
def CodeRoundWrongFalsely : Prop := codeRoundRow.holds Try.pinned (OpenSpec.ofChange codeRoundWrong)

/-- 'strongtxlaw05.CodeDecodes': WHATEVER THE INPUT: true; the input reads as it did. -/
def codeDecodesSpec : ChangeSpec := { name := "codeDecodes", fn := fun _ => fun
  | [d] => { results := [.lit (.bool true)], args := [d] }
  | _ => none }
def codeDecodesRow : OpenClaim := { program := "ytipafegiobnkpaa", sum := "9cab92c95be895f5479d17607a0415c36cda9e58a51fddb60c9af9a85d85b349", func := "strongtx/strongtxlaw05.CodeDecodes", spec := "codeDecodes", unfollowed := true, recurses := true, apart := false }
def CodeDecodesSaid : Prop := codeDecodesRow.holds Try.pinned (OpenSpec.ofChange codeDecodesSpec)

/-- ITS FALSE NEIGHBOUR: 'it returns false'. Refute it at one input. -/
def codeDecodesWrong : ChangeSpec := { name := "codeDecodes", fn := fun _ => fun
  | [d] => { results := [.lit (.bool false)], args := [d] }
  | _ => none }
def CodeDecodesWrongFalsely : Prop := codeDecodesRow.holds Try.pinned (OpenSpec.ofChange codeDecodesWrong)

/-- 'strongtxlaw05.CodeSpoiled': WHATEVER THE INPUT: true; the input reads as it did. -/
def codeSpoiledSpec : ChangeSpec := { name := "codeSpoiled", fn := fun _ => fun
  | [d1, d2, d3, d4] => { results := [.lit (.bool true)], args := [d1, d2, d3, d4] }
  | _ => none }
def codeSpoiledRow : OpenClaim := { program := "ytipafegiobnkpaa", sum := "9cab92c95be895f5479d17607a0415c36cda9e58a51fddb60c9af9a85d85b349", func := "strongtx/strongtxlaw05.CodeSpoiled", spec := "codeSpoiled", unfollowed := true, recurses := true, apart := false }
def CodeSpoiledSaid : Prop := codeSpoiledRow.holds Try.pinned (OpenSpec.ofChange codeSpoiledSpec)

/-- ITS FALSE NEIGHBOUR: 'it returns false'. Refute it at one input. -/
def codeSpoiledWrong : ChangeSpec := { name := "codeSpoiled", fn := fun _ => fun
  | [d1, d2, d3, d4] => { results := [.lit (.bool false)], args := [d1, d2, d3, d4] }
  | _ => none }
def CodeSpoiledWrongFalsely : Prop := codeSpoiledRow.holds Try.pinned (OpenSpec.ofChange codeSpoiledWrong)

/-- 'strongtxlaw05.CodeCanonical': WHATEVER THE INPUT: true; the input reads as it did. -/
def codeCanonicalSpec : ChangeSpec := { name := "codeCanonical", fn := fun _ => fun
  | [d1, d2, d3, d4] => { results := [.lit (.bool true)], args := [d1, d2, d3, d4] }
  | _ => none }
def codeCanonicalRow : OpenClaim := { program := "ytipafegiobnkpaa", sum := "9cab92c95be895f5479d17607a0415c36cda9e58a51fddb60c9af9a85d85b349", func := "strongtx/strongtxlaw05.CodeCanonical", spec := "codeCanonical", unfollowed := true, recurses := true, apart := false }
def CodeCanonicalSaid : Prop := codeCanonicalRow.holds Try.pinned (OpenSpec.ofChange codeCanonicalSpec)

/-- ITS FALSE NEIGHBOUR: 'it returns false'. Refute it at one input. -/
def codeCanonicalWrong : ChangeSpec := { name := "codeCanonical", fn := fun _ => fun
  | [d1, d2, d3, d4] => { results := [.lit (.bool false)], args := [d1, d2, d3, d4] }
  | _ => none }
def CodeCanonicalWrongFalsely : Prop := codeCanonicalRow.holds Try.pinned (OpenSpec.ofChange codeCanonicalWrong)

/-- 'strongtxlaw05.CodeLimits': WHATEVER THE INPUT: true; the input reads as it did. -/
def codeLimitsSpec : ChangeSpec := { name := "codeLimits", fn := fun _ => fun
  | [d] => { results := [.lit (.bool true)], args := [d] }
  | _ => none }
def codeLimitsRow : OpenClaim := { program := "ytipafegiobnkpaa", sum := "9cab92c95be895f5479d17607a0415c36cda9e58a51fddb60c9af9a85d85b349", func := "strongtx/strongtxlaw05.CodeLimits", spec := "codeLimits", unfollowed := true, recurses := true, apart := false }
def CodeLimitsSaid : Prop := codeLimitsRow.holds Try.pinned (OpenSpec.ofChange codeLimitsSpec)

/-- ITS FALSE NEIGHBOUR: 'it returns false'. Refute it at one input. -/
def codeLimitsWrong : ChangeSpec := { name := "codeLimits", fn := fun _ => fun
  | [d] => { results := [.lit (.bool false)], args := [d] }
  | _ => none }
def CodeLimitsWrongFalsely : Prop := codeLimitsRow.holds Try.pinned (OpenSpec.ofChange codeLimitsWrong)

/- THE SECOND FORM. 'bulk': how many values and letters a reading holds, each counted each time it is reached (what is shared counts as often as it is met; a slice's spare places count too). A statement '..UptoSaid' is the law's where the arguments, and the package variables that the reading takes, are together of bulk at most 1048576: NARROWER than '..Said'. Prove '..Said' where nothing that the law and all that it calls make is longer than what came in: it says more and counts as full. Else prove '..UptoSaid'. A law counts once. -/
mutual
def uptoBulk {H : Type} : DataW H → Nat
  | .lit (.string bytes) => bytes.length + 1
  | .lit _ => 1
  | .nil => 1
  | .ptr d => uptoBulk d + 1
  | .slice elems spare => uptoBulkAll elems + uptoBulkAll spare + 1
  | .agg parts => uptoBulkAll parts + 1
  | .iface _ d => uptoBulk d + 1
  | .map entries => uptoBulkEntries entries + 1
  | .held _ => 1
def uptoBulkAll {H : Type} : List (DataW H) → Nat
  | [] => 0
  | d :: r => uptoBulk d + uptoBulkAll r
def uptoBulkEntries {H : Type} : List (Lit × DataW H) → Nat
  | [] => 0
  | x :: r => uptoBulkEntry x + uptoBulkEntries r
def uptoBulkEntry {H : Type} : Lit × DataW H → Nat
  | (.string bytes, d) => bytes.length + uptoBulk d + 1
  | (_, d) => uptoBulk d + 1
 end
def uptoSmall : (H : Type) → List (DataW H) → Bool := fun _ ds => decide (uptoBulkAll ds ≤ 1048576)
def OpenSpec.upto (s : _root_.Go.ChangeSpec) : _root_.Go.OpenSpec := { _root_.Go.OpenSpec.ofChange s with cond := some uptoSmall }

/-- 'strongtxlaw05.CodeEncodes', WHERE WHAT IT READS IS OF BULK AT MOST 1048576: true; the input reads as it did. -/
def codeEncodesUptoRow : OpenClaim := { program := "ytipafegiobnkpaa", sum := "9cab92c95be895f5479d17607a0415c36cda9e58a51fddb60c9af9a85d85b349", func := "strongtx/strongtxlaw05.CodeEncodes", spec := "codeEncodes", unfollowed := true, recurses := true, apart := false, narrowed := true }
def CodeEncodesUptoSaid : Prop := codeEncodesUptoRow.holds Try.pinned (OpenSpec.upto codeEncodesSpec)

/-- 'strongtxlaw05.CodeRound', WHERE WHAT IT READS IS OF BULK AT MOST 1048576: true; the input reads as it did. -/
def codeRoundUptoRow : OpenClaim := { program := "ytipafegiobnkpaa", sum := "9cab92c95be895f5479d17607a0415c36cda9e58a51fddb60c9af9a85d85b349", func := "strongtx/strongtxlaw05.CodeRound", spec := "codeRound", unfollowed := true, recurses := true, apart := false, narrowed := true }
def CodeRoundUptoSaid : Prop := codeRoundUptoRow.holds Try.pinned (OpenSpec.upto codeRoundSpec)

/-- 'strongtxlaw05.CodeDecodes', WHERE WHAT IT READS IS OF BULK AT MOST 1048576: true; the input reads as it did. -/
def codeDecodesUptoRow : OpenClaim := { program := "ytipafegiobnkpaa", sum := "9cab92c95be895f5479d17607a0415c36cda9e58a51fddb60c9af9a85d85b349", func := "strongtx/strongtxlaw05.CodeDecodes", spec := "codeDecodes", unfollowed := true, recurses := true, apart := false, narrowed := true }
def CodeDecodesUptoSaid : Prop := codeDecodesUptoRow.holds Try.pinned (OpenSpec.upto codeDecodesSpec)

/-- 'strongtxlaw05.CodeSpoiled', WHERE WHAT IT READS IS OF BULK AT MOST 1048576: true; the input reads as it did. -/
def codeSpoiledUptoRow : OpenClaim := { program := "ytipafegiobnkpaa", sum := "9cab92c95be895f5479d17607a0415c36cda9e58a51fddb60c9af9a85d85b349", func := "strongtx/strongtxlaw05.CodeSpoiled", spec := "codeSpoiled", unfollowed := true, recurses := true, apart := false, narrowed := true }
def CodeSpoiledUptoSaid : Prop := codeSpoiledUptoRow.holds Try.pinned (OpenSpec.upto codeSpoiledSpec)

/-- 'strongtxlaw05.CodeCanonical', WHERE WHAT IT READS IS OF BULK AT MOST 1048576: true; the input reads as it did. -/
def codeCanonicalUptoRow : OpenClaim := { program := "ytipafegiobnkpaa", sum := "9cab92c95be895f5479d17607a0415c36cda9e58a51fddb60c9af9a85d85b349", func := "strongtx/strongtxlaw05.CodeCanonical", spec := "codeCanonical", unfollowed := true, recurses := true, apart := false, narrowed := true }
def CodeCanonicalUptoSaid : Prop := codeCanonicalUptoRow.holds Try.pinned (OpenSpec.upto codeCanonicalSpec)

/-- 'strongtxlaw05.CodeLimits', WHERE WHAT IT READS IS OF BULK AT MOST 1048576: true; the input reads as it did. -/
def codeLimitsUptoRow : OpenClaim := { program := "ytipafegiobnkpaa", sum := "9cab92c95be895f5479d17607a0415c36cda9e58a51fddb60c9af9a85d85b349", func := "strongtx/strongtxlaw05.CodeLimits", spec := "codeLimits", unfollowed := true, recurses := true, apart := false, narrowed := true }
def CodeLimitsUptoSaid : Prop := codeLimitsUptoRow.holds Try.pinned (OpenSpec.upto codeLimitsSpec)

end Rows
end Go.Proofs.Ytipafegiobnkpaa
