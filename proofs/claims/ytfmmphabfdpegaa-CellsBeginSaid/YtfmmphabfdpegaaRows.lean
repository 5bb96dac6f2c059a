/-
  No cell of these rows narrows 'for every input' (looked for: loops, veiled, ifaces, maps, wideKeys, modest, calm, conditions, laid).
  DERIVED. THE GIVEN ROWS OF THIS SEAT. 10 by the template 'for every input the law returns true; each argument reads behind the call as it read before'; 0 by the template 'total and deterministic' (their statements: YtfmmphabfdpegaaTotals.lean).
  GIVEN WITH THE SEED: the statements are not yours to turn. If you find one false, say at which input.
  Laid BY PROGRAM, IN A SANDBOX (cutbox-rows.mjs): the forced cells as the released guide's own fill.sh prints them over the translation 24306c7f3a2c0ba6… (all of the seat's roots in one cut). By AI agents, Wed Nov 11 2026. No macro, syntax, notation, axiom, sorry.
-/
import Derived.Test.YtfmmphabfdpegaaChecked
import GoSem.Claim
import GoSem.ClaimJoined
import GoSem.ClaimMapViews
import Derived.JoinedTies
import Derived.KernelRfl
namespace Go.Proofs.Ytfmmphabfdpegaa
/- THE CELL 'sum', in the pinned program and in every row, IS THE sha256 OF THE DUMP (.gsa) THAT YtfmmphabfdpegaaProg.lean LOADS. Nothing in Lean hashes anything: it is a label: what it is worth is what the hold of that sum in a sandbox is worth. -/
noncomputable def Try.pinned : Pinned := { name := "ytfmmphabfdpegaa", sum := "24306c7f3a2c0ba610c6cadf73677118a250ddea5c15efdb3730902b7929abe1", checked := Try.checked }
namespace Rows
def none {H : Type} : Left H := { results := [], args := [] }

/-- 'strongtxlaw08.CellsSwaps': WHATEVER THE INPUT: true; the input reads as it did. -/
def cellsSwapsSpec : ChangeSpec := { name := "cellsSwaps", fn := fun _ => fun
  | [d1, d2, d3] => { results := [.lit (.bool true)], args := [d1, d2, d3] }
  | _ => none }
def cellsSwapsRow : OpenClaim := { program := "ytfmmphabfdpegaa", sum := "24306c7f3a2c0ba610c6cadf73677118a250ddea5c15efdb3730902b7929abe1", func := "strongtx/strongtxlaw08.CellsSwaps", spec := "cellsSwaps", unfollowed := true, recurses := true, apart := false }
def CellsSwapsSaid : Prop := cellsSwapsRow.holds Try.pinned (OpenSpec.ofChange cellsSwapsSpec)

/-- ITS FALSE NEIGHBOUR: 'it returns false'. Refute it at one input. -/
def cellsSwapsWrong : ChangeSpec := { name := "cellsSwaps", fn := fun _ => fun
  | [d1, d2, d3] => { results := [.lit (.bool false)], args := [d1, d2, d3] }
  | _ => none }
def CellsSwapsWrongFalsely : Prop := cellsSwapsRow.holds Try.pinned (OpenSpec.ofChange cellsSwapsWrong)

/-- 'strongtxlaw08.CellsApart': WHATEVER THE INPUT: true; the input reads as it did. -/
def cellsApartSpec : ChangeSpec := { name := "cellsApart", fn := fun _ => fun
  | [d1, d2] => { results := [.lit (.bool true)], args := [d1, d2] }
  | _ => none }
def cellsApartRow : OpenClaim := { program := "ytfmmphabfdpegaa", sum := "24306c7f3a2c0ba610c6cadf73677118a250ddea5c15efdb3730902b7929abe1", func := "strongtx/strongtxlaw08.CellsApart", spec := "cellsApart", unfollowed := true, recurses := true, apart := false }
def CellsApartSaid : Prop := cellsApartRow.holds Try.pinned (OpenSpec.ofChange cellsApartSpec)

/-- ITS FALSE NEIGHBOUR: 'it returns false'. Refute it at one input. -/
def cellsApartWrong : ChangeSpec := { name := "cellsApart", fn := fun _ => fun
  | [d1, d2] => { results := [.lit (.bool false)], args := [d1, d2] }
  | _ => none }
def CellsApartWrongFalsely : Prop := cellsApartRow.holds Try.pinned (OpenSpec.ofChange cellsApartWrong)

/-- 'strongtxlaw08.CellsBegin': WHATEVER THE INPUT: true; the input reads as it did. -/
def cellsBeginSpec : ChangeSpec := { name := "cellsBegin", fn := fun _ => fun
  | [d1, d2, d3, d4, d5] => { results := [.lit (.bool true)], args := [d1, d2, d3, d4, d5] }
  | _ => none }
def cellsBeginRow : OpenClaim := { program := "ytfmmphabfdpegaa", sum := "24306c7f3a2c0ba610c6cadf73677118a250ddea5c15efdb3730902b7929abe1", func := "strongtx/strongtxlaw08.CellsBegin", spec := "cellsBegin", unfollowed := true, recurses := true, apart := false }
def CellsBeginSaid : Prop := cellsBeginRow.holds Try.pinned (OpenSpec.ofChange cellsBeginSpec)

/-- ITS FALSE NEIGHBOUR: 'it returns false'. Refute it at one input. -/
def cellsBeginWrong : ChangeSpec := { name := "cellsBegin", fn := fun _ => fun
  | [d1, d2, d3, d4, d5] => { results := [.lit (.bool false)], args := [d1, d2, d3, d4, d5] }
  | _ => none }
def CellsBeginWrongFalsely : Prop := cellsBeginRow.holds Try.pinned (OpenSpec.ofChange cellsBeginWrong)

/-- 'strongtxlaw08.CellsCounts': WHATEVER THE INPUT: true; the input reads as it did. -/
def cellsCountsSpec : ChangeSpec := { name := "cellsCounts", fn := fun _ => fun
  | [d1, d2] => { results := [.lit (.bool true)], args := [d1, d2] }
  | _ => none }
def cellsCountsRow : OpenClaim := { program := "ytfmmphabfdpegaa", sum := "24306c7f3a2c0ba610c6cadf73677118a250ddea5c15efdb3730902b7929abe1", func := "strongtx/strongtxlaw08.CellsCounts", spec := "cellsCounts", unfollowed := true, recurses := true, apart := false }
def CellsCountsSaid : Prop := cellsCountsRow.holds Try.pinned (OpenSpec.ofChange cellsCountsSpec)

/-- ITS FALSE NEIGHBOUR: 'it returns false'. Refute it at one input. -/
def cellsCountsWrong : ChangeSpec := { name := "cellsCounts", fn := fun _ => fun
  | [d1, d2] => { results := [.lit (.bool false)], args := [d1, d2] }
  | _ => none }
def CellsCountsWrongFalsely : Prop := cellsCountsRow.holds Try.pinned (OpenSpec.ofChange cellsCountsWrong)

/-- 'strongtxlaw08.CellsFollow': WHATEVER THE INPUT: true; the input reads as it did. -/
def cellsFollowSpec : ChangeSpec := { name := "cellsFollow", fn := fun _ => fun
  | [d1, d2, d3, d4] => { results := [.lit (.bool true)], args := [d1, d2, d3, d4] }
  | _ => none }
def cellsFollowRow : OpenClaim := { program := "ytfmmphabfdpegaa", sum := "24306c7f3a2c0ba610c6cadf73677118a250ddea5c15efdb3730902b7929abe1", func := "strongtx/strongtxlaw08.CellsFollow", spec := "cellsFollow", unfollowed := true, recurses := true, apart := false }
def CellsFollowSaid : Prop := cellsFollowRow.holds Try.pinned (OpenSpec.ofChange cellsFollowSpec)

/-- ITS FALSE NEIGHBOUR: 'it returns false'. Refute it at one input. -/
def cellsFollowWrong : ChangeSpec := { name := "cellsFollow", fn := fun _ => fun
  | [d1, d2, d3, d4] => { results := [.lit (.bool false)], args := [d1, d2, d3, d4] }
  | _ => none }
def CellsFollowWrongFalsely : Prop := cellsFollowRow.holds Try.pinned (OpenSpec.ofChange cellsFollowWrong)

/-- 'strongtxlaw08.CellsCopies': WHATEVER THE INPUT: true; the input reads as it did. -/
def cellsCopiesSpec : ChangeSpec := { name := "cellsCopies", fn := fun _ => fun
  | [d1, d2] => { results := [.lit (.bool true)], args := [d1, d2] }
  | _ => none }
def cellsCopiesRow : OpenClaim := { program := "ytfmmphabfdpegaa", sum := "24306c7f3a2c0ba610c6cadf73677118a250ddea5c15efdb3730902b7929abe1", func := "strongtx/strongtxlaw08.CellsCopies", spec := "cellsCopies", unfollowed := true, recurses := true, apart := false }
def CellsCopiesSaid : Prop := cellsCopiesRow.holds Try.pinned (OpenSpec.ofChange cellsCopiesSpec)

/-- ITS FALSE NEIGHBOUR: 'it returns false'. Refute it at one input. -/
def cellsCopiesWrong : ChangeSpec := { name := "cellsCopies", fn := fun _ => fun
  | [d1, d2] => { results := [.lit (.bool false)], args := [d1, d2] }
  | _ => none }
def CellsCopiesWrongFalsely : Prop := cellsCopiesRow.holds Try.pinned (OpenSpec.ofChange cellsCopiesWrong)

/-- 'strongtxlaw16.ValidatorProves': WHATEVER THE INPUT: true; the input reads as it did. -/
def validatorProvesSpec : ChangeSpec := { name := "validatorProves", fn := fun _ => fun
  | [d1, d2, d3, d4] => { results := [.lit (.bool true)], args := [d1, d2, d3, d4] }
  | _ => none }
def validatorProvesRow : OpenClaim := { program := "ytfmmphabfdpegaa", sum := "24306c7f3a2c0ba610c6cadf73677118a250ddea5c15efdb3730902b7929abe1", func := "strongtx/strongtxlaw16.ValidatorProves", spec := "validatorProves", unfollowed := true, recurses := true, apart := false }
def ValidatorProvesSaid : Prop := validatorProvesRow.holds Try.pinned (OpenSpec.ofChange validatorProvesSpec)

/-- ITS FALSE NEIGHBOUR: 'it returns false'. Refute it at one input. -/
def validatorProvesWrong : ChangeSpec := { name := "validatorProves", fn := fun _ => fun
  | [d1, d2, d3, d4] => { results := [.lit (.bool false)], args := [d1, d2, d3, d4] }
  | _ => none }
def ValidatorProvesWrongFalsely : Prop := validatorProvesRow.holds Try.pinned (OpenSpec.ofChange validatorProvesWrong)

/-- 'strongtxlaw16.ValidatorEmpty': WHATEVER THE INPUT: true; the input reads as it did. -/
def validatorEmptySpec : ChangeSpec := { name := "validatorEmpty", fn := fun _ => fun
  | [d] => { results := [.lit (.bool true)], args := [d] }
  | _ => none }
def validatorEmptyRow : OpenClaim := { program := "ytfmmphabfdpegaa", sum := "24306c7f3a2c0ba610c6cadf73677118a250ddea5c15efdb3730902b7929abe1", func := "strongtx/strongtxlaw16.ValidatorEmpty", spec := "validatorEmpty", unfollowed := true, recurses := true, apart := false }
def ValidatorEmptySaid : Prop := validatorEmptyRow.holds Try.pinned (OpenSpec.ofChange validatorEmptySpec)

/-- ITS FALSE NEIGHBOUR: 'it returns false'. Refute it at one input. -/
def validatorEmptyWrong : ChangeSpec := { name := "validatorEmpty", fn := fun _ => fun
  | [d] => { results := [.lit (.bool false)], args := [d] }
  | _ => none }
def ValidatorEmptyWrongFalsely : Prop := validatorEmptyRow.holds Try.pinned (OpenSpec.ofChange validatorEmptyWrong)

/-- 'strongtxlaw16.ValidatorFollows': WHATEVER THE INPUT: true; the input reads as it did. -/
def validatorFollowsSpec : ChangeSpec := { name := "validatorFollows", fn := fun _ => fun
  | [d1, d2, d3, d4] => { results := [.lit (.bool true)], args := [d1, d2, d3, d4] }
  | _ => none }
def validatorFollowsRow : OpenClaim := { program := "ytfmmphabfdpegaa", sum := "24306c7f3a2c0ba610c6cadf73677118a250ddea5c15efdb3730902b7929abe1", func := "strongtx/strongtxlaw16.ValidatorFollows", spec := "validatorFollows", unfollowed := true, recurses := true, apart := false }
def ValidatorFollowsSaid : Prop := validatorFollowsRow.holds Try.pinned (OpenSpec.ofChange validatorFollowsSpec)

/-- ITS FALSE NEIGHBOUR: 'it returns false'. Refute it at one input. -/
def validatorFollowsWrong : ChangeSpec := { name := "validatorFollows", fn := fun _ => fun
  | [d1, d2, d3, d4] => { results := [.lit (.bool false)], args := [d1, d2, d3, d4] }
  | _ => none }
def ValidatorFollowsWrongFalsely : Prop := validatorFollowsRow.holds Try.pinned (OpenSpec.ofChange validatorFollowsWrong)

/-- 'strongtxlaw16.ValidatorCalm': WHATEVER THE INPUT: true; the input reads as it did. -/
def validatorCalmSpec : ChangeSpec := { name := "validatorCalm", fn := fun _ => fun
  | [d1, d2, d3] => { results := [.lit (.bool true)], args := [d1, d2, d3] }
  | _ => none }
def validatorCalmRow : OpenClaim := { program := "ytfmmphabfdpegaa", sum := "24306c7f3a2c0ba610c6cadf73677118a250ddea5c15efdb3730902b7929abe1", func := "strongtx/strongtxlaw16.ValidatorCalm", spec := "validatorCalm", unfollowed := true, recurses := true, apart := false }
def ValidatorCalmSaid : Prop := validatorCalmRow.holds Try.pinned (OpenSpec.ofChange validatorCalmSpec)

/-- ITS FALSE NEIGHBOUR: 'it returns false'. Refute it at one input. -/
def validatorCalmWrong : ChangeSpec := { name := "validatorCalm", fn := fun _ => fun
  | [d1, d2, d3] => { results := [.lit (.bool false)], args := [d1, d2, d3] }
  | _ => none }
def ValidatorCalmWrongFalsely : Prop := validatorCalmRow.holds Try.pinned (OpenSpec.ofChange validatorCalmWrong)

/- THE SECOND FORM. 'bulk': how many values and letters a reading holds, each counted each time it is reached (what is shared counts as often as it is met; a slice's spare places count too). A statement '..UptoSaid' is the law's where the arguments, and the package variables that the reading takes, are together of bulk at most 1048576: NARROWER than '..Said'. Prove '..Said' where nothing that the law and all that it calls make is longer than what came in: it says more and counts as full. Else prove '..UptoSaid'. A law counts once. -/
mutual
def uptoBulk {H : Type} : DataW H → Nat
  | .lit (.string bytes) => bytes.length + 1
  | .lit _ => 1
  | .nil => 1
  | .ptr d => uptoBulk d + 1
  | .slice elems spare => uptoBulkAll elems + uptoBulkAll spare + 1
  | .agg parts => uptoBulkAll parts + 1
  | .iface _ d => uptoBulk d + 1
  | .map entries => uptoBulkEntries entries + 1
  | .held _ => 1
def uptoBulkAll {H : Type} : List (DataW H) → Nat
  | [] => 0
  | d :: r => uptoBulk d + uptoBulkAll r
def uptoBulkEntries {H : Type} : List (Lit × DataW H) → Nat
  | [] => 0
  | x :: r => uptoBulkEntry x + uptoBulkEntries r
def uptoBulkEntry {H : Type} : Lit × DataW H → Nat
  | (.string bytes, d) => bytes.length + uptoBulk d + 1
  | (_, d) => uptoBulk d + 1
 end
def uptoSmall : (H : Type) → List (DataW H) → Bool := fun _ ds => decide (uptoBulkAll ds ≤ 1048576)
def OpenSpec.upto (s : _root_.Go.ChangeSpec) : _root_.Go.OpenSpec := { _root_.Go.OpenSpec.ofChange s with cond := some uptoSmall }

/-- 'strongtxlaw08.CellsSwaps', WHERE WHAT IT READS IS OF BULK AT MOST 1048576: true; the input reads as it did. -/
def cellsSwapsUptoRow : OpenClaim := { program := "ytfmmphabfdpegaa", sum := "24306c7f3a2c0ba610c6cadf73677118a250ddea5c15efdb3730902b7929abe1", func := "strongtx/strongtxlaw08.CellsSwaps", spec := "cellsSwaps", unfollowed := true, recurses := true, apart := false, narrowed := true }
def CellsSwapsUptoSaid : Prop := cellsSwapsUptoRow.holds Try.pinned (OpenSpec.upto cellsSwapsSpec)

/-- 'strongtxlaw08.CellsApart', WHERE WHAT IT READS IS OF BULK AT MOST 1048576: true; the input reads as it did. -/
def cellsApartUptoRow : OpenClaim := { program := "ytfmmphabfdpegaa", sum := "24306c7f3a2c0ba610c6cadf73677118a250ddea5c15efdb3730902b7929abe1", func := "strongtx/strongtxlaw08.CellsApart", spec := "cellsApart", unfollowed := true, recurses := true, apart := false, narrowed := true }
def CellsApartUptoSaid : Prop := cellsApartUptoRow.holds Try.pinned (OpenSpec.upto cellsApartSpec)

/-- 'strongtxlaw08.CellsBegin', WHERE WHAT IT READS IS OF BULK AT MOST 1048576: true; the input reads as it did. -/
def cellsBeginUptoRow : OpenClaim := { program := "ytfmmphabfdpegaa", sum := "24306c7f3a2c0ba610c6cadf73677118a250ddea5c15efdb3730902b7929abe1", func := "strongtx/strongtxlaw08.CellsBegin", spec := "cellsBegin", unfollowed := true, recurses := true, apart := false, narrowed := true }
def CellsBeginUptoSaid : Prop := cellsBeginUptoRow.holds Try.pinned (OpenSpec.upto cellsBeginSpec)

/-- 'strongtxlaw08.CellsCounts', WHERE WHAT IT READS IS OF BULK AT MOST 1048576: true; the input reads as it did. -/
def cellsCountsUptoRow : OpenClaim := { program := "ytfmmphabfdpegaa", sum := "24306c7f3a2c0ba610c6cadf73677118a250ddea5c15efdb3730902b7929abe1", func := "strongtx/strongtxlaw08.CellsCounts", spec := "cellsCounts", unfollowed := true, recurses := true, apart := false, narrowed := true }
def CellsCountsUptoSaid : Prop := cellsCountsUptoRow.holds Try.pinned (OpenSpec.upto cellsCountsSpec)

/-- 'strongtxlaw08.CellsFollow', WHERE WHAT IT READS IS OF BULK AT MOST 1048576: true; the input reads as it did. -/
def cellsFollowUptoRow : OpenClaim := { program := "ytfmmphabfdpegaa", sum := "24306c7f3a2c0ba610c6cadf73677118a250ddea5c15efdb3730902b7929abe1", func := "strongtx/strongtxlaw08.CellsFollow", spec := "cellsFollow", unfollowed := true, recurses := true, apart := false, narrowed := true }
def CellsFollowUptoSaid : Prop := cellsFollowUptoRow.holds Try.pinned (OpenSpec.upto cellsFollowSpec)

/-- 'strongtxlaw08.CellsCopies', WHERE WHAT IT READS IS OF BULK AT MOST 1048576: true; the input reads as it did. -/
def cellsCopiesUptoRow : OpenClaim := { program := "ytfmmphabfdpegaa", sum := "24306c7f3a2c0ba610c6cadf73677118a250ddea5c15efdb3730902b7929abe1", func := "strongtx/strongtxlaw08.CellsCopies", spec := "cellsCopies", unfollowed := true, recurses := true, apart := false, narrowed := true }
def CellsCopiesUptoSaid : Prop := cellsCopiesUptoRow.holds Try.pinned (OpenSpec.upto cellsCopiesSpec)

/-- 'strongtxlaw16.ValidatorProves', WHERE WHAT IT READS IS OF BULK AT MOST 1048576: true; the input reads as it did. -/
def validatorProvesUptoRow : OpenClaim := { program := "ytfmmphabfdpegaa", sum := "24306c7f3a2c0ba610c6cadf73677118a250ddea5c15efdb3730902b7929abe1", func := "strongtx/strongtxlaw16.ValidatorProves", spec := "validatorProves", unfollowed := true, recurses := true, apart := false, narrowed := true }
def ValidatorProvesUptoSaid : Prop := validatorProvesUptoRow.holds Try.pinned (OpenSpec.upto validatorProvesSpec)

/-- 'strongtxlaw16.ValidatorEmpty', WHERE WHAT IT READS IS OF BULK AT MOST 1048576: true; the input reads as it did. -/
def validatorEmptyUptoRow : OpenClaim := { program := "ytfmmphabfdpegaa", sum := "24306c7f3a2c0ba610c6cadf73677118a250ddea5c15efdb3730902b7929abe1", func := "strongtx/strongtxlaw16.ValidatorEmpty", spec := "validatorEmpty", unfollowed := true, recurses := true, apart := false, narrowed := true }
def ValidatorEmptyUptoSaid : Prop := validatorEmptyUptoRow.holds Try.pinned (OpenSpec.upto validatorEmptySpec)

/-- 'strongtxlaw16.ValidatorFollows', WHERE WHAT IT READS IS OF BULK AT MOST 1048576: true; the input reads as it did. -/
def validatorFollowsUptoRow : OpenClaim := { program := "ytfmmphabfdpegaa", sum := "24306c7f3a2c0ba610c6cadf73677118a250ddea5c15efdb3730902b7929abe1", func := "strongtx/strongtxlaw16.ValidatorFollows", spec := "validatorFollows", unfollowed := true, recurses := true, apart := false, narrowed := true }
def ValidatorFollowsUptoSaid : Prop := validatorFollowsUptoRow.holds Try.pinned (OpenSpec.upto validatorFollowsSpec)

/-- 'strongtxlaw16.ValidatorCalm', WHERE WHAT IT READS IS OF BULK AT MOST 1048576: true; the input reads as it did. -/
def validatorCalmUptoRow : OpenClaim := { program := "ytfmmphabfdpegaa", sum := "24306c7f3a2c0ba610c6cadf73677118a250ddea5c15efdb3730902b7929abe1", func := "strongtx/strongtxlaw16.ValidatorCalm", spec := "validatorCalm", unfollowed := true, recurses := true, apart := false, narrowed := true }
def ValidatorCalmUptoSaid : Prop := validatorCalmUptoRow.holds Try.pinned (OpenSpec.upto validatorCalmSpec)

end Rows
end Go.Proofs.Ytfmmphabfdpegaa
