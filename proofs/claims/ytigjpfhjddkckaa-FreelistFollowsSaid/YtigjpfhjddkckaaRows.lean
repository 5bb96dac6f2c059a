/-
  No cell of these rows narrows 'for every input' (looked for: loops, veiled, ifaces, maps, wideKeys, modest, calm, conditions, laid).
  DERIVED. THE GIVEN ROWS OF THIS SEAT. 10 by the template 'for every input the law returns true; each argument reads behind the call as it read before'; 0 by the template 'total and deterministic' (their statements: YtigjpfhjddkckaaTotals.lean).
  GIVEN WITH THE SEED: the statements are not yours to turn. If you find one false, say at which input.
  Laid BY PROGRAM, IN A SANDBOX (cutbox-rows.mjs): the forced cells as the released guide's own fill.sh prints them over the translation 52b0ad49d438d081… (all of the seat's roots in one cut). By AI agents, Wed Nov 11 2026. No macro, syntax, notation, axiom, sorry.
-/
import Derived.Test.YtigjpfhjddkckaaChecked
import GoSem.Claim
import GoSem.ClaimJoined
import GoSem.ClaimMapViews
import Derived.JoinedTies
import Derived.KernelRfl
namespace Go.Proofs.Ytigjpfhjddkckaa
/- THE CELL 'sum', in the pinned program and in every row, IS THE sha256 OF THE DUMP (.gsa) THAT YtigjpfhjddkckaaProg.lean LOADS. Nothing in Lean hashes anything: it is a label: what it is worth is what the hold of that sum in a sandbox is worth. -/
noncomputable def Try.pinned : Pinned := { name := "ytigjpfhjddkckaa", sum := "52b0ad49d438d0811d6fe7c5235ec3a94fa8455f3c08da7555238d254849e367", checked := Try.checked }
namespace Rows
def none {H : Type} : Left H := { results := [], args := [] }

/-- 'strongtxlaw11.FreelistFollows': WHATEVER THE INPUT: true; the input reads as it did. -/
def freelistFollowsSpec : ChangeSpec := { name := "freelistFollows", fn := fun _ => fun
  | [d1, d2] => { results := [.lit (.bool true)], args := [d1, d2] }
  | _ => none }
def freelistFollowsRow : OpenClaim := { program := "ytigjpfhjddkckaa", sum := "52b0ad49d438d0811d6fe7c5235ec3a94fa8455f3c08da7555238d254849e367", func := "strongtx/strongtxlaw11.FreelistFollows", spec := "freelistFollows", unfollowed := true, recurses := true, apart := false }
def FreelistFollowsSaid : Prop := freelistFollowsRow.holds Try.pinned (OpenSpec.ofChange freelistFollowsSpec)

/-- ITS FALSE NEIGHBOUR: 'it returns false'. Refute it at one input. -/
def freelistFollowsWrong : ChangeSpec := { name := "freelistFollows", fn := fun _ => fun
  | [d1, d2] => { results := [.lit (.bool false)], args := [d1, d2] }
  | _ => none }
def FreelistFollowsWrongFalsely : Prop := freelistFollowsRow.holds Try.pinned (OpenSpec.ofChange freelistFollowsWrong)

/-- 'strongtxlaw11.FreelistLists': WHATEVER THE INPUT: true; the input reads as it did. -/
def freelistListsSpec : ChangeSpec := { name := "freelistLists", fn := fun _ => fun
  | [d1, d2, d3, d4, d5] => { results := [.lit (.bool true)], args := [d1, d2, d3, d4, d5] }
  | _ => none }
def freelistListsRow : OpenClaim := { program := "ytigjpfhjddkckaa", sum := "52b0ad49d438d0811d6fe7c5235ec3a94fa8455f3c08da7555238d254849e367", func := "strongtx/strongtxlaw11.FreelistLists", spec := "freelistLists", unfollowed := true, recurses := true, apart := false }
def FreelistListsSaid : Prop := freelistListsRow.holds Try.pinned (OpenSpec.ofChange freelistListsSpec)

/-- ITS FALSE NEIGHBOUR: 'it returns false'. Refute it at one input. -/
def freelistListsWrong : ChangeSpec := { name := "freelistLists", fn := fun _ => fun
  | [d1, d2, d3, d4, d5] => { results := [.lit (.bool false)], args := [d1, d2, d3, d4, d5] }
  | _ => none }
def FreelistListsWrongFalsely : Prop := freelistListsRow.holds Try.pinned (OpenSpec.ofChange freelistListsWrong)

/-- 'strongtxlaw11.FreelistKeeps': WHATEVER THE INPUT: true; the input reads as it did. -/
def freelistKeepsSpec : ChangeSpec := { name := "freelistKeeps", fn := fun _ => fun
  | [d1, d2] => { results := [.lit (.bool true)], args := [d1, d2] }
  | _ => none }
def freelistKeepsRow : OpenClaim := { program := "ytigjpfhjddkckaa", sum := "52b0ad49d438d0811d6fe7c5235ec3a94fa8455f3c08da7555238d254849e367", func := "strongtx/strongtxlaw11.FreelistKeeps", spec := "freelistKeeps", unfollowed := true, recurses := true, apart := false }
def FreelistKeepsSaid : Prop := freelistKeepsRow.holds Try.pinned (OpenSpec.ofChange freelistKeepsSpec)

/-- ITS FALSE NEIGHBOUR: 'it returns false'. Refute it at one input. -/
def freelistKeepsWrong : ChangeSpec := { name := "freelistKeeps", fn := fun _ => fun
  | [d1, d2] => { results := [.lit (.bool false)], args := [d1, d2] }
  | _ => none }
def FreelistKeepsWrongFalsely : Prop := freelistKeepsRow.holds Try.pinned (OpenSpec.ofChange freelistKeepsWrong)

/-- 'strongtxlaw11.FreelistEmpty': WHATEVER THE INPUT: true; the input reads as it did. -/
def freelistEmptySpec : ChangeSpec := { name := "freelistEmpty", fn := fun _ => fun
  | [d1, d2] => { results := [.lit (.bool true)], args := [d1, d2] }
  | _ => none }
def freelistEmptyRow : OpenClaim := { program := "ytigjpfhjddkckaa", sum := "52b0ad49d438d0811d6fe7c5235ec3a94fa8455f3c08da7555238d254849e367", func := "strongtx/strongtxlaw11.FreelistEmpty", spec := "freelistEmpty", unfollowed := true, recurses := true, apart := false }
def FreelistEmptySaid : Prop := freelistEmptyRow.holds Try.pinned (OpenSpec.ofChange freelistEmptySpec)

/-- ITS FALSE NEIGHBOUR: 'it returns false'. Refute it at one input. -/
def freelistEmptyWrong : ChangeSpec := { name := "freelistEmpty", fn := fun _ => fun
  | [d1, d2] => { results := [.lit (.bool false)], args := [d1, d2] }
  | _ => none }
def FreelistEmptyWrongFalsely : Prop := freelistEmptyRow.holds Try.pinned (OpenSpec.ofChange freelistEmptyWrong)

/-- 'strongtxlaw11.FreelistTags': WHATEVER THE INPUT: true; the input reads as it did. -/
def freelistTagsSpec : ChangeSpec := { name := "freelistTags", fn := fun _ => fun
  | [d1, d2] => { results := [.lit (.bool true)], args := [d1, d2] }
  | _ => none }
def freelistTagsRow : OpenClaim := { program := "ytigjpfhjddkckaa", sum := "52b0ad49d438d0811d6fe7c5235ec3a94fa8455f3c08da7555238d254849e367", func := "strongtx/strongtxlaw11.FreelistTags", spec := "freelistTags", unfollowed := true, recurses := true, apart := false }
def FreelistTagsSaid : Prop := freelistTagsRow.holds Try.pinned (OpenSpec.ofChange freelistTagsSpec)

/-- ITS FALSE NEIGHBOUR: 'it returns false'. Refute it at one input. -/
def freelistTagsWrong : ChangeSpec := { name := "freelistTags", fn := fun _ => fun
  | [d1, d2] => { results := [.lit (.bool false)], args := [d1, d2] }
  | _ => none }
def FreelistTagsWrongFalsely : Prop := freelistTagsRow.holds Try.pinned (OpenSpec.ofChange freelistTagsWrong)

/-- 'strongtxlaw09.EpochFences': WHATEVER THE INPUT: true; the input reads as it did. -/
def epochFencesSpec : ChangeSpec := { name := "epochFences", fn := fun _ => fun
  | [d1, d2, d3, d4, d5, d6] => { results := [.lit (.bool true)], args := [d1, d2, d3, d4, d5, d6] }
  | _ => none }
def epochFencesRow : OpenClaim := { program := "ytigjpfhjddkckaa", sum := "52b0ad49d438d0811d6fe7c5235ec3a94fa8455f3c08da7555238d254849e367", func := "strongtx/strongtxlaw09.EpochFences", spec := "epochFences", unfollowed := true, recurses := true, apart := false }
def EpochFencesSaid : Prop := epochFencesRow.holds Try.pinned (OpenSpec.ofChange epochFencesSpec)

/-- ITS FALSE NEIGHBOUR: 'it returns false'. Refute it at one input. -/
def epochFencesWrong : ChangeSpec := { name := "epochFences", fn := fun _ => fun
  | [d1, d2, d3, d4, d5, d6] => { results := [.lit (.bool false)], args := [d1, d2, d3, d4, d5, d6] }
  | _ => none }
def EpochFencesWrongFalsely : Prop := epochFencesRow.holds Try.pinned (OpenSpec.ofChange epochFencesWrong)

/-- 'strongtxlaw09.EpochIdle': WHATEVER THE INPUT: true; the input reads as it did. -/
def epochIdleSpec : ChangeSpec := { name := "epochIdle", fn := fun _ => fun
  | [d1, d2] => { results := [.lit (.bool true)], args := [d1, d2] }
  | _ => none }
def epochIdleRow : OpenClaim := { program := "ytigjpfhjddkckaa", sum := "52b0ad49d438d0811d6fe7c5235ec3a94fa8455f3c08da7555238d254849e367", func := "strongtx/strongtxlaw09.EpochIdle", spec := "epochIdle", unfollowed := true, recurses := true, apart := false }
def EpochIdleSaid : Prop := epochIdleRow.holds Try.pinned (OpenSpec.ofChange epochIdleSpec)

/-- ITS FALSE NEIGHBOUR: 'it returns false'. Refute it at one input. -/
def epochIdleWrong : ChangeSpec := { name := "epochIdle", fn := fun _ => fun
  | [d1, d2] => { results := [.lit (.bool false)], args := [d1, d2] }
  | _ => none }
def EpochIdleWrongFalsely : Prop := epochIdleRow.holds Try.pinned (OpenSpec.ofChange epochIdleWrong)

/-- 'strongtxlaw09.EpochSlots': WHATEVER THE INPUT: true; the input reads as it did. -/
def epochSlotsSpec : ChangeSpec := { name := "epochSlots", fn := fun _ => fun
  | [d1, d2, d3] => { results := [.lit (.bool true)], args := [d1, d2, d3] }
  | _ => none }
def epochSlotsRow : OpenClaim := { program := "ytigjpfhjddkckaa", sum := "52b0ad49d438d0811d6fe7c5235ec3a94fa8455f3c08da7555238d254849e367", func := "strongtx/strongtxlaw09.EpochSlots", spec := "epochSlots", unfollowed := true, recurses := true, apart := false }
def EpochSlotsSaid : Prop := epochSlotsRow.holds Try.pinned (OpenSpec.ofChange epochSlotsSpec)

/-- ITS FALSE NEIGHBOUR: 'it returns false'. Refute it at one input. -/
def epochSlotsWrong : ChangeSpec := { name := "epochSlots", fn := fun _ => fun
  | [d1, d2, d3] => { results := [.lit (.bool false)], args := [d1, d2, d3] }
  | _ => none }
def EpochSlotsWrongFalsely : Prop := epochSlotsRow.holds Try.pinned (OpenSpec.ofChange epochSlotsWrong)

/-- 'strongtxlaw09.EpochEnters': WHATEVER THE INPUT: true; the input reads as it did. -/
def epochEntersSpec : ChangeSpec := { name := "epochEnters", fn := fun _ => fun
  | [d1, d2, d3] => { results := [.lit (.bool true)], args := [d1, d2, d3] }
  | _ => none }
def epochEntersRow : OpenClaim := { program := "ytigjpfhjddkckaa", sum := "52b0ad49d438d0811d6fe7c5235ec3a94fa8455f3c08da7555238d254849e367", func := "strongtx/strongtxlaw09.EpochEnters", spec := "epochEnters", unfollowed := true, recurses := true, apart := false }
def EpochEntersSaid : Prop := epochEntersRow.holds Try.pinned (OpenSpec.ofChange epochEntersSpec)

/-- ITS FALSE NEIGHBOUR: 'it returns false'. Refute it at one input. -/
def epochEntersWrong : ChangeSpec := { name := "epochEnters", fn := fun _ => fun
  | [d1, d2, d3] => { results := [.lit (.bool false)], args := [d1, d2, d3] }
  | _ => none }
def EpochEntersWrongFalsely : Prop := epochEntersRow.holds Try.pinned (OpenSpec.ofChange epochEntersWrong)

/-- 'strongtxlaw09.EpochGrace': WHATEVER THE INPUT: true; the input reads as it did. -/
def epochGraceSpec : ChangeSpec := { name := "epochGrace", fn := fun _ => fun
  | [d1, d2] => { results := [.lit (.bool true)], args := [d1, d2] }
  | _ => none }
def epochGraceRow : OpenClaim := { program := "ytigjpfhjddkckaa", sum := "52b0ad49d438d0811d6fe7c5235ec3a94fa8455f3c08da7555238d254849e367", func := "strongtx/strongtxlaw09.EpochGrace", spec := "epochGrace", unfollowed := true, recurses := true, apart := false }
def EpochGraceSaid : Prop := epochGraceRow.holds Try.pinned (OpenSpec.ofChange epochGraceSpec)

/-- ITS FALSE NEIGHBOUR: 'it returns false'. Refute it at one input. -/
def epochGraceWrong : ChangeSpec := { name := "epochGrace", fn := fun _ => fun
  | [d1, d2] => { results := [.lit (.bool false)], args := [d1, d2] }
  | _ => none }
def EpochGraceWrongFalsely : Prop := epochGraceRow.holds Try.pinned (OpenSpec.ofChange epochGraceWrong)

/- THE SECOND FORM. 'bulk': how many values and letters a reading holds, each counted each time it is reached (what is shared counts as often as it is met; a slice's spare places count too). A statement '..UptoSaid' is the law's where the arguments, and the package variables that the reading takes, are together of bulk at most 1048576: NARROWER than '..Said'. Prove '..Said' where nothing that the law and all that it calls make is longer than what came in: it says more and counts as full. Else prove '..UptoSaid'. A law counts once. -/
mutual
def uptoBulk {H : Type} : DataW H → Nat
  | .lit (.string bytes) => bytes.length + 1
  | .lit _ => 1
  | .nil => 1
  | .ptr d => uptoBulk d + 1
  | .slice elems spare => uptoBulkAll elems + uptoBulkAll spare + 1
  | .agg parts => uptoBulkAll parts + 1
  | .iface _ d => uptoBulk d + 1
  | .map entries => uptoBulkEntries entries + 1
  | .held _ => 1
def uptoBulkAll {H : Type} : List (DataW H) → Nat
  | [] => 0
  | d :: r => uptoBulk d + uptoBulkAll r
def uptoBulkEntries {H : Type} : List (Lit × DataW H) → Nat
  | [] => 0
  | x :: r => uptoBulkEntry x + uptoBulkEntries r
def uptoBulkEntry {H : Type} : Lit × DataW H → Nat
  | (.string bytes, d) => bytes.length + uptoBulk d + 1
  | (_, d) => uptoBulk d + 1
 end
def uptoSmall : (H : Type) → List (DataW H) → Bool := fun _ ds => decide (uptoBulkAll ds ≤ 1048576)
def OpenSpec.upto (s : _root_.Go.ChangeSpec) : _root_.Go.OpenSpec := { _root_.Go.OpenSpec.ofChange s with cond := some uptoSmall }

/-- 'strongtxlaw11.FreelistFollows', WHERE WHAT IT READS IS OF BULK AT MOST 1048576: true; the input reads as it did. -/
def freelistFollowsUptoRow : OpenClaim := { program := "ytigjpfhjddkckaa", sum := "52b0ad49d438d0811d6fe7c5235ec3a94fa8455f3c08da7555238d254849e367", func := "strongtx/strongtxlaw11.FreelistFollows", spec := "freelistFollows", unfollowed := true, recurses := true, apart := false, narrowed := true }
def FreelistFollowsUptoSaid : Prop := freelistFollowsUptoRow.holds Try.pinned (OpenSpec.upto freelistFollowsSpec)

/-- 'strongtxlaw11.FreelistLists', WHERE WHAT IT READS IS OF BULK AT MOST 1048576: true; the input reads as it did. -/
def freelistListsUptoRow : OpenClaim := { program := "ytigjpfhjddkckaa", sum := "52b0ad49d438d0811d6fe7c5235ec3a94fa8455f3c08da7555238d254849e367", func := "strongtx/strongtxlaw11.FreelistLists", spec := "freelistLists", unfollowed := true, recurses := true, apart := false, narrowed := true }
def FreelistListsUptoSaid : Prop := freelistListsUptoRow.holds Try.pinned (OpenSpec.upto freelistListsSpec)

/-- 'strongtxlaw11.FreelistKeeps', WHERE WHAT IT READS IS OF BULK AT MOST 1048576: true; the input reads as it did. -/
def freelistKeepsUptoRow : OpenClaim := { program := "ytigjpfhjddkckaa", sum := "52b0ad49d438d0811d6fe7c5235ec3a94fa8455f3c08da7555238d254849e367", func := "strongtx/strongtxlaw11.FreelistKeeps", spec := "freelistKeeps", unfollowed := true, recurses := true, apart := false, narrowed := true }
def FreelistKeepsUptoSaid : Prop := freelistKeepsUptoRow.holds Try.pinned (OpenSpec.upto freelistKeepsSpec)

/-- 'strongtxlaw11.FreelistEmpty', WHERE WHAT IT READS IS OF BULK AT MOST 1048576: true; the input reads as it did. -/
def freelistEmptyUptoRow : OpenClaim := { program := "ytigjpfhjddkckaa", sum := "52b0ad49d438d0811d6fe7c5235ec3a94fa8455f3c08da7555238d254849e367", func := "strongtx/strongtxlaw11.FreelistEmpty", spec := "freelistEmpty", unfollowed := true, recurses := true, apart := false, narrowed := true }
def FreelistEmptyUptoSaid : Prop := freelistEmptyUptoRow.holds Try.pinned (OpenSpec.upto freelistEmptySpec)

/-- 'strongtxlaw11.FreelistTags', WHERE WHAT IT READS IS OF BULK AT MOST 1048576: true; the input reads as it did. -/
def freelistTagsUptoRow : OpenClaim := { program := "ytigjpfhjddkckaa", sum := "52b0ad49d438d0811d6fe7c5235ec3a94fa8455f3c08da7555238d254849e367", func := "strongtx/strongtxlaw11.FreelistTags", spec := "freelistTags", unfollowed := true, recurses := true, apart := false, narrowed := true }
def FreelistTagsUptoSaid : Prop := freelistTagsUptoRow.holds Try.pinned (OpenSpec.upto freelistTagsSpec)

/-- 'strongtxlaw09.EpochFences', WHERE WHAT IT READS IS OF BULK AT MOST 1048576: true; the input reads as it did. -/
def epochFencesUptoRow : OpenClaim := { program := "ytigjpfhjddkckaa", sum := "52b0ad49d438d0811d6fe7c5235ec3a94fa8455f3c08da7555238d254849e367", func := "strongtx/strongtxlaw09.EpochFences", spec := "epochFences", unfollowed := true, recurses := true, apart := false, narrowed := true }
def EpochFencesUptoSaid : Prop := epochFencesUptoRow.holds Try.pinned (OpenSpec.upto epochFencesSpec)

/-- 'strongtxlaw09.EpochIdle', WHERE WHAT IT READS IS OF BULK AT MOST 1048576: true; the input reads as it did. -/
def epochIdleUptoRow : OpenClaim := { program := "ytigjpfhjddkckaa", sum := "52b0ad49d438d0811d6fe7c5235ec3a94fa8455f3c08da7555238d254849e367", func := "strongtx/strongtxlaw09.EpochIdle", spec := "epochIdle", unfollowed := true, recurses := true, apart := false, narrowed := true }
def EpochIdleUptoSaid : Prop := epochIdleUptoRow.holds Try.pinned (OpenSpec.upto epochIdleSpec)

/-- 'strongtxlaw09.EpochSlots', WHERE WHAT IT READS IS OF BULK AT MOST 1048576: true; the input reads as it did. -/
def epochSlotsUptoRow : OpenClaim := { program := "ytigjpfhjddkckaa", sum := "52b0ad49d438d0811d6fe7c5235ec3a94fa8455f3c08da7555238d254849e367", func := "strongtx/strongtxlaw09.EpochSlots", spec := "epochSlots", unfollowed := true, recurses := true, apart := false, narrowed := true }
def EpochSlotsUptoSaid : Prop := epochSlotsUptoRow.holds Try.pinned (OpenSpec.upto epochSlotsSpec)

/-- 'strongtxlaw09.EpochEnters', WHERE WHAT IT READS IS OF BULK AT MOST 1048576: true; the input reads as it did. -/
def epochEntersUptoRow : OpenClaim := { program := "ytigjpfhjddkckaa", sum := "52b0ad49d438d0811d6fe7c5235ec3a94fa8455f3c08da7555238d254849e367", func := "strongtx/strongtxlaw09.EpochEnters", spec := "epochEnters", unfollowed := true, recurses := true, apart := false, narrowed := true }
def EpochEntersUptoSaid : Prop := epochEntersUptoRow.holds Try.pinned (OpenSpec.upto epochEntersSpec)

/-- 'strongtxlaw09.EpochGrace', WHERE WHAT IT READS IS OF BULK AT MOST 1048576: true; the input reads as it did. -/
def epochGraceUptoRow : OpenClaim := { program := "ytigjpfhjddkckaa", sum := "52b0ad49d438d0811d6fe7c5235ec3a94fa8455f3c08da7555238d254849e367", func := "strongtx/strongtxlaw09.EpochGrace", spec := "epochGrace", unfollowed := true, recurses := true, apart := false, narrowed := true }
def EpochGraceUptoSaid : Prop := epochGraceUptoRow.holds Try.pinned (OpenSpec.upto epochGraceSpec)

end Rows
end Go.Proofs.Ytigjpfhjddkckaa
