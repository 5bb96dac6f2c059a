/-
  No cell of these rows narrows 'for every input' (looked for: loops, veiled, ifaces, maps, wideKeys, modest, calm, conditions, laid).
  DERIVED. THE GIVEN ROWS OF THIS SEAT. 11 by the template 'for every input the law returns true; each argument reads behind the call as it read before'; 0 by the template 'total and deterministic' (their statements: YtddghhddafeojaaTotals.lean).
  GIVEN WITH THE SEED: the statements are not yours to turn. If you find one false, say at which input.
  Laid BY PROGRAM, IN A SANDBOX (cutbox-rows.mjs): the forced cells as the released guide's own fill.sh prints them over the translation cca7a6f3dccacf74… (all of the seat's roots in one cut). By AI agents, Wed Nov 11 2026. No macro, syntax, notation, axiom, sorry.
-/
import Derived.Test.YtddghhddafeojaaChecked
import GoSem.Claim
import GoSem.ClaimJoined
import GoSem.ClaimMapViews
import Derived.JoinedTies
import Derived.KernelRfl
namespace Go.Proofs.Ytddghhddafeojaa
/- THE CELL 'sum', in the pinned program and in every row, IS THE sha256 OF THE DUMP (.gsa) THAT YtddghhddafeojaaProg.lean LOADS. Nothing in Lean hashes anything: it is a label: what it is worth is what the hold of that sum in a sandbox is worth. -/
noncomputable def Try.pinned : Pinned := { name := "ytddghhddafeojaa", sum := "cca7a6f3dccacf74381075f6f18173d644af51417af60d0416163bf1d1a9d6db", checked := Try.checked }
namespace Rows
def none {H : Type} : Left H := { results := [], args := [] }

/-- 'strongtxlaw17.WriterFollows': WHATEVER THE INPUT: true; the input reads as it did. -/
def writerFollowsSpec : ChangeSpec := { name := "writerFollows", fn := fun _ => fun
  | [d1, d2] => { results := [.lit (.bool true)], args := [d1, d2] }
  | _ => none }
def writerFollowsRow : OpenClaim := { program := "ytddghhddafeojaa", sum := "cca7a6f3dccacf74381075f6f18173d644af51417af60d0416163bf1d1a9d6db", func := "strongtx/strongtxlaw17.WriterFollows", spec := "writerFollows", unfollowed := true, recurses := true, apart := false }
def WriterFollowsSaid : Prop := writerFollowsRow.holds Try.pinned (OpenSpec.ofChange writerFollowsSpec)

/-- ITS FALSE NEIGHBOUR: 'it returns false'. Refute it at one input. -/
def writerFollowsWrong : ChangeSpec := { name := "writerFollows", fn := fun _ => fun
  | [d1, d2] => { results := [.lit (.bool false)], args := [d1, d2] }
  | _ => none }
def WriterFollowsWrongFalsely : Prop := writerFollowsRow.holds Try.pinned (OpenSpec.ofChange writerFollowsWrong)

/-- 'strongtxlaw17.WriterLast': WHATEVER THE INPUT: true; the input reads as it did. -/
def writerLastSpec : ChangeSpec := { name := "writerLast", fn := fun _ => fun
  | [d1, d2] => { results := [.lit (.bool true)], args := [d1, d2] }
  | _ => none }
def writerLastRow : OpenClaim := { program := "ytddghhddafeojaa", sum := "cca7a6f3dccacf74381075f6f18173d644af51417af60d0416163bf1d1a9d6db", func := "strongtx/strongtxlaw17.WriterLast", spec := "writerLast", unfollowed := true, recurses := true, apart := false }
def WriterLastSaid : Prop := writerLastRow.holds Try.pinned (OpenSpec.ofChange writerLastSpec)

/-- ITS FALSE NEIGHBOUR: 'it returns false'. Refute it at one input. -/
def writerLastWrong : ChangeSpec := { name := "writerLast", fn := fun _ => fun
  | [d1, d2] => { results := [.lit (.bool false)], args := [d1, d2] }
  | _ => none }
def WriterLastWrongFalsely : Prop := writerLastRow.holds Try.pinned (OpenSpec.ofChange writerLastWrong)

/-- 'strongtxlaw17.WriterKeeps': WHATEVER THE INPUT: true; the input reads as it did. -/
def writerKeepsSpec : ChangeSpec := { name := "writerKeeps", fn := fun _ => fun
  | [d1, d2] => { results := [.lit (.bool true)], args := [d1, d2] }
  | _ => none }
def writerKeepsRow : OpenClaim := { program := "ytddghhddafeojaa", sum := "cca7a6f3dccacf74381075f6f18173d644af51417af60d0416163bf1d1a9d6db", func := "strongtx/strongtxlaw17.WriterKeeps", spec := "writerKeeps", unfollowed := true, recurses := true, apart := false }
def WriterKeepsSaid : Prop := writerKeepsRow.holds Try.pinned (OpenSpec.ofChange writerKeepsSpec)

/-- ITS FALSE NEIGHBOUR: 'it returns false'. Refute it at one input. -/
def writerKeepsWrong : ChangeSpec := { name := "writerKeeps", fn := fun _ => fun
  | [d1, d2] => { results := [.lit (.bool false)], args := [d1, d2] }
  | _ => none }
def WriterKeepsWrongFalsely : Prop := writerKeepsRow.holds Try.pinned (OpenSpec.ofChange writerKeepsWrong)

/-- 'strongtxlaw10.TurnExcludes': WHATEVER THE INPUT: true; the input reads as it did. -/
def turnExcludesSpec : ChangeSpec := { name := "turnExcludes", fn := fun _ => fun
  | [d1, d2] => { results := [.lit (.bool true)], args := [d1, d2] }
  | _ => none }
def turnExcludesRow : OpenClaim := { program := "ytddghhddafeojaa", sum := "cca7a6f3dccacf74381075f6f18173d644af51417af60d0416163bf1d1a9d6db", func := "strongtx/strongtxlaw10.TurnExcludes", spec := "turnExcludes", unfollowed := true, recurses := true, apart := false }
def TurnExcludesSaid : Prop := turnExcludesRow.holds Try.pinned (OpenSpec.ofChange turnExcludesSpec)

/-- ITS FALSE NEIGHBOUR: 'it returns false'. Refute it at one input. -/
def turnExcludesWrong : ChangeSpec := { name := "turnExcludes", fn := fun _ => fun
  | [d1, d2] => { results := [.lit (.bool false)], args := [d1, d2] }
  | _ => none }
def TurnExcludesWrongFalsely : Prop := turnExcludesRow.holds Try.pinned (OpenSpec.ofChange turnExcludesWrong)

/-- 'strongtxlaw10.TurnFollows': WHATEVER THE INPUT: true; the input reads as it did. -/
def turnFollowsSpec : ChangeSpec := { name := "turnFollows", fn := fun _ => fun
  | [d1, d2, d3, d4] => { results := [.lit (.bool true)], args := [d1, d2, d3, d4] }
  | _ => none }
def turnFollowsRow : OpenClaim := { program := "ytddghhddafeojaa", sum := "cca7a6f3dccacf74381075f6f18173d644af51417af60d0416163bf1d1a9d6db", func := "strongtx/strongtxlaw10.TurnFollows", spec := "turnFollows", unfollowed := true, recurses := true, apart := false }
def TurnFollowsSaid : Prop := turnFollowsRow.holds Try.pinned (OpenSpec.ofChange turnFollowsSpec)

/-- ITS FALSE NEIGHBOUR: 'it returns false'. Refute it at one input. -/
def turnFollowsWrong : ChangeSpec := { name := "turnFollows", fn := fun _ => fun
  | [d1, d2, d3, d4] => { results := [.lit (.bool false)], args := [d1, d2, d3, d4] }
  | _ => none }
def TurnFollowsWrongFalsely : Prop := turnFollowsRow.holds Try.pinned (OpenSpec.ofChange turnFollowsWrong)

/-- 'strongtxlaw10.TurnLive': WHATEVER THE INPUT: true; the input reads as it did. -/
def turnLiveSpec : ChangeSpec := { name := "turnLive", fn := fun _ => fun
  | [d1, d2] => { results := [.lit (.bool true)], args := [d1, d2] }
  | _ => none }
def turnLiveRow : OpenClaim := { program := "ytddghhddafeojaa", sum := "cca7a6f3dccacf74381075f6f18173d644af51417af60d0416163bf1d1a9d6db", func := "strongtx/strongtxlaw10.TurnLive", spec := "turnLive", unfollowed := true, recurses := true, apart := false }
def TurnLiveSaid : Prop := turnLiveRow.holds Try.pinned (OpenSpec.ofChange turnLiveSpec)

/-- ITS FALSE NEIGHBOUR: 'it returns false'. Refute it at one input. -/
def turnLiveWrong : ChangeSpec := { name := "turnLive", fn := fun _ => fun
  | [d1, d2] => { results := [.lit (.bool false)], args := [d1, d2] }
  | _ => none }
def TurnLiveWrongFalsely : Prop := turnLiveRow.holds Try.pinned (OpenSpec.ofChange turnLiveWrong)

/-- 'strongtxlaw10.TurnTickets': WHATEVER THE INPUT: true; the input reads as it did. -/
def turnTicketsSpec : ChangeSpec := { name := "turnTickets", fn := fun _ => fun
  | [d1, d2] => { results := [.lit (.bool true)], args := [d1, d2] }
  | _ => none }
def turnTicketsRow : OpenClaim := { program := "ytddghhddafeojaa", sum := "cca7a6f3dccacf74381075f6f18173d644af51417af60d0416163bf1d1a9d6db", func := "strongtx/strongtxlaw10.TurnTickets", spec := "turnTickets", unfollowed := true, recurses := true, apart := false }
def TurnTicketsSaid : Prop := turnTicketsRow.holds Try.pinned (OpenSpec.ofChange turnTicketsSpec)

/-- ITS FALSE NEIGHBOUR: 'it returns false'. Refute it at one input. -/
def turnTicketsWrong : ChangeSpec := { name := "turnTickets", fn := fun _ => fun
  | [d1, d2] => { results := [.lit (.bool false)], args := [d1, d2] }
  | _ => none }
def TurnTicketsWrongFalsely : Prop := turnTicketsRow.holds Try.pinned (OpenSpec.ofChange turnTicketsWrong)

/-- 'strongtxlaw14.ReaderSnapshot': WHATEVER THE INPUT: true; the input reads as it did. -/
def readerSnapshotSpec : ChangeSpec := { name := "readerSnapshot", fn := fun _ => fun
  | [d1, d2, d3, d4] => { results := [.lit (.bool true)], args := [d1, d2, d3, d4] }
  | _ => none }
def readerSnapshotRow : OpenClaim := { program := "ytddghhddafeojaa", sum := "cca7a6f3dccacf74381075f6f18173d644af51417af60d0416163bf1d1a9d6db", func := "strongtx/strongtxlaw14.ReaderSnapshot", spec := "readerSnapshot", unfollowed := true, recurses := true, apart := false }
def ReaderSnapshotSaid : Prop := readerSnapshotRow.holds Try.pinned (OpenSpec.ofChange readerSnapshotSpec)

/-- ITS FALSE NEIGHBOUR: 'it returns false'. Refute it at one input. -/
def readerSnapshotWrong : ChangeSpec := { name := "readerSnapshot", fn := fun _ => fun
  | [d1, d2, d3, d4] => { results := [.lit (.bool false)], args := [d1, d2, d3, d4] }
  | _ => none }
def ReaderSnapshotWrongFalsely : Prop := readerSnapshotRow.holds Try.pinned (OpenSpec.ofChange readerSnapshotWrong)

/-- 'strongtxlaw14.ReaderCalm': WHATEVER THE INPUT: true; the input reads as it did. -/
def readerCalmSpec : ChangeSpec := { name := "readerCalm", fn := fun _ => fun
  | [d1, d2, d3, d4, d5, d6, d7] => { results := [.lit (.bool true)], args := [d1, d2, d3, d4, d5, d6, d7] }
  | _ => none }
def readerCalmRow : OpenClaim := { program := "ytddghhddafeojaa", sum := "cca7a6f3dccacf74381075f6f18173d644af51417af60d0416163bf1d1a9d6db", func := "strongtx/strongtxlaw14.ReaderCalm", spec := "readerCalm", unfollowed := true, recurses := true, apart := false }
def ReaderCalmSaid : Prop := readerCalmRow.holds Try.pinned (OpenSpec.ofChange readerCalmSpec)

/-- ITS FALSE NEIGHBOUR: 'it returns false'. Refute it at one input. -/
def readerCalmWrong : ChangeSpec := { name := "readerCalm", fn := fun _ => fun
  | [d1, d2, d3, d4, d5, d6, d7] => { results := [.lit (.bool false)], args := [d1, d2, d3, d4, d5, d6, d7] }
  | _ => none }
def ReaderCalmWrongFalsely : Prop := readerCalmRow.holds Try.pinned (OpenSpec.ofChange readerCalmWrong)

/-- 'strongtxlaw14.ReaderFollows': WHATEVER THE INPUT: true; the input reads as it did. -/
def readerFollowsSpec : ChangeSpec := { name := "readerFollows", fn := fun _ => fun
  | [d1, d2, d3, d4, d5] => { results := [.lit (.bool true)], args := [d1, d2, d3, d4, d5] }
  | _ => none }
def readerFollowsRow : OpenClaim := { program := "ytddghhddafeojaa", sum := "cca7a6f3dccacf74381075f6f18173d644af51417af60d0416163bf1d1a9d6db", func := "strongtx/strongtxlaw14.ReaderFollows", spec := "readerFollows", unfollowed := true, recurses := true, apart := false }
def ReaderFollowsSaid : Prop := readerFollowsRow.holds Try.pinned (OpenSpec.ofChange readerFollowsSpec)

/-- ITS FALSE NEIGHBOUR: 'it returns false'. Refute it at one input. -/
def readerFollowsWrong : ChangeSpec := { name := "readerFollows", fn := fun _ => fun
  | [d1, d2, d3, d4, d5] => { results := [.lit (.bool false)], args := [d1, d2, d3, d4, d5] }
  | _ => none }
def ReaderFollowsWrongFalsely : Prop := readerFollowsRow.holds Try.pinned (OpenSpec.ofChange readerFollowsWrong)

/-- 'strongtxlaw14.ReaderOnlyLoads': WHATEVER THE INPUT: true; the input reads as it did. -/
def readerOnlyLoadsSpec : ChangeSpec := { name := "readerOnlyLoads", fn := fun _ => fun
  | [d1, d2, d3, d4] => { results := [.lit (.bool true)], args := [d1, d2, d3, d4] }
  | _ => none }
def readerOnlyLoadsRow : OpenClaim := { program := "ytddghhddafeojaa", sum := "cca7a6f3dccacf74381075f6f18173d644af51417af60d0416163bf1d1a9d6db", func := "strongtx/strongtxlaw14.ReaderOnlyLoads", spec := "readerOnlyLoads", unfollowed := true, recurses := true, apart := false }
def ReaderOnlyLoadsSaid : Prop := readerOnlyLoadsRow.holds Try.pinned (OpenSpec.ofChange readerOnlyLoadsSpec)

/-- ITS FALSE NEIGHBOUR: 'it returns false'. Refute it at one input. -/
def readerOnlyLoadsWrong : ChangeSpec := { name := "readerOnlyLoads", fn := fun _ => fun
  | [d1, d2, d3, d4] => { results := [.lit (.bool false)], args := [d1, d2, d3, d4] }
  | _ => none }
def ReaderOnlyLoadsWrongFalsely : Prop := readerOnlyLoadsRow.holds Try.pinned (OpenSpec.ofChange readerOnlyLoadsWrong)

/- THE SECOND FORM. 'bulk': how many values and letters a reading holds, each counted each time it is reached (what is shared counts as often as it is met; a slice's spare places count too). A statement '..UptoSaid' is the law's where the arguments, and the package variables that the reading takes, are together of bulk at most 1048576: NARROWER than '..Said'. Prove '..Said' where nothing that the law and all that it calls make is longer than what came in: it says more and counts as full. Else prove '..UptoSaid'. A law counts once. -/
mutual
def uptoBulk {H : Type} : DataW H → Nat
  | .lit (.string bytes) => bytes.length + 1
  | .lit _ => 1
  | .nil => 1
  | .ptr d => uptoBulk d + 1
  | .slice elems spare => uptoBulkAll elems + uptoBulkAll spare + 1
  | .agg parts => uptoBulkAll parts + 1
  | .iface _ d => uptoBulk d + 1
  | .map entries => uptoBulkEntries entries + 1
  | .held _ => 1
def uptoBulkAll {H : Type} : List (DataW H) → Nat
  | [] => 0
  | d :: r => uptoBulk d + uptoBulkAll r
def uptoBulkEntries {H : Type} : List (Lit × DataW H) → Nat
  | [] => 0
  | x :: r => uptoBulkEntry x + uptoBulkEntries r
def uptoBulkEntry {H : Type} : Lit × DataW H → Nat
  | (.string bytes, d) => bytes.length + uptoBulk d + 1
  | (_, d) => uptoBulk d + 1
 end
def uptoSmall : (H : Type) → List (DataW H) → Bool := fun _ ds => decide (uptoBulkAll ds ≤ 1048576)
def OpenSpec.upto (s : _root_.Go.ChangeSpec) : _root_.Go.OpenSpec := { _root_.Go.OpenSpec.ofChange s with cond := some uptoSmall }

/-- 'strongtxlaw17.WriterFollows', WHERE WHAT IT READS IS OF BULK AT MOST 1048576: true; the input reads as it did. -/
def writerFollowsUptoRow : OpenClaim := { program := "ytddghhddafeojaa", sum := "cca7a6f3dccacf74381075f6f18173d644af51417af60d0416163bf1d1a9d6db", func := "strongtx/strongtxlaw17.WriterFollows", spec := "writerFollows", unfollowed := true, recurses := true, apart := false, narrowed := true }
def WriterFollowsUptoSaid : Prop := writerFollowsUptoRow.holds Try.pinned (OpenSpec.upto writerFollowsSpec)

/-- 'strongtxlaw17.WriterLast', WHERE WHAT IT READS IS OF BULK AT MOST 1048576: true; the input reads as it did. -/
def writerLastUptoRow : OpenClaim := { program := "ytddghhddafeojaa", sum := "cca7a6f3dccacf74381075f6f18173d644af51417af60d0416163bf1d1a9d6db", func := "strongtx/strongtxlaw17.WriterLast", spec := "writerLast", unfollowed := true, recurses := true, apart := false, narrowed := true }
def WriterLastUptoSaid : Prop := writerLastUptoRow.holds Try.pinned (OpenSpec.upto writerLastSpec)

/-- 'strongtxlaw17.WriterKeeps', WHERE WHAT IT READS IS OF BULK AT MOST 1048576: true; the input reads as it did. -/
def writerKeepsUptoRow : OpenClaim := { program := "ytddghhddafeojaa", sum := "cca7a6f3dccacf74381075f6f18173d644af51417af60d0416163bf1d1a9d6db", func := "strongtx/strongtxlaw17.WriterKeeps", spec := "writerKeeps", unfollowed := true, recurses := true, apart := false, narrowed := true }
def WriterKeepsUptoSaid : Prop := writerKeepsUptoRow.holds Try.pinned (OpenSpec.upto writerKeepsSpec)

/-- 'strongtxlaw10.TurnExcludes', WHERE WHAT IT READS IS OF BULK AT MOST 1048576: true; the input reads as it did. -/
def turnExcludesUptoRow : OpenClaim := { program := "ytddghhddafeojaa", sum := "cca7a6f3dccacf74381075f6f18173d644af51417af60d0416163bf1d1a9d6db", func := "strongtx/strongtxlaw10.TurnExcludes", spec := "turnExcludes", unfollowed := true, recurses := true, apart := false, narrowed := true }
def TurnExcludesUptoSaid : Prop := turnExcludesUptoRow.holds Try.pinned (OpenSpec.upto turnExcludesSpec)

/-- 'strongtxlaw10.TurnFollows', WHERE WHAT IT READS IS OF BULK AT MOST 1048576: true; the input reads as it did. -/
def turnFollowsUptoRow : OpenClaim := { program := "ytddghhddafeojaa", sum := "cca7a6f3dccacf74381075f6f18173d644af51417af60d0416163bf1d1a9d6db", func := "strongtx/strongtxlaw10.TurnFollows", spec := "turnFollows", unfollowed := true, recurses := true, apart := false, narrowed := true }
def TurnFollowsUptoSaid : Prop := turnFollowsUptoRow.holds Try.pinned (OpenSpec.upto turnFollowsSpec)

/-- 'strongtxlaw10.TurnLive', WHERE WHAT IT READS IS OF BULK AT MOST 1048576: true; the input reads as it did. -/
def turnLiveUptoRow : OpenClaim := { program := "ytddghhddafeojaa", sum := "cca7a6f3dccacf74381075f6f18173d644af51417af60d0416163bf1d1a9d6db", func := "strongtx/strongtxlaw10.TurnLive", spec := "turnLive", unfollowed := true, recurses := true, apart := false, narrowed := true }
def TurnLiveUptoSaid : Prop := turnLiveUptoRow.holds Try.pinned (OpenSpec.upto turnLiveSpec)

/-- 'strongtxlaw10.TurnTickets', WHERE WHAT IT READS IS OF BULK AT MOST 1048576: true; the input reads as it did. -/
def turnTicketsUptoRow : OpenClaim := { program := "ytddghhddafeojaa", sum := "cca7a6f3dccacf74381075f6f18173d644af51417af60d0416163bf1d1a9d6db", func := "strongtx/strongtxlaw10.TurnTickets", spec := "turnTickets", unfollowed := true, recurses := true, apart := false, narrowed := true }
def TurnTicketsUptoSaid : Prop := turnTicketsUptoRow.holds Try.pinned (OpenSpec.upto turnTicketsSpec)

/-- 'strongtxlaw14.ReaderSnapshot', WHERE WHAT IT READS IS OF BULK AT MOST 1048576: true; the input reads as it did. -/
def readerSnapshotUptoRow : OpenClaim := { program := "ytddghhddafeojaa", sum := "cca7a6f3dccacf74381075f6f18173d644af51417af60d0416163bf1d1a9d6db", func := "strongtx/strongtxlaw14.ReaderSnapshot", spec := "readerSnapshot", unfollowed := true, recurses := true, apart := false, narrowed := true }
def ReaderSnapshotUptoSaid : Prop := readerSnapshotUptoRow.holds Try.pinned (OpenSpec.upto readerSnapshotSpec)

/-- 'strongtxlaw14.ReaderCalm', WHERE WHAT IT READS IS OF BULK AT MOST 1048576: true; the input reads as it did. -/
def readerCalmUptoRow : OpenClaim := { program := "ytddghhddafeojaa", sum := "cca7a6f3dccacf74381075f6f18173d644af51417af60d0416163bf1d1a9d6db", func := "strongtx/strongtxlaw14.ReaderCalm", spec := "readerCalm", unfollowed := true, recurses := true, apart := false, narrowed := true }
def ReaderCalmUptoSaid : Prop := readerCalmUptoRow.holds Try.pinned (OpenSpec.upto readerCalmSpec)

/-- 'strongtxlaw14.ReaderFollows', WHERE WHAT IT READS IS OF BULK AT MOST 1048576: true; the input reads as it did. -/
def readerFollowsUptoRow : OpenClaim := { program := "ytddghhddafeojaa", sum := "cca7a6f3dccacf74381075f6f18173d644af51417af60d0416163bf1d1a9d6db", func := "strongtx/strongtxlaw14.ReaderFollows", spec := "readerFollows", unfollowed := true, recurses := true, apart := false, narrowed := true }
def ReaderFollowsUptoSaid : Prop := readerFollowsUptoRow.holds Try.pinned (OpenSpec.upto readerFollowsSpec)

/-- 'strongtxlaw14.ReaderOnlyLoads', WHERE WHAT IT READS IS OF BULK AT MOST 1048576: true; the input reads as it did. -/
def readerOnlyLoadsUptoRow : OpenClaim := { program := "ytddghhddafeojaa", sum := "cca7a6f3dccacf74381075f6f18173d644af51417af60d0416163bf1d1a9d6db", func := "strongtx/strongtxlaw14.ReaderOnlyLoads", spec := "readerOnlyLoads", unfollowed := true, recurses := true, apart := false, narrowed := true }
def ReaderOnlyLoadsUptoSaid : Prop := readerOnlyLoadsUptoRow.holds Try.pinned (OpenSpec.upto readerOnlyLoadsSpec)

end Rows
end Go.Proofs.Ytddghhddafeojaa
