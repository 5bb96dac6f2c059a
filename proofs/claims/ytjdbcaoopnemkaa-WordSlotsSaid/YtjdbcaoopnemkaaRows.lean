/-
  No cell of these rows narrows 'for every input' (looked for: loops, veiled, ifaces, maps, wideKeys, modest, calm, conditions, laid).
  DERIVED. THE GIVEN ROWS OF THIS SEAT. 6 by the template 'for every input the law returns true; each argument reads behind the call as it read before'; 0 by the template 'total and deterministic' (their statements: YtjdbcaoopnemkaaTotals.lean).
  GIVEN WITH THE SEED: the statements are not yours to turn. If you find one false, say at which input.
  Laid BY PROGRAM, IN A SANDBOX (cutbox-rows.mjs): the forced cells as the released guide's own fill.sh prints them over the translation 9aaa806128daea01… (all of the seat's roots in one cut). By AI agents, Wed Nov 11 2026. No macro, syntax, notation, axiom, sorry.
-/
import Derived.Test.YtjdbcaoopnemkaaChecked
import GoSem.Claim
import GoSem.ClaimJoined
import GoSem.ClaimMapViews
import Derived.JoinedTies
import Derived.KernelRfl
namespace Go.Proofs.Ytjdbcaoopnemkaa
/- THE CELL 'sum', in the pinned program and in every row, IS THE sha256 OF THE DUMP (.gsa) THAT YtjdbcaoopnemkaaProg.lean LOADS. Nothing in Lean hashes anything: it is a label: what it is worth is what the hold of that sum in a sandbox is worth. -/
noncomputable def Try.pinned : Pinned := { name := "ytjdbcaoopnemkaa", sum := "9aaa806128daea0112ee710371f945eba9f4fe4f0d61de760db3b3725e037c2f", checked := Try.checked }
namespace Rows
def none {H : Type} : Left H := { results := [], args := [] }

/-- 'strongtxlaw01.WordHeads': WHATEVER THE INPUT: true; the input reads as it did. -/
def wordHeadsSpec : ChangeSpec := { name := "wordHeads", fn := fun _ => fun
  | [d1, d2, d3] => { results := [.lit (.bool true)], args := [d1, d2, d3] }
  | _ => none }
def wordHeadsRow : OpenClaim := { program := "ytjdbcaoopnemkaa", sum := "9aaa806128daea0112ee710371f945eba9f4fe4f0d61de760db3b3725e037c2f", func := "strongtx/strongtxlaw01.WordHeads", spec := "wordHeads", apart := false }
def WordHeadsSaid : Prop := wordHeadsRow.holds Try.pinned (OpenSpec.ofChange wordHeadsSpec)

/-- ITS FALSE NEIGHBOUR: 'it returns false'. Refute it at one input. -/
def wordHeadsWrong : ChangeSpec := { name := "wordHeads", fn := fun _ => fun
  | [d1, d2, d3] => { results := [.lit (.bool false)], args := [d1, d2, d3] }
  | _ => none }
def WordHeadsWrongFalsely : Prop := wordHeadsRow.holds Try.pinned (OpenSpec.ofChange wordHeadsWrong)

/-- 'strongtxlaw01.WordBumps': WHATEVER THE INPUT: true; the input reads as it did. -/
def wordBumpsSpec : ChangeSpec := { name := "wordBumps", fn := fun _ => fun
  | [d1, d2] => { results := [.lit (.bool true)], args := [d1, d2] }
  | _ => none }
def wordBumpsRow : OpenClaim := { program := "ytjdbcaoopnemkaa", sum := "9aaa806128daea0112ee710371f945eba9f4fe4f0d61de760db3b3725e037c2f", func := "strongtx/strongtxlaw01.WordBumps", spec := "wordBumps", apart := false }
def WordBumpsSaid : Prop := wordBumpsRow.holds Try.pinned (OpenSpec.ofChange wordBumpsSpec)

/-- ITS FALSE NEIGHBOUR: 'it returns false'. Refute it at one input. -/
def wordBumpsWrong : ChangeSpec := { name := "wordBumps", fn := fun _ => fun
  | [d1, d2] => { results := [.lit (.bool false)], args := [d1, d2] }
  | _ => none }
def WordBumpsWrongFalsely : Prop := wordBumpsRow.holds Try.pinned (OpenSpec.ofChange wordBumpsWrong)

/-- 'strongtxlaw01.WordOrecs': WHATEVER THE INPUT: true; the input reads as it did. -/
def wordOrecsSpec : ChangeSpec := { name := "wordOrecs", fn := fun _ => fun
  | [d1, d2] => { results := [.lit (.bool true)], args := [d1, d2] }
  | _ => none }
def wordOrecsRow : OpenClaim := { program := "ytjdbcaoopnemkaa", sum := "9aaa806128daea0112ee710371f945eba9f4fe4f0d61de760db3b3725e037c2f", func := "strongtx/strongtxlaw01.WordOrecs", spec := "wordOrecs", apart := false }
def WordOrecsSaid : Prop := wordOrecsRow.holds Try.pinned (OpenSpec.ofChange wordOrecsSpec)

/-- ITS FALSE NEIGHBOUR: 'it returns false'. Refute it at one input. -/
def wordOrecsWrong : ChangeSpec := { name := "wordOrecs", fn := fun _ => fun
  | [d1, d2] => { results := [.lit (.bool false)], args := [d1, d2] }
  | _ => none }
def WordOrecsWrongFalsely : Prop := wordOrecsRow.holds Try.pinned (OpenSpec.ofChange wordOrecsWrong)

/-- 'strongtxlaw01.WordRound': WHATEVER THE INPUT: true; the input reads as it did. -/
def wordRoundSpec : ChangeSpec := { name := "wordRound", fn := fun _ => fun
  | [d1, d2, d3, d4] => { results := [.lit (.bool true)], args := [d1, d2, d3, d4] }
  | _ => none }
def wordRoundRow : OpenClaim := { program := "ytjdbcaoopnemkaa", sum := "9aaa806128daea0112ee710371f945eba9f4fe4f0d61de760db3b3725e037c2f", func := "strongtx/strongtxlaw01.WordRound", spec := "wordRound", apart := false }
def WordRoundSaid : Prop := wordRoundRow.holds Try.pinned (OpenSpec.ofChange wordRoundSpec)

/-- ITS FALSE NEIGHBOUR: 'it returns false'. Refute it at one input. -/
def wordRoundWrong : ChangeSpec := { name := "wordRound", fn := fun _ => fun
  | [d1, d2, d3, d4] => { results := [.lit (.bool false)], args := [d1, d2, d3, d4] }
  | _ => none }
def WordRoundWrongFalsely : Prop := wordRoundRow.holds Try.pinned (OpenSpec.ofChange wordRoundWrong)

/-- 'strongtxlaw01.WordUnpacks': WHATEVER THE INPUT: true; the input reads as it did. -/
def wordUnpacksSpec : ChangeSpec := { name := "wordUnpacks", fn := fun _ => fun
  | [d] => { results := [.lit (.bool true)], args := [d] }
  | _ => none }
def wordUnpacksRow : OpenClaim := { program := "ytjdbcaoopnemkaa", sum := "9aaa806128daea0112ee710371f945eba9f4fe4f0d61de760db3b3725e037c2f", func := "strongtx/strongtxlaw01.WordUnpacks", spec := "wordUnpacks", apart := false }
def WordUnpacksSaid : Prop := wordUnpacksRow.holds Try.pinned (OpenSpec.ofChange wordUnpacksSpec)

/-- ITS FALSE NEIGHBOUR: 'it returns false'. Refute it at one input. -/
def wordUnpacksWrong : ChangeSpec := { name := "wordUnpacks", fn := fun _ => fun
  | [d] => { results := [.lit (.bool false)], args := [d] }
  | _ => none }
def WordUnpacksWrongFalsely : Prop := wordUnpacksRow.holds Try.pinned (OpenSpec.ofChange wordUnpacksWrong)

/-- 'strongtxlaw01.WordSlots': WHATEVER THE INPUT: true; the input reads as it did. -/
def wordSlotsSpec : ChangeSpec := { name := "wordSlots", fn := fun _ => fun
  | [d] => { results := [.lit (.bool true)], args := [d] }
  | _ => none }
def wordSlotsRow : OpenClaim := { program := "ytjdbcaoopnemkaa", sum := "9aaa806128daea0112ee710371f945eba9f4fe4f0d61de760db3b3725e037c2f", func := "strongtx/strongtxlaw01.WordSlots", spec := "wordSlots", apart := false }
def WordSlotsSaid : Prop := wordSlotsRow.holds Try.pinned (OpenSpec.ofChange wordSlotsSpec)

/-- ITS FALSE NEIGHBOUR: 'it returns false'. Refute it at one input. -/
def wordSlotsWrong : ChangeSpec := { name := "wordSlots", fn := fun _ => fun
  | [d] => { results := [.lit (.bool false)], args := [d] }
  | _ => none }
def WordSlotsWrongFalsely : Prop := wordSlotsRow.holds Try.pinned (OpenSpec.ofChange wordSlotsWrong)

/- THE SECOND FORM. 'bulk': how many values and letters a reading holds, each counted each time it is reached (what is shared counts as often as it is met; a slice's spare places count too). A statement '..UptoSaid' is the law's where the arguments, and the package variables that the reading takes, are together of bulk at most 1048576: NARROWER than '..Said'. Prove '..Said' where nothing that the law and all that it calls make is longer than what came in: it says more and counts as full. Else prove '..UptoSaid'. A law counts once. -/
mutual
def uptoBulk {H : Type} : DataW H → Nat
  | .lit (.string bytes) => bytes.length + 1
  | .lit _ => 1
  | .nil => 1
  | .ptr d => uptoBulk d + 1
  | .slice elems spare => uptoBulkAll elems + uptoBulkAll spare + 1
  | .agg parts => uptoBulkAll parts + 1
  | .iface _ d => uptoBulk d + 1
  | .map entries => uptoBulkEntries entries + 1
  | .held _ => 1
def uptoBulkAll {H : Type} : List (DataW H) → Nat
  | [] => 0
  | d :: r => uptoBulk d + uptoBulkAll r
def uptoBulkEntries {H : Type} : List (Lit × DataW H) → Nat
  | [] => 0
  | x :: r => uptoBulkEntry x + uptoBulkEntries r
def uptoBulkEntry {H : Type} : Lit × DataW H → Nat
  | (.string bytes, d) => bytes.length + uptoBulk d + 1
  | (_, d) => uptoBulk d + 1
 end
def uptoSmall : (H : Type) → List (DataW H) → Bool := fun _ ds => decide (uptoBulkAll ds ≤ 1048576)
def OpenSpec.upto (s : _root_.Go.ChangeSpec) : _root_.Go.OpenSpec := { _root_.Go.OpenSpec.ofChange s with cond := some uptoSmall }

/-- 'strongtxlaw01.WordHeads', WHERE WHAT IT READS IS OF BULK AT MOST 1048576: true; the input reads as it did. -/
def wordHeadsUptoRow : OpenClaim := { program := "ytjdbcaoopnemkaa", sum := "9aaa806128daea0112ee710371f945eba9f4fe4f0d61de760db3b3725e037c2f", func := "strongtx/strongtxlaw01.WordHeads", spec := "wordHeads", apart := false, narrowed := true }
def WordHeadsUptoSaid : Prop := wordHeadsUptoRow.holds Try.pinned (OpenSpec.upto wordHeadsSpec)

/-- 'strongtxlaw01.WordBumps', WHERE WHAT IT READS IS OF BULK AT MOST 1048576: true; the input reads as it did. -/
def wordBumpsUptoRow : OpenClaim := { program := "ytjdbcaoopnemkaa", sum := "9aaa806128daea0112ee710371f945eba9f4fe4f0d61de760db3b3725e037c2f", func := "strongtx/strongtxlaw01.WordBumps", spec := "wordBumps", apart := false, narrowed := true }
def WordBumpsUptoSaid : Prop := wordBumpsUptoRow.holds Try.pinned (OpenSpec.upto wordBumpsSpec)

/-- 'strongtxlaw01.WordOrecs', WHERE WHAT IT READS IS OF BULK AT MOST 1048576: true; the input reads as it did. -/
def wordOrecsUptoRow : OpenClaim := { program := "ytjdbcaoopnemkaa", sum := "9aaa806128daea0112ee710371f945eba9f4fe4f0d61de760db3b3725e037c2f", func := "strongtx/strongtxlaw01.WordOrecs", spec := "wordOrecs", apart := false, narrowed := true }
def WordOrecsUptoSaid : Prop := wordOrecsUptoRow.holds Try.pinned (OpenSpec.upto wordOrecsSpec)

/-- 'strongtxlaw01.WordRound', WHERE WHAT IT READS IS OF BULK AT MOST 1048576: true; the input reads as it did. -/
def wordRoundUptoRow : OpenClaim := { program := "ytjdbcaoopnemkaa", sum := "9aaa806128daea0112ee710371f945eba9f4fe4f0d61de760db3b3725e037c2f", func := "strongtx/strongtxlaw01.WordRound", spec := "wordRound", apart := false, narrowed := true }
def WordRoundUptoSaid : Prop := wordRoundUptoRow.holds Try.pinned (OpenSpec.upto wordRoundSpec)

/-- 'strongtxlaw01.WordUnpacks', WHERE WHAT IT READS IS OF BULK AT MOST 1048576: true; the input reads as it did. -/
def wordUnpacksUptoRow : OpenClaim := { program := "ytjdbcaoopnemkaa", sum := "9aaa806128daea0112ee710371f945eba9f4fe4f0d61de760db3b3725e037c2f", func := "strongtx/strongtxlaw01.WordUnpacks", spec := "wordUnpacks", apart := false, narrowed := true }
def WordUnpacksUptoSaid : Prop := wordUnpacksUptoRow.holds Try.pinned (OpenSpec.upto wordUnpacksSpec)

/-- 'strongtxlaw01.WordSlots', WHERE WHAT IT READS IS OF BULK AT MOST 1048576: true; the input reads as it did. -/
def wordSlotsUptoRow : OpenClaim := { program := "ytjdbcaoopnemkaa", sum := "9aaa806128daea0112ee710371f945eba9f4fe4f0d61de760db3b3725e037c2f", func := "strongtx/strongtxlaw01.WordSlots", spec := "wordSlots", apart := false, narrowed := true }
def WordSlotsUptoSaid : Prop := wordSlotsUptoRow.holds Try.pinned (OpenSpec.upto wordSlotsSpec)

end Rows
end Go.Proofs.Ytjdbcaoopnemkaa
