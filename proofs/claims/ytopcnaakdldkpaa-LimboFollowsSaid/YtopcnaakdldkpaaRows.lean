/-
  No cell of these rows narrows 'for every input' (looked for: loops, veiled, ifaces, maps, wideKeys, modest, calm, conditions, laid).
  DERIVED. THE GIVEN ROWS OF THIS SEAT. 3 by the template 'for every input the law returns true; each argument reads behind the call as it read before'; 0 by the template 'total and deterministic' (their statements: YtopcnaakdldkpaaTotals.lean).
  GIVEN WITH THE SEED: the statements are not yours to turn. If you find one false, say at which input.
  Laid BY PROGRAM, IN A SANDBOX (cutbox-rows.mjs): the forced cells as the released guide's own fill.sh prints them over the translation 8384c1b47f3c6359… (all of the seat's roots in one cut). By AI agents, Wed Nov 11 2026. No macro, syntax, notation, axiom, sorry.
-/
import Derived.Test.YtopcnaakdldkpaaChecked
import GoSem.Claim
import GoSem.ClaimJoined
import GoSem.ClaimMapViews
import Derived.JoinedTies
import Derived.KernelRfl
namespace Go.Proofs.Ytopcnaakdldkpaa
/- THE CELL 'sum', in the pinned program and in every row, IS THE sha256 OF THE DUMP (.gsa) THAT YtopcnaakdldkpaaProg.lean LOADS. Nothing in Lean hashes anything: it is a label: what it is worth is what the hold of that sum in a sandbox is worth. -/
noncomputable def Try.pinned : Pinned := { name := "ytopcnaakdldkpaa", sum := "8384c1b47f3c635905f79c7c20465e356db30f35cccb524072aed73a66e52398", checked := Try.checked }
namespace Rows
def none {H : Type} : Left H := { results := [], args := [] }

/-- 'strongtxlaw18.LimboFollows': WHATEVER THE INPUT: true; the input reads as it did. -/
def limboFollowsSpec : ChangeSpec := { name := "limboFollows", fn := fun _ => fun
  | [d] => { results := [.lit (.bool true)], args := [d] }
  | _ => none }
def limboFollowsRow : OpenClaim := { program := "ytopcnaakdldkpaa", sum := "8384c1b47f3c635905f79c7c20465e356db30f35cccb524072aed73a66e52398", func := "strongtx/strongtxlaw18.LimboFollows", spec := "limboFollows", unfollowed := true, recurses := true, apart := false }
def LimboFollowsSaid : Prop := limboFollowsRow.holds Try.pinned (OpenSpec.ofChange limboFollowsSpec)

/-- ITS FALSE NEIGHBOUR: 'it returns false'. Refute it at one input. -/
def limboFollowsWrong : ChangeSpec := { name := "limboFollows", fn := fun _ => fun
  | [d] => { results := [.lit (.bool false)], args := [d] }
  | _ => none }
def LimboFollowsWrongFalsely : Prop := limboFollowsRow.holds Try.pinned (OpenSpec.ofChange limboFollowsWrong)

/-- 'strongtxlaw18.LimboClasses': WHATEVER THE INPUT: true; the input reads as it did. -/
def limboClassesSpec : ChangeSpec := { name := "limboClasses", fn := fun _ => fun
  | [d] => { results := [.lit (.bool true)], args := [d] }
  | _ => none }
def limboClassesRow : OpenClaim := { program := "ytopcnaakdldkpaa", sum := "8384c1b47f3c635905f79c7c20465e356db30f35cccb524072aed73a66e52398", func := "strongtx/strongtxlaw18.LimboClasses", spec := "limboClasses", unfollowed := true, recurses := true, apart := false }
def LimboClassesSaid : Prop := limboClassesRow.holds Try.pinned (OpenSpec.ofChange limboClassesSpec)

/-- ITS FALSE NEIGHBOUR: 'it returns false'. Refute it at one input. -/
def limboClassesWrong : ChangeSpec := { name := "limboClasses", fn := fun _ => fun
  | [d] => { results := [.lit (.bool false)], args := [d] }
  | _ => none }
def LimboClassesWrongFalsely : Prop := limboClassesRow.holds Try.pinned (OpenSpec.ofChange limboClassesWrong)

/-- 'strongtxlaw18.LimboKeeps': WHATEVER THE INPUT: true; the input reads as it did. -/
def limboKeepsSpec : ChangeSpec := { name := "limboKeeps", fn := fun _ => fun
  | [d] => { results := [.lit (.bool true)], args := [d] }
  | _ => none }
def limboKeepsRow : OpenClaim := { program := "ytopcnaakdldkpaa", sum := "8384c1b47f3c635905f79c7c20465e356db30f35cccb524072aed73a66e52398", func := "strongtx/strongtxlaw18.LimboKeeps", spec := "limboKeeps", unfollowed := true, recurses := true, apart := false }
def LimboKeepsSaid : Prop := limboKeepsRow.holds Try.pinned (OpenSpec.ofChange limboKeepsSpec)

/-- ITS FALSE NEIGHBOUR: 'it returns false'. Refute it at one input. -/
def limboKeepsWrong : ChangeSpec := { name := "limboKeeps", fn := fun _ => fun
  | [d] => { results := [.lit (.bool false)], args := [d] }
  | _ => none }
def LimboKeepsWrongFalsely : Prop := limboKeepsRow.holds Try.pinned (OpenSpec.ofChange limboKeepsWrong)

/- THE SECOND FORM. 'bulk': how many values and letters a reading holds, each counted each time it is reached (what is shared counts as often as it is met; a slice's spare places count too). A statement '..UptoSaid' is the law's where the arguments, and the package variables that the reading takes, are together of bulk at most 1048576: NARROWER than '..Said'. Prove '..Said' where nothing that the law and all that it calls make is longer than what came in: it says more and counts as full. Else prove '..UptoSaid'. A law counts once. -/
mutual
def uptoBulk {H : Type} : DataW H → Nat
  | .lit (.string bytes) => bytes.length + 1
  | .lit _ => 1
  | .nil => 1
  | .ptr d => uptoBulk d + 1
  | .slice elems spare => uptoBulkAll elems + uptoBulkAll spare + 1
  | .agg parts => uptoBulkAll parts + 1
  | .iface _ d => uptoBulk d + 1
  | .map entries => uptoBulkEntries entries + 1
  | .held _ => 1
def uptoBulkAll {H : Type} : List (DataW H) → Nat
  | [] => 0
  | d :: r => uptoBulk d + uptoBulkAll r
def uptoBulkEntries {H : Type} : List (Lit × DataW H) → Nat
  | [] => 0
  | x :: r => uptoBulkEntry x + uptoBulkEntries r
def uptoBulkEntry {H : Type} : Lit × DataW H → Nat
  | (.string bytes, d) => bytes.length + uptoBulk d + 1
  | (_, d) => uptoBulk d + 1
 end
def uptoSmall : (H : Type) → List (DataW H) → Bool := fun _ ds => decide (uptoBulkAll ds ≤ 1048576)
def OpenSpec.upto (s : _root_.Go.ChangeSpec) : _root_.Go.OpenSpec := { _root_.Go.OpenSpec.ofChange s with cond := some uptoSmall }

/-- 'strongtxlaw18.LimboFollows', WHERE WHAT IT READS IS OF BULK AT MOST 1048576: true; the input reads as it did. -/
def limboFollowsUptoRow : OpenClaim := { program := "ytopcnaakdldkpaa", sum := "8384c1b47f3c635905f79c7c20465e356db30f35cccb524072aed73a66e52398", func := "strongtx/strongtxlaw18.LimboFollows", spec := "limboFollows", unfollowed := true, recurses := true, apart := false, narrowed := true }
def LimboFollowsUptoSaid : Prop := limboFollowsUptoRow.holds Try.pinned (OpenSpec.upto limboFollowsSpec)

/-- 'strongtxlaw18.LimboClasses', WHERE WHAT IT READS IS OF BULK AT MOST 1048576: true; the input reads as it did. -/
def limboClassesUptoRow : OpenClaim := { program := "ytopcnaakdldkpaa", sum := "8384c1b47f3c635905f79c7c20465e356db30f35cccb524072aed73a66e52398", func := "strongtx/strongtxlaw18.LimboClasses", spec := "limboClasses", unfollowed := true, recurses := true, apart := false, narrowed := true }
def LimboClassesUptoSaid : Prop := limboClassesUptoRow.holds Try.pinned (OpenSpec.upto limboClassesSpec)

/-- 'strongtxlaw18.LimboKeeps', WHERE WHAT IT READS IS OF BULK AT MOST 1048576: true; the input reads as it did. -/
def limboKeepsUptoRow : OpenClaim := { program := "ytopcnaakdldkpaa", sum := "8384c1b47f3c635905f79c7c20465e356db30f35cccb524072aed73a66e52398", func := "strongtx/strongtxlaw18.LimboKeeps", spec := "limboKeeps", unfollowed := true, recurses := true, apart := false, narrowed := true }
def LimboKeepsUptoSaid : Prop := limboKeepsUptoRow.holds Try.pinned (OpenSpec.upto limboKeepsSpec)

end Rows
end Go.Proofs.Ytopcnaakdldkpaa
