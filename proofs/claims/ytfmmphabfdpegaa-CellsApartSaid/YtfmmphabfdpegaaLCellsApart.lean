/-
  PROVED: the Go function strongtxlaw08.CellsApart returns true for every input, and each argument reads afterwards as it read before. Conditions: none beyond those of the given row.
  The frame follows the shell that the kit's proof-skeleton.mjs prints; the walk is the theorem cellsApart_walk of YtfmmphabfdpegaaWalk08e.
-/
import Derived.Test.YtfmmphabfdpegaaWalk08e
import Derived.WalkKit
import Derived.ProofKit
import Derived.OpenShut
import Derived.ShutString
import Derived.ChangeOld
import Derived.Below
namespace Go.Proofs.Ytfmmphabfdpegaa.cellsApart
open Go.ChangeShapes Go.WideShapes Go.ChangeAt Go.RowKit
open Go.ChangeMaps (open_string shut_string)
set_option linter.unusedVariables false

theorem own : ownKnob Try.prog.godebug = none := by kernel_rfl
theorem laidOut : laidOutB Try.prog = true := by kernel_rfl

set_option maxRecDepth 100000 in
theorem lifted (os : Os) (started : os.Started) (H : Type) (enc : TypeId × Value → H) :
    ReturnsInHanded {} Try.checked os 4 .any (Rows.cellsApartSpec.pre6 enc Try.prog Try.f4 Rows.cellsApartRow.domain false) (Rows.cellsApartSpec.post enc Try.prog Try.f4 false true false false) := by
  refine returnsInHanded_of_change (C := Try.checked) own started (by kernel_rfl) Try.func4
    (ChangeSpec.witness6 (enc := enc) (C := Try.checked) false ⟨#[], #[.agg #[.int .i64 0, .int .i64 0, .int .i64 0, .int .i64 0, .int .i64 0], .agg #[.int .i64 0, .int .i64 0, .int .i64 0, .int .u64 0, .int .u64 0]], []⟩ 8 (by kernel_rfl) (by kernel_rfl) (by kernel_rfl) (by kernel_rfl)) ?_
  intro W base args ds gs before hval0 hW hcnd _
  have hval : ∀ (j : Nat) t v, Try.f4.params[j]? = some t → args[j]? = some v → Value.okWide Try.prog W .any base t v := hval0
  have hW' := hW
  obtain ⟨p, q, hA0, hV, rfl, hfz, hnd⟩ := hW
  have hA : DataW.TrodAll enc Try.prog W 0 (fun _ => true) true Try.f4.params.toList args.toList ds p := hA0
  rw [Try.params4] at hA hval
  obtain ⟨v0, vs0, d0, ds0, p0, q0, hargs, rfl, rfl, h0, r0⟩ := trodAll_cons hA
  obtain ⟨v1, vs1, d1, ds1, p1, q1, rfl, rfl, rfl, h1, r1⟩ := trodAll_cons r0
  obtain ⟨rfl, rfl, rfl⟩ := trodAll_nil r1
  obtain rfl : args = #[v0, v1] := by cases args; simp_all
  obtain ⟨rfl, rfl⟩ := trodVars_none hV
  obtain ⟨l0_0, l0_1, l0_2, l0_3, l0_4, rfl, _⟩ := arr_five Try.underlying22 Try.underlying3 (by kernel_rfl) (by kernel_rfl) (hval 0 22 v0 rfl rfl) h0
  have k0 := h0
  have lt0 : ∀ x ∈ p0, x.block < W.heap.size := by obtain ⟨m, hm⟩ := k0; exact DataW.trod_lt m _ _ _ hm
  have k1 := h1
  have lt1 : ∀ x ∈ p1, x.block < W.heap.size := by obtain ⟨m, hm⟩ := k1; exact DataW.trod_lt m _ _ _ hm
  obtain ⟨_, rfl, hsz1, hk1⟩ := open_shape 5 (ks := [.int .i64, .int .i64, .int .i64, .int .u64, .int .u64]) Try.underlying46 (by kernel_rfl) (by kernel_rfl) (hval 1 46 v1 rfl rfl) h1
  obtain ⟨c1_0, c1_1, c1_2, c1_3, c1_4, rfl⟩ := arr5 hsz1
  obtain ⟨_, e1_0, x1_0, rfl, w1_0⟩ := hk1 0 _ rfl
  obtain rfl := Option.some.inj e1_0
  obtain ⟨_, e1_1, x1_1, rfl, w1_1⟩ := hk1 1 _ rfl
  obtain rfl := Option.some.inj e1_1
  obtain ⟨_, e1_2, x1_2, rfl, w1_2⟩ := hk1 2 _ rfl
  obtain rfl := Option.some.inj e1_2
  obtain ⟨_, e1_3, x1_3, rfl, w1_3⟩ := hk1 3 _ rfl
  obtain rfl := Option.some.inj e1_3
  obtain ⟨_, e1_4, x1_4, rfl, w1_4⟩ := hk1 4 _ rfl
  obtain rfl := Option.some.inj e1_4
  clear hA0 hval0
  refine (cellsApart_walk l0_0 l0_1 l0_2 l0_3 l0_4 x1_0 x1_1 x1_2 x1_3 x1_4 W  w1_0 w1_1 w1_2 w1_3 w1_4).mono fun e W' ⟨he, bel⟩ => ?_
  subst he
  exact ⟨_, rfl, _, _, _, [], _, [], hW', trodAll_mk1 (shut_bool Try.underlying4 _), (trodAll_cons_mk (Below.trod laidOut (by kernel_rfl) (of_decide_eq_true (by kernel_rfl)) k0 bel lt0) (trodAll_cons_mk (Below.trod laidOut (by kernel_rfl) (of_decide_eq_true (by kernel_rfl)) k1 bel lt1) trodAll_mk0)), rfl, bel.frame _, fun h => by cases h⟩

theorem over : Rows.cellsApartRow.holds Try.pinned (OpenSpec.ofChange Rows.cellsApartSpec) :=
  OpenClaim.holds_of_wide 4 Try.f4 rfl rfl rfl rfl rfl rfl rfl ⟨rfl, rfl, rfl, rfl, rfl⟩ rfl rfl rfl rfl rfl (by kernel_rfl) Try.func4 (by kernel_rfl)
    (of_decide_eq_true (by kernel_rfl)) (by unfold Func.isWrapper; first | (rw [if_pos (by decide +kernel)]; kernel_rfl) | (rw [if_neg (by decide +kernel)]; exact ⟨rfl, rfl⟩))
    (fun os started H enc _ => lifted os started H enc)

/-- The statement. -/
theorem proved : Rows.CellsApartSaid := over
#print axioms proved
end Go.Proofs.Ytfmmphabfdpegaa.cellsApart
