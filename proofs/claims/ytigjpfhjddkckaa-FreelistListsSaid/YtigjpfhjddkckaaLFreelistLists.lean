/-
  PROVED: the Go function strongtxlaw11.FreelistLists returns true for every input, and each argument reads afterwards as it read before. Conditions: none beyond those of the given row.
  The frame follows the shell that the kit's proof-skeleton.mjs prints; the walk is the theorem freelistLists_walk of YtigjpfhjddkckaaWalk11d.
-/
import Derived.Test.YtigjpfhjddkckaaWalk11d
import Derived.WalkKit
import Derived.ProofKit
import Derived.OpenShut
import Derived.ShutString
import Derived.ChangeOld
import Derived.Below
namespace Go.Proofs.Ytigjpfhjddkckaa.freelistLists
open Go.ChangeShapes Go.WideShapes Go.ChangeAt Go.RowKit
open Go.ChangeMaps (open_string shut_string)
set_option linter.unusedVariables false

theorem own : ownKnob Try.prog.godebug = none := by kernel_rfl
theorem laidOut : laidOutB Try.prog = true := by kernel_rfl

set_option maxRecDepth 100000 in
theorem lifted (os : Os) (started : os.Started) (H : Type) (enc : TypeId × Value → H) :
    ReturnsInHanded {} Try.checked os 4 .any (Rows.freelistListsSpec.pre6 enc Try.prog Try.f4 Rows.freelistListsRow.domain false) (Rows.freelistListsSpec.post enc Try.prog Try.f4 false true false false) := by
  refine returnsInHanded_of_change (C := Try.checked) own started (by kernel_rfl) Try.func4
    (ChangeSpec.witness6 (enc := enc) (C := Try.checked) false ⟨#[], #[.int .i64 0, .int .i64 0, .int .u64 0, .agg #[.slice none 0 0, .slice none 0 0, .int .u64 0, .int .u64 0, .int .u64 0, .slice none 0 0, .slice none 0 0, .slice none 0 0], .int .i64 0], []⟩ 8 (by kernel_rfl) (by kernel_rfl) (by kernel_rfl) (by kernel_rfl)) ?_
  intro W base args ds gs before hval0 hW hcnd _
  have hval : ∀ (j : Nat) t v, Try.f4.params[j]? = some t → args[j]? = some v → Value.okWide Try.prog W .any base t v := hval0
  have hW' := hW
  obtain ⟨p, q, hA0, hV, rfl, hfz, hnd⟩ := hW
  have hA : DataW.TrodAll enc Try.prog W 0 (fun _ => true) true Try.f4.params.toList args.toList ds p := hA0
  rw [Try.params4] at hA hval
  obtain ⟨v0, vs0, d0, ds0, p0, q0, hargs, rfl, rfl, h0, r0⟩ := trodAll_cons hA
  obtain ⟨v1, vs1, d1, ds1, p1, q1, rfl, rfl, rfl, h1, r1⟩ := trodAll_cons r0
  obtain ⟨v2, vs2, d2, ds2, p2, q2, rfl, rfl, rfl, h2, r2⟩ := trodAll_cons r1
  obtain ⟨v3, vs3, d3, ds3, p3, q3, rfl, rfl, rfl, h3, r3⟩ := trodAll_cons r2
  obtain ⟨v4, vs4, d4, ds4, p4, q4, rfl, rfl, rfl, h4, r4⟩ := trodAll_cons r3
  obtain ⟨rfl, rfl, rfl⟩ := trodAll_nil r4
  obtain rfl : args = #[v0, v1, v2, v3, v4] := by cases args; simp_all
  obtain ⟨rfl, rfl⟩ := trodVars_none hV
  obtain ⟨a0, rfl, rfl, rfl, w0⟩ := open_int Try.underlying3 (hval 0 3 v0 rfl rfl) h0
  obtain ⟨a1, rfl, rfl, rfl, w1⟩ := open_int Try.underlying3 (hval 1 3 v1 rfl rfl) h1
  obtain ⟨a2, rfl, rfl, rfl, w2⟩ := open_int Try.underlying48 (hval 2 48 v2 rfl rfl) h2
  have k3 := h3
  have lt3 : ∀ x ∈ p3, x.block < W.heap.size := by obtain ⟨m, hm⟩ := k3; exact DataW.trod_lt m _ _ _ hm
  obtain ⟨_, rfl, hsz3, hk3⟩ := open_shape 5 (ks := [.slice [.int .u64], .slice [.int .u64], .int .u64, .int .u64, .int .u64, .slice [.int .u64], .slice [.int .u64], .slice [.int .u64]]) Try.underlying61 (by kernel_rfl) (by kernel_rfl) (hval 3 61 v3 rfl rfl) h3
  obtain ⟨c3_0, c3_1, c3_2, c3_3, c3_4, c3_5, c3_6, c3_7, rfl⟩ := arr8 hsz3
  obtain ⟨x3_0, e3_0, w3_0⟩ := hk3 0 _ rfl
  obtain rfl := (Option.some.inj e3_0).symm
  obtain ⟨x3_1, e3_1, w3_1⟩ := hk3 1 _ rfl
  obtain rfl := (Option.some.inj e3_1).symm
  obtain ⟨_, e3_2, x3_2, rfl, w3_2⟩ := hk3 2 _ rfl
  obtain rfl := Option.some.inj e3_2
  obtain ⟨_, e3_3, x3_3, rfl, w3_3⟩ := hk3 3 _ rfl
  obtain rfl := Option.some.inj e3_3
  obtain ⟨_, e3_4, x3_4, rfl, w3_4⟩ := hk3 4 _ rfl
  obtain rfl := Option.some.inj e3_4
  obtain ⟨x3_5, e3_5, w3_5⟩ := hk3 5 _ rfl
  obtain rfl := (Option.some.inj e3_5).symm
  obtain ⟨x3_6, e3_6, w3_6⟩ := hk3 6 _ rfl
  obtain rfl := (Option.some.inj e3_6).symm
  obtain ⟨x3_7, e3_7, w3_7⟩ := hk3 7 _ rfl
  obtain rfl := (Option.some.inj e3_7).symm
  obtain ⟨a4, rfl, rfl, rfl, w4⟩ := open_int Try.underlying3 (hval 4 3 v4 rfl rfl) h4
  clear hA0 hval0
  refine (freelistLists_walk a0 a1 a2 x3_0 x3_1 x3_2 x3_3 x3_4 x3_5 x3_6 x3_7 a4 W w0 w1 w2 w3_0 w3_1 w3_2 w3_3 w3_4 w3_5 w3_6 w3_7 w4).mono fun e W' ⟨he, bel⟩ => ?_
  subst he
  exact ⟨_, rfl, _, _, _, [], _, [], hW', trodAll_mk1 (shut_bool Try.underlying4 _), (trodAll_cons_mk (shut_int Try.underlying3 w0) (trodAll_cons_mk (shut_int Try.underlying3 w1) (trodAll_cons_mk (shut_int Try.underlying48 w2) (trodAll_cons_mk (Below.trod laidOut (by kernel_rfl) (of_decide_eq_true (by kernel_rfl)) k3 bel lt3) (trodAll_cons_mk (shut_int Try.underlying3 w4) trodAll_mk0))))), rfl, bel.frame _, fun h => by cases h⟩

theorem over : Rows.freelistListsRow.holds Try.pinned (OpenSpec.ofChange Rows.freelistListsSpec) :=
  OpenClaim.holds_of_wide 4 Try.f4 rfl rfl rfl rfl rfl rfl rfl ⟨rfl, rfl, rfl, rfl, rfl⟩ rfl rfl rfl rfl rfl (by kernel_rfl) Try.func4 (by kernel_rfl)
    (of_decide_eq_true (by kernel_rfl)) (by unfold Func.isWrapper; first | (rw [if_pos (by decide +kernel)]; kernel_rfl) | (rw [if_neg (by decide +kernel)]; exact ⟨rfl, rfl⟩))
    (fun os started H enc _ => lifted os started H enc)

/-- The statement. -/
theorem proved : Rows.FreelistListsSaid := over
#print axioms proved
end Go.Proofs.Ytigjpfhjddkckaa.freelistLists
