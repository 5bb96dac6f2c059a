/-
  PROVED: the Go function strongtxlaw08.CellsBegin returns true for every input, and each argument reads afterwards as it read before. Conditions: none beyond those of the given row.
  The frame follows the shell that the kit's proof-skeleton.mjs prints; the walk is the theorem cellsBegin_walk of YtfmmphabfdpegaaWalk08f.
-/
import Derived.Test.YtfmmphabfdpegaaWalk08f
import Derived.WalkKit
import Derived.ProofKit
import Derived.OpenShut
import Derived.ShutString
import Derived.ChangeOld
import Derived.Below
namespace Go.Proofs.Ytfmmphabfdpegaa.cellsBegin
open Go.ChangeShapes Go.WideShapes Go.ChangeAt Go.RowKit
open Go.ChangeMaps (open_string shut_string)
set_option linter.unusedVariables false

theorem own : ownKnob Try.prog.godebug = none := by kernel_rfl
theorem laidOut : laidOutB Try.prog = true := by kernel_rfl

set_option maxRecDepth 100000 in
theorem lifted (os : Os) (started : os.Started) (H : Type) (enc : TypeId × Value → H) :
    ReturnsInHanded {} Try.checked os 5 .any (Rows.cellsBeginSpec.pre6 enc Try.prog Try.f5 Rows.cellsBeginRow.domain false) (Rows.cellsBeginSpec.post enc Try.prog Try.f5 false true false false) := by
  refine returnsInHanded_of_change (C := Try.checked) own started (by kernel_rfl) Try.func5
    (ChangeSpec.witness6 (enc := enc) (C := Try.checked) false ⟨#[], #[.agg #[.int .i64 0, .int .i64 0, .int .i64 0, .int .i64 0, .int .i64 0], .int .i64 0, .agg #[.int .i64 0, .int .i64 0, .int .i64 0, .int .i64 0, .int .i64 0, .int .i64 0, .int .i64 0, .int .i64 0, .int .i64 0, .int .i64 0, .int .i64 0, .int .i64 0, .bool false], .slice none 0 0, .int .i64 0], []⟩ 8 (by kernel_rfl) (by kernel_rfl) (by kernel_rfl) (by kernel_rfl)) ?_
  intro W base args ds gs before hval0 hW hcnd _
  have hval : ∀ (j : Nat) t v, Try.f5.params[j]? = some t → args[j]? = some v → Value.okWide Try.prog W .any base t v := hval0
  have hW' := hW
  obtain ⟨p, q, hA0, hV, rfl, hfz, hnd⟩ := hW
  have hA : DataW.TrodAll enc Try.prog W 0 (fun _ => true) true Try.f5.params.toList args.toList ds p := hA0
  rw [Try.params5] at hA hval
  obtain ⟨v0, vs0, d0, ds0, p0, q0, hargs, rfl, rfl, h0, r0⟩ := trodAll_cons hA
  obtain ⟨v1, vs1, d1, ds1, p1, q1, rfl, rfl, rfl, h1, r1⟩ := trodAll_cons r0
  obtain ⟨v2, vs2, d2, ds2, p2, q2, rfl, rfl, rfl, h2, r2⟩ := trodAll_cons r1
  obtain ⟨v3, vs3, d3, ds3, p3, q3, rfl, rfl, rfl, h3, r3⟩ := trodAll_cons r2
  obtain ⟨v4, vs4, d4, ds4, p4, q4, rfl, rfl, rfl, h4, r4⟩ := trodAll_cons r3
  obtain ⟨rfl, rfl, rfl⟩ := trodAll_nil r4
  obtain rfl : args = #[v0, v1, v2, v3, v4] := by cases args; simp_all
  obtain ⟨rfl, rfl⟩ := trodVars_none hV
  obtain ⟨l0_0, l0_1, l0_2, l0_3, l0_4, rfl, _⟩ := arr_five Try.underlying22 Try.underlying3 (by kernel_rfl) (by kernel_rfl) (hval 0 22 v0 rfl rfl) h0
  have k0 := h0
  have lt0 : ∀ x ∈ p0, x.block < W.heap.size := by obtain ⟨m, hm⟩ := k0; exact DataW.trod_lt m _ _ _ hm
  obtain ⟨a1, rfl, rfl, rfl, w1⟩ := open_int Try.underlying3 (hval 1 3 v1 rfl rfl) h1
  have k2 := h2
  have lt2 : ∀ x ∈ p2, x.block < W.heap.size := by obtain ⟨m, hm⟩ := k2; exact DataW.trod_lt m _ _ _ hm
  obtain ⟨_, rfl, hsz2, hk2⟩ := open_shape 5 (ks := [.int .i64, .int .i64, .int .i64, .int .i64, .int .i64, .int .i64, .int .i64, .int .i64, .int .i64, .int .i64, .int .i64, .int .i64, .bool]) Try.underlying32 (by kernel_rfl) (by kernel_rfl) (hval 2 32 v2 rfl rfl) h2
  obtain ⟨c2_0, c2_1, c2_2, c2_3, c2_4, c2_5, c2_6, c2_7, c2_8, c2_9, c2_10, c2_11, c2_12, rfl⟩ := arr13 hsz2
  obtain ⟨_, e2_0, x2_0, rfl, w2_0⟩ := hk2 0 _ rfl
  obtain rfl := Option.some.inj e2_0
  obtain ⟨_, e2_1, x2_1, rfl, w2_1⟩ := hk2 1 _ rfl
  obtain rfl := Option.some.inj e2_1
  obtain ⟨_, e2_2, x2_2, rfl, w2_2⟩ := hk2 2 _ rfl
  obtain rfl := Option.some.inj e2_2
  obtain ⟨_, e2_3, x2_3, rfl, w2_3⟩ := hk2 3 _ rfl
  obtain rfl := Option.some.inj e2_3
  obtain ⟨_, e2_4, x2_4, rfl, w2_4⟩ := hk2 4 _ rfl
  obtain rfl := Option.some.inj e2_4
  obtain ⟨_, e2_5, x2_5, rfl, w2_5⟩ := hk2 5 _ rfl
  obtain rfl := Option.some.inj e2_5
  obtain ⟨_, e2_6, x2_6, rfl, w2_6⟩ := hk2 6 _ rfl
  obtain rfl := Option.some.inj e2_6
  obtain ⟨_, e2_7, x2_7, rfl, w2_7⟩ := hk2 7 _ rfl
  obtain rfl := Option.some.inj e2_7
  obtain ⟨_, e2_8, x2_8, rfl, w2_8⟩ := hk2 8 _ rfl
  obtain rfl := Option.some.inj e2_8
  obtain ⟨_, e2_9, x2_9, rfl, w2_9⟩ := hk2 9 _ rfl
  obtain rfl := Option.some.inj e2_9
  obtain ⟨_, e2_10, x2_10, rfl, w2_10⟩ := hk2 10 _ rfl
  obtain rfl := Option.some.inj e2_10
  obtain ⟨_, e2_11, x2_11, rfl, w2_11⟩ := hk2 11 _ rfl
  obtain rfl := Option.some.inj e2_11
  obtain ⟨_, e2_12, x2_12, rfl⟩ := hk2 12 _ rfl
  obtain rfl := Option.some.inj e2_12
  obtain ⟨a3, len3, cap3, rfl⟩ := okWide_slice Try.underlying23 (hval 3 23 v3 rfl rfl)
  have k3 := h3
  have lt3 : ∀ x ∈ p3, x.block < W.heap.size := by obtain ⟨m, hm⟩ := k3; exact DataW.trod_lt m _ _ _ hm
  obtain ⟨z3, w3⟩ : ∃ zs, IsRow .u64 W a3 len3 cap3 zs := by
    obtain ⟨fuel, hf⟩ := h3
    rcases open_ints Try.underlying23 Try.underlying33 (by kernel_rfl) hf with ⟨hcs, _⟩ | ⟨x, l, c, zs, hcs, _, hl, hm, hz, _, hcell, hwz⟩
    · simp [Value.cells] at hcs
      obtain ⟨rfl, rfl, rfl⟩ := hcs
      exact ⟨[], .inl ⟨rfl, rfl, rfl, rfl⟩⟩
    · simp [Value.cells] at hcs
      obtain ⟨rfl, rfl, rfl⟩ := hcs
      exact ⟨zs, .inr ⟨_, rfl, hl, hm, by simpa using hz, hcell, hwz⟩⟩
  obtain ⟨a4, rfl, rfl, rfl, w4⟩ := open_int Try.underlying3 (hval 4 3 v4 rfl rfl) h4
  clear hA0 hval0
  refine (cellsBegin_walk l0_0 l0_1 l0_2 l0_3 l0_4 a1 x2_0 x2_1 x2_2 x2_3 x2_4 x2_5 x2_6 x2_7 x2_8 x2_9 x2_10 x2_11 x2_12 a3 len3 cap3 z3 a4 W  w1 w2_0 w2_1 w2_2 w2_3 w2_4 w2_5 w2_6 w2_7 w2_8 w2_9 w2_10 w2_11  w3 w4).mono fun e W' ⟨he, bel⟩ => ?_
  subst he
  exact ⟨_, rfl, _, _, _, [], _, [], hW', trodAll_mk1 (shut_bool Try.underlying4 _), (trodAll_cons_mk (Below.trod laidOut (by kernel_rfl) (of_decide_eq_true (by kernel_rfl)) k0 bel lt0) (trodAll_cons_mk (shut_int Try.underlying3 w1) (trodAll_cons_mk (Below.trod laidOut (by kernel_rfl) (of_decide_eq_true (by kernel_rfl)) k2 bel lt2) (trodAll_cons_mk (Below.trod laidOut (by kernel_rfl) (of_decide_eq_true (by kernel_rfl)) k3 bel lt3) (trodAll_cons_mk (shut_int Try.underlying3 w4) trodAll_mk0))))), rfl, bel.frame _, fun h => by cases h⟩

theorem over : Rows.cellsBeginRow.holds Try.pinned (OpenSpec.ofChange Rows.cellsBeginSpec) :=
  OpenClaim.holds_of_wide 5 Try.f5 rfl rfl rfl rfl rfl rfl rfl ⟨rfl, rfl, rfl, rfl, rfl⟩ rfl rfl rfl rfl rfl (by kernel_rfl) Try.func5 (by kernel_rfl)
    (of_decide_eq_true (by kernel_rfl)) (by unfold Func.isWrapper; first | (rw [if_pos (by decide +kernel)]; kernel_rfl) | (rw [if_neg (by decide +kernel)]; exact ⟨rfl, rfl⟩))
    (fun os started H enc _ => lifted os started H enc)

/-- The statement. -/
theorem proved : Rows.CellsBeginSaid := over
#print axioms proved
end Go.Proofs.Ytfmmphabfdpegaa.cellsBegin
