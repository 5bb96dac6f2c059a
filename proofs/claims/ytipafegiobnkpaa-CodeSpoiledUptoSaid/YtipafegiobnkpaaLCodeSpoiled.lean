/-
  PROVED: the Go function strongtxlaw05.CodeSpoiled returns true for every input of bulk at most 1048576, and each argument reads afterwards as it read before. Conditions: the given row's own, and the bound on the bulk that the second form sets.
  The frame follows the shell that the kit's proof-skeleton.mjs prints; the walk is the theorem codeSpoiled_walk of YtipafegiobnkpaaLs.
-/
import Derived.Test.YtipafegiobnkpaaLs
import Derived.WalkKit
import Derived.ProofKit
import Derived.OpenShut
import Derived.ShutString
import Derived.ChangeOld
import Derived.Below
import Derived.JoinedCond
namespace Go.Proofs.Ytipafegiobnkpaa.codeSpoiled
open Go.ChangeShapes Go.WideShapes Go.ChangeAt Go.RowKit
open Go.ChangeMaps (open_string shut_string)
set_option linter.unusedVariables false

theorem own : ownKnob Try.prog.godebug = none := by kernel_rfl
theorem laidOut : laidOutB Try.prog = true := by kernel_rfl

theorem contract (H : Type) (enc : TypeId × Value → H) (W : World) (base : Nat) (args : Array Value) (ds gs : List (DataW H)) (before : List MemPlace)
    (hval0 : ∀ (j : Nat) t v, Try.f6.params[j]? = some t → args[j]? = some v → Value.okWide Try.prog W .any base t v)
    (hW : DataW.Whole enc Try.prog Try.f6.params.toList Rows.codeSpoiledSpec.vars false W args.toList ds gs before) (hk : Rows.uptoSmall H (ds ++ gs) = true) :
    Calls Try.prog 6 args W fun e W' => ∃ v, e = .returned v ∧ Rows.codeSpoiledSpec.post enc Try.prog Try.f6 false true false false W args v W' := by
  have hval : ∀ (j : Nat) t v, Try.f6.params[j]? = some t → args[j]? = some v → Value.okWide Try.prog W .any base t v := hval0
  have hW' := hW
  obtain ⟨p, q, hA0, hV, rfl, hfz, hnd⟩ := hW
  have hA : DataW.TrodAll enc Try.prog W 0 (fun _ => true) true Try.f6.params.toList args.toList ds p := hA0
  rw [Try.params6] at hA hval
  obtain ⟨v0, vs0, d0, ds0, p0, q0, hargs, rfl, rfl, h0, r0⟩ := trodAll_cons hA
  obtain ⟨v1, vs1, d1, ds1, p1, q1, rfl, rfl, rfl, h1, r1⟩ := trodAll_cons r0
  obtain ⟨v2, vs2, d2, ds2, p2, q2, rfl, rfl, rfl, h2, r2⟩ := trodAll_cons r1
  obtain ⟨v3, vs3, d3, ds3, p3, q3, rfl, rfl, rfl, h3, r3⟩ := trodAll_cons r2
  obtain ⟨rfl, rfl, rfl⟩ := trodAll_nil r3
  obtain rfl : args = #[v0, v1, v2, v3] := by cases args; simp_all
  obtain ⟨rfl, rfl⟩ := trodVars_none hV
  have k0 := h0
  have lt0 : ∀ x ∈ p0, x.block < W.heap.size := by obtain ⟨m, hm⟩ := k0; exact DataW.trod_lt m _ _ _ hm
  obtain ⟨_, rfl, hsz0, hk0⟩ := open_shape 5 (ks := [.int .i64, .int .i64, .int .i64, .int .i64, .int .i64, .int .i64, .int .i64, .int .i64, .int .i64, .int .i64, .int .i64, .int .i64, .bool, .slice [.int .u64], .slice [.slice [.int .i64, .int .i64, .int .i64, .int .i64, .int .i64]], .slice [.int .i64]]) Try.underlying29 (by kernel_rfl) (by kernel_rfl) (hval 0 29 v0 rfl rfl) h0
  obtain ⟨c0_0, c0_1, c0_2, c0_3, c0_4, c0_5, c0_6, c0_7, c0_8, c0_9, c0_10, c0_11, c0_12, c0_13, c0_14, c0_15, rfl⟩ := arr16 hsz0
  obtain ⟨_, e0_0, x0_0, rfl, w0_0⟩ := hk0 0 _ rfl
  obtain rfl := Option.some.inj e0_0
  obtain ⟨_, e0_1, x0_1, rfl, w0_1⟩ := hk0 1 _ rfl
  obtain rfl := Option.some.inj e0_1
  obtain ⟨_, e0_2, x0_2, rfl, w0_2⟩ := hk0 2 _ rfl
  obtain rfl := Option.some.inj e0_2
  obtain ⟨_, e0_3, x0_3, rfl, w0_3⟩ := hk0 3 _ rfl
  obtain rfl := Option.some.inj e0_3
  obtain ⟨_, e0_4, x0_4, rfl, w0_4⟩ := hk0 4 _ rfl
  obtain rfl := Option.some.inj e0_4
  obtain ⟨_, e0_5, x0_5, rfl, w0_5⟩ := hk0 5 _ rfl
  obtain rfl := Option.some.inj e0_5
  obtain ⟨_, e0_6, x0_6, rfl, w0_6⟩ := hk0 6 _ rfl
  obtain rfl := Option.some.inj e0_6
  obtain ⟨_, e0_7, x0_7, rfl, w0_7⟩ := hk0 7 _ rfl
  obtain rfl := Option.some.inj e0_7
  obtain ⟨_, e0_8, x0_8, rfl, w0_8⟩ := hk0 8 _ rfl
  obtain rfl := Option.some.inj e0_8
  obtain ⟨_, e0_9, x0_9, rfl, w0_9⟩ := hk0 9 _ rfl
  obtain rfl := Option.some.inj e0_9
  obtain ⟨_, e0_10, x0_10, rfl, w0_10⟩ := hk0 10 _ rfl
  obtain rfl := Option.some.inj e0_10
  obtain ⟨_, e0_11, x0_11, rfl, w0_11⟩ := hk0 11 _ rfl
  obtain rfl := Option.some.inj e0_11
  obtain ⟨_, e0_12, x0_12, rfl⟩ := hk0 12 _ rfl
  obtain rfl := Option.some.inj e0_12
  obtain ⟨x0_13, e0_13, w0_13⟩ := hk0 13 _ rfl
  obtain rfl := (Option.some.inj e0_13).symm
  obtain ⟨x0_14, e0_14, w0_14⟩ := hk0 14 _ rfl
  obtain rfl := (Option.some.inj e0_14).symm
  obtain ⟨x0_15, e0_15, w0_15⟩ := hk0 15 _ rfl
  obtain rfl := (Option.some.inj e0_15).symm
  obtain ⟨a1, rfl, rfl, rfl, w1⟩ := open_int Try.underlying3 (hval 1 3 v1 rfl rfl) h1
  obtain ⟨a2, rfl, rfl, rfl, w2⟩ := open_int Try.underlying3 (hval 2 3 v2 rfl rfl) h2
  obtain ⟨a3, rfl, rfl, rfl, w3⟩ := open_int Try.underlying3 (hval 3 3 v3 rfl rfl) h3
  have lens0 := script_lens k0 rfl rfl (Nat.le_trans (bulk_part (by simp)) (of_decide_eq_true hk))
  clear hA0 hval0
  refine (codeSpoiled_walk x0_0 x0_1 x0_2 x0_3 x0_4 x0_5 x0_6 x0_7 x0_8 x0_9 x0_10 x0_11 x0_12 x0_13 x0_14 x0_15  a1 a2 a3 W w0_0 w0_1 w0_2 w0_3 w0_4 w0_5 w0_6 w0_7 w0_8 w0_9 w0_10 w0_11  w0_13 w0_14 w0_15 lens0 w1 w2 w3).mono fun e W' ⟨he, bel⟩ => ?_
  subst he
  exact ⟨_, rfl, _, _, _, [], _, [], hW', trodAll_mk1 (shut_bool Try.underlying4 _), (trodAll_cons_mk (Below.trod laidOut (by kernel_rfl) (of_decide_eq_true (by kernel_rfl)) k0 bel lt0) (trodAll_cons_mk (shut_int Try.underlying3 w1) (trodAll_cons_mk (shut_int Try.underlying3 w2) (trodAll_cons_mk (shut_int Try.underlying3 w3) trodAll_mk0)))), rfl, bel.frame _, fun h => by cases h⟩

set_option maxRecDepth 100000 in
theorem lifted (os : Os) (started : os.Started) (H : Type) (enc : TypeId × Value → H) (F : Stop.Interp) :
    ReturnsInHanded {} Try.checked os 6 .any ((Rows.OpenSpec.upto Rows.codeSpoiledSpec).pre6 enc Try.prog Try.f6 Rows.codeSpoiledUptoRow.domain false) (((Rows.OpenSpec.upto Rows.codeSpoiledSpec).at F).post enc Try.prog Try.f6 false true false false) := by
  refine returnsInHanded_of_cond (C := Try.checked) (s := Rows.OpenSpec.upto Rows.codeSpoiledSpec) (k := Rows.uptoSmall) rfl own started (by kernel_rfl) Try.func6
    (OpenSpec.witness (enc := enc) (C := Try.checked) (s := Rows.OpenSpec.upto Rows.codeSpoiledSpec) (k := Rows.uptoSmall) rfl false ⟨#[], #[.agg #[.int .i64 0, .int .i64 0, .int .i64 0, .int .i64 0, .int .i64 0, .int .i64 0, .int .i64 0, .int .i64 0, .int .i64 0, .int .i64 0, .int .i64 0, .int .i64 0, .bool false, .slice none 0 0, .slice none 0 0, .slice none 0 0], .int .i64 0, .int .i64 0, .int .i64 0], []⟩ 8 (by kernel_rfl) (by kernel_rfl) (by kernel_rfl)
      (x := ([.agg [.agg [.lit (.int .i64 0), .lit (.int .i64 0), .lit (.int .i64 0), .agg [.lit (.int .i64 0), .lit (.int .i64 0), .lit (.int .i64 0), .lit (.int .i64 0)], .lit (.int .i64 0), .lit (.int .i64 0), .lit (.int .i64 0), .lit (.int .i64 0), .lit (.int .i64 0), .lit (.bool false)], .nil, .nil, .nil], .lit (.int .i64 0), .lit (.int .i64 0), .lit (.int .i64 0)], [], [])) (by kernel_rfl) rfl (by kernel_rfl)) ?_
  intro W base args ds gs before hval hW _ hk _
  exact contract H enc W base args ds gs before hval hW hk

/-- The statement. -/
theorem proved : Rows.CodeSpoiledUptoSaid :=
  OpenClaim.holds_of_cond 6 Try.f6 rfl rfl rfl rfl rfl rfl rfl ⟨rfl, rfl, rfl, rfl, rfl⟩ rfl rfl rfl rfl rfl (by kernel_rfl) Try.func6 (by kernel_rfl)
    (of_decide_eq_true (by kernel_rfl)) (by unfold Func.isWrapper; first | (rw [if_pos (by decide +kernel)]; kernel_rfl) | (rw [if_neg (by decide +kernel)]; exact ⟨rfl, rfl⟩))
    (fun os started H enc _ F => lifted os started H enc F)
#print axioms proved
end Go.Proofs.Ytipafegiobnkpaa.codeSpoiled
