/-
  PROVED: the Go function strongtxlaw05.CodeCanonical returns true for every input of bulk at most 1048576, and each argument reads afterwards as it read before. Conditions: the given row's own, and the bound on the bulk that the second form sets.
  The frame follows the shell that the kit's proof-skeleton.mjs prints; the walk is the theorem codeCanonical_walk of YtipafegiobnkpaaLc.
-/
import Derived.Test.YtipafegiobnkpaaLc
import Derived.WalkKit
import Derived.ProofKit
import Derived.OpenShut
import Derived.ShutString
import Derived.ChangeOld
import Derived.Below
import Derived.JoinedCond
namespace Go.Proofs.Ytipafegiobnkpaa.codeCanonical
open Go.ChangeShapes Go.WideShapes Go.ChangeAt Go.RowKit
open Go.ChangeMaps (open_string shut_string)
set_option linter.unusedVariables false

theorem own : ownKnob Try.prog.godebug = none := by kernel_rfl
theorem laidOut : laidOutB Try.prog = true := by kernel_rfl

theorem contract (H : Type) (enc : TypeId × Value → H) (W : World) (base : Nat) (args : Array Value) (ds gs : List (DataW H)) (before : List MemPlace)
    (hval0 : ∀ (j : Nat) t v, Try.f7.params[j]? = some t → args[j]? = some v → Value.okWide Try.prog W .any base t v)
    (hW : DataW.Whole enc Try.prog Try.f7.params.toList Rows.codeCanonicalSpec.vars false W args.toList ds gs before) (hk : Rows.uptoSmall H (ds ++ gs) = true) :
    Calls Try.prog 7 args W fun e W' => ∃ v, e = .returned v ∧ Rows.codeCanonicalSpec.post enc Try.prog Try.f7 false true false false W args v W' := by
  have hval : ∀ (j : Nat) t v, Try.f7.params[j]? = some t → args[j]? = some v → Value.okWide Try.prog W .any base t v := hval0
  have hW' := hW
  obtain ⟨p, q, hA0, hV, rfl, hfz, hnd⟩ := hW
  have hA : DataW.TrodAll enc Try.prog W 0 (fun _ => true) true Try.f7.params.toList args.toList ds p := hA0
  rw [Try.params7] at hA hval
  obtain ⟨v0, vs0, d0, ds0, p0, q0, hargs, rfl, rfl, h0, r0⟩ := trodAll_cons hA
  obtain ⟨v1, vs1, d1, ds1, p1, q1, rfl, rfl, rfl, h1, r1⟩ := trodAll_cons r0
  obtain ⟨v2, vs2, d2, ds2, p2, q2, rfl, rfl, rfl, h2, r2⟩ := trodAll_cons r1
  obtain ⟨v3, vs3, d3, ds3, p3, q3, rfl, rfl, rfl, h3, r3⟩ := trodAll_cons r2
  obtain ⟨rfl, rfl, rfl⟩ := trodAll_nil r3
  obtain rfl : args = #[v0, v1, v2, v3] := by cases args; simp_all
  obtain ⟨rfl, rfl⟩ := trodVars_none hV
  obtain ⟨a0, len0, cap0, rfl⟩ := okWide_slice Try.underlying31 (hval 0 31 v0 rfl rfl)
  have k0 := h0
  have lt0 : ∀ x ∈ p0, x.block < W.heap.size := by obtain ⟨m, hm⟩ := k0; exact DataW.trod_lt m _ _ _ hm
  obtain ⟨z0, w0⟩ : ∃ zs, IsRow .u8 W a0 len0 cap0 zs := by
    obtain ⟨fuel, hf⟩ := h0
    rcases open_ints Try.underlying31 Try.underlying5 (by kernel_rfl) hf with ⟨hcs, _⟩ | ⟨x, l, c, zs, hcs, _, hl, hm, hz, _, hcell, hwz⟩
    · simp [Value.cells] at hcs
      obtain ⟨rfl, rfl, rfl⟩ := hcs
      exact ⟨[], .inl ⟨rfl, rfl, rfl, rfl⟩⟩
    · simp [Value.cells] at hcs
      obtain ⟨rfl, rfl, rfl⟩ := hcs
      exact ⟨zs, .inr ⟨_, rfl, hl, hm, by simpa using hz, hcell, hwz⟩⟩
  have k1 := h1
  have lt1 : ∀ x ∈ p1, x.block < W.heap.size := by obtain ⟨m, hm⟩ := k1; exact DataW.trod_lt m _ _ _ hm
  obtain ⟨_, rfl, hsz1, hk1⟩ := open_shape 5 (ks := [.int .i64, .int .i64, .int .i64, .int .i64, .int .i64, .int .i64, .int .i64, .int .i64, .int .i64, .int .i64, .int .i64, .int .i64, .bool, .slice [.int .u64], .slice [.slice [.int .i64, .int .i64, .int .i64, .int .i64, .int .i64]], .slice [.int .i64]]) Try.underlying29 (by kernel_rfl) (by kernel_rfl) (hval 1 29 v1 rfl rfl) h1
  obtain ⟨c1_0, c1_1, c1_2, c1_3, c1_4, c1_5, c1_6, c1_7, c1_8, c1_9, c1_10, c1_11, c1_12, c1_13, c1_14, c1_15, rfl⟩ := arr16 hsz1
  obtain ⟨_, e1_0, x1_0, rfl, w1_0⟩ := hk1 0 _ rfl
  obtain rfl := Option.some.inj e1_0
  obtain ⟨_, e1_1, x1_1, rfl, w1_1⟩ := hk1 1 _ rfl
  obtain rfl := Option.some.inj e1_1
  obtain ⟨_, e1_2, x1_2, rfl, w1_2⟩ := hk1 2 _ rfl
  obtain rfl := Option.some.inj e1_2
  obtain ⟨_, e1_3, x1_3, rfl, w1_3⟩ := hk1 3 _ rfl
  obtain rfl := Option.some.inj e1_3
  obtain ⟨_, e1_4, x1_4, rfl, w1_4⟩ := hk1 4 _ rfl
  obtain rfl := Option.some.inj e1_4
  obtain ⟨_, e1_5, x1_5, rfl, w1_5⟩ := hk1 5 _ rfl
  obtain rfl := Option.some.inj e1_5
  obtain ⟨_, e1_6, x1_6, rfl, w1_6⟩ := hk1 6 _ rfl
  obtain rfl := Option.some.inj e1_6
  obtain ⟨_, e1_7, x1_7, rfl, w1_7⟩ := hk1 7 _ rfl
  obtain rfl := Option.some.inj e1_7
  obtain ⟨_, e1_8, x1_8, rfl, w1_8⟩ := hk1 8 _ rfl
  obtain rfl := Option.some.inj e1_8
  obtain ⟨_, e1_9, x1_9, rfl, w1_9⟩ := hk1 9 _ rfl
  obtain rfl := Option.some.inj e1_9
  obtain ⟨_, e1_10, x1_10, rfl, w1_10⟩ := hk1 10 _ rfl
  obtain rfl := Option.some.inj e1_10
  obtain ⟨_, e1_11, x1_11, rfl, w1_11⟩ := hk1 11 _ rfl
  obtain rfl := Option.some.inj e1_11
  obtain ⟨_, e1_12, x1_12, rfl⟩ := hk1 12 _ rfl
  obtain rfl := Option.some.inj e1_12
  obtain ⟨x1_13, e1_13, w1_13⟩ := hk1 13 _ rfl
  obtain rfl := (Option.some.inj e1_13).symm
  obtain ⟨x1_14, e1_14, w1_14⟩ := hk1 14 _ rfl
  obtain rfl := (Option.some.inj e1_14).symm
  obtain ⟨x1_15, e1_15, w1_15⟩ := hk1 15 _ rfl
  obtain rfl := (Option.some.inj e1_15).symm
  obtain ⟨a2, rfl, rfl, rfl, w2⟩ := open_int Try.underlying3 (hval 2 3 v2 rfl rfl) h2
  obtain ⟨a3, rfl, rfl, rfl, w3⟩ := open_int Try.underlying3 (hval 3 3 v3 rfl rfl) h3
  have lens1 := script_lens k1 rfl rfl (Nat.le_trans (bulk_part (by simp)) (of_decide_eq_true hk))
  clear hA0 hval0
  refine (codeCanonical_walk a0 len0 cap0 z0 x1_0 x1_1 x1_2 x1_3 x1_4 x1_5 x1_6 x1_7 x1_8 x1_9 x1_10 x1_11 x1_12 x1_13 x1_14 x1_15  a2 a3 W w0 w1_0 w1_1 w1_2 w1_3 w1_4 w1_5 w1_6 w1_7 w1_8 w1_9 w1_10 w1_11  w1_13 w1_14 w1_15 lens1 w2 w3).mono fun e W' ⟨he, bel⟩ => ?_
  subst he
  exact ⟨_, rfl, _, _, _, [], _, [], hW', trodAll_mk1 (shut_bool Try.underlying4 _), (trodAll_cons_mk (Below.trod laidOut (by kernel_rfl) (of_decide_eq_true (by kernel_rfl)) k0 bel lt0) (trodAll_cons_mk (Below.trod laidOut (by kernel_rfl) (of_decide_eq_true (by kernel_rfl)) k1 bel lt1) (trodAll_cons_mk (shut_int Try.underlying3 w2) (trodAll_cons_mk (shut_int Try.underlying3 w3) trodAll_mk0)))), rfl, bel.frame _, fun h => by cases h⟩

set_option maxRecDepth 100000 in
theorem lifted (os : Os) (started : os.Started) (H : Type) (enc : TypeId × Value → H) (F : Stop.Interp) :
    ReturnsInHanded {} Try.checked os 7 .any ((Rows.OpenSpec.upto Rows.codeCanonicalSpec).pre6 enc Try.prog Try.f7 Rows.codeCanonicalUptoRow.domain false) (((Rows.OpenSpec.upto Rows.codeCanonicalSpec).at F).post enc Try.prog Try.f7 false true false false) := by
  refine returnsInHanded_of_cond (C := Try.checked) (s := Rows.OpenSpec.upto Rows.codeCanonicalSpec) (k := Rows.uptoSmall) rfl own started (by kernel_rfl) Try.func7
    (OpenSpec.witness (enc := enc) (C := Try.checked) (s := Rows.OpenSpec.upto Rows.codeCanonicalSpec) (k := Rows.uptoSmall) rfl false ⟨#[], #[.slice none 0 0, .agg #[.int .i64 0, .int .i64 0, .int .i64 0, .int .i64 0, .int .i64 0, .int .i64 0, .int .i64 0, .int .i64 0, .int .i64 0, .int .i64 0, .int .i64 0, .int .i64 0, .bool false, .slice none 0 0, .slice none 0 0, .slice none 0 0], .int .i64 0, .int .i64 0], []⟩ 8 (by kernel_rfl) (by kernel_rfl) (by kernel_rfl)
      (x := ([.nil, .agg [.agg [.lit (.int .i64 0), .lit (.int .i64 0), .lit (.int .i64 0), .agg [.lit (.int .i64 0), .lit (.int .i64 0), .lit (.int .i64 0), .lit (.int .i64 0)], .lit (.int .i64 0), .lit (.int .i64 0), .lit (.int .i64 0), .lit (.int .i64 0), .lit (.int .i64 0), .lit (.bool false)], .nil, .nil, .nil], .lit (.int .i64 0), .lit (.int .i64 0)], [], [])) (by kernel_rfl) rfl (by kernel_rfl)) ?_
  intro W base args ds gs before hval hW _ hk _
  exact contract H enc W base args ds gs before hval hW hk

/-- The statement. -/
theorem proved : Rows.CodeCanonicalUptoSaid :=
  OpenClaim.holds_of_cond 7 Try.f7 rfl rfl rfl rfl rfl rfl rfl ⟨rfl, rfl, rfl, rfl, rfl⟩ rfl rfl rfl rfl rfl (by kernel_rfl) Try.func7 (by kernel_rfl)
    (of_decide_eq_true (by kernel_rfl)) (by unfold Func.isWrapper; first | (rw [if_pos (by decide +kernel)]; kernel_rfl) | (rw [if_neg (by decide +kernel)]; exact ⟨rfl, rfl⟩))
    (fun os started H enc _ F => lifted os started H enc F)
#print axioms proved
end Go.Proofs.Ytipafegiobnkpaa.codeCanonical
