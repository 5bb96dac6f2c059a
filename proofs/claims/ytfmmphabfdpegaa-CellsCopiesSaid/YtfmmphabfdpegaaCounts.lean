/- CellsCounts: the walk. -/
import Derived.Test.YtfmmphabfdpegaaStart
import Derived.Test.YtfmmphabfdpegaaAwake08
import Derived.Test.YtfmmphabfdpegaaImage
import Derived.Test.YtfmmphabfdpegaaArg
namespace Go.Proofs.Ytfmmphabfdpegaa
open Go.RowKit
set_option linter.unusedVariables false

theorem setK_setK (C : Nat → List Int) (k i : Nat) (u v : Int) : setK (setK C k i u) k i v = setK C k i v := by
  funext j; unfold setK; by_cases h : j = k <;> simp [h]
theorem setK_at (C : Nat → List Int) (k : Nat) (v : Int) (h : (C k).length = 1) : (setK C k 0 v) k = [v] := by
  unfold setK; rw [if_pos rfl]
  match C k, h with
  | [x], _ => rfl
theorem setK_zero (C : Nat → List Int) (k : Nat) (h : C k = [0]) : setK C k 0 0 = C := by
  funext j; unfold setK; by_cases hj : j = k
  · subst hj; simp [h]
  · simp [hj]
/-- One cell of the kind 5, with s in it. -/
theorem add5 {C : Nat → List Int} {s : Int} (h : C 5 = [s]) (v : Int) : opE C 5 0 = 0 ∧ opA C 4 5 0 v true = ⟨4, 5, 0, s, v, true⟩ ∧ opC C 5 0 v true = setK C 5 0 v ∧ valC C 5 0 = s := by
  have hg : getC C 5 = [s] := by rw [← h]; exact getC_at (k := 5) (by decide) (by decide)
  have hh : hasC C 5 0 := by unfold hasC; rw [hg]; simp
  have hv : valC C 5 0 = s := by unfold valC; rw [hg]; rfl
  refine ⟨by unfold opE; rw [if_pos hh], by unfold opA; rw [if_pos hh, hv]; rfl, by unfold opC; rw [if_pos ⟨hh, rfl⟩]; rfl, hv⟩
theorem field_serving (v0 v1 v2 v3 v5 v6 v7 : Value) (y : Int) (w : World) : (Instr.field 35 (.agg #[v0, v1, v2, v3, .int .u64 y, v5, v6, v7]) 4).run Try.prog w = .ok (.int .u64 y) w := by kernel_rfl
set_option maxRecDepth 8000 in
set_option maxHeartbeats 4000000 in
theorem cellsCounts_any (w : World) (c : Cfg) (l0 l1 l2 l3 l4 : Int) (A : Option Addr) (n cap bA : Nat) (xs : List Int) (hcfg : ∀ w, Calls Try.prog 27 #[.int .i64 l0, .int .i64 l1, .int .i64 l2, .int .i64 l3, .int .i64 l4] w (fun e w' => e = .returned c.val ∧ Chg [] w w')) (hok : cfgErr c = 0)
    (hA : Reads w bA A n (xs.map (Value.int .u64))) (hn : n ≤ 9223372036854775807) :
    Calls Try.prog 6 #[.agg #[.int .i64 l0, .int .i64 l1, .int .i64 l2, .int .i64 l3, .int .i64 l4], .slice A n cap] w (fun e w' => e = .returned (.bool true) ∧ Below w.heap.size w w') := by
  have HC := hid hok
  have HF := hid hcfg
  have HA := hid hA
  clear hok hcfg hA
  by_cases h60 : 60 < n
  · have e1 : decide (60 < (n : Int)) = true := decide_eq_true (by omega)
    have h0 := hid ((Hold.start w).alloc (.cells #[.int .i64 l0, .int .i64 l1, .int .i64 l2, .int .i64 l3, .int .i64 l4] 22))
    go_enter Try.func6, Try.ntmps6
    go_wp2_with fail
    refine (awake_any w _ Asr.emp h0.out).mono ?_
    rintro e w1 ⟨rfl, h1⟩
    have H1 := hid h1
    clear h1
    go_wp2_with fail
    go_ret
    exact ⟨rfl, H1.out.below⟩
  · have e1 : decide (60 < (n : Int)) = false := decide_eq_false (by omega)
    have h0 := hid ((Hold.start w).alloc (.cells #[.int .i64 l0, .int .i64 l1, .int .i64 l2, .int .i64 l3, .int .i64 l4] 22))
    go_enter Try.func6, Try.ntmps6
    go_wp2_with fail
    refine (start_gen w _ Asr.emp c l0 l1 l2 l3 l4 0 HF.out HC.out h0.out).mono ?_
    rintro e u1 ⟨g, r, rfl, h1⟩
    clear h0
    obtain ⟨C, hC⟩ : ∃ C, C = newC c (1 + (place 0 4).toNat) (initL c.words.toNat) := ⟨_, rfl⟩
    have hC5 : C 5 = [0] := by rw [hC]; rfl
    have hCl : ∀ k, (C k).length ≤ 1000 := fun k => by rw [hC]; exact newC_len HC.out (by have := place_lt 0 4 (by omega); omega) (by rw [initL_len]; have := (cfgOk_of HC.out).w; omega) k
    rw [← hC] at h1
    have H5 := hid hC5
    have Hl := hid hCl
    have H1 : Hid (Hold w u1 (memA g (setK C 5 0 0) * (refA r c C * Asr.emp))) := hid (by rw [setK_zero C 5 hC5]; exact h1)
    have HL3 : Hid ((C 3).length = 1 ∧ (C 4).length = 1) := hid (by rw [hC]; exact ⟨rfl, rfl⟩)
    clear hC hC5 hCl h1
    go_wp2_with fail
    go_loopw [8, 9] (fun s i wr => ∃ (k : Nat) (y : Int), k ≤ n ∧ i = .int .i64 k ∧ s = .int .u64 y ∧ Hold w wr (memA g (setK C 5 0 y) * (refA r c C * Asr.emp))) (fun _ i _ => n - (intOf i).toNat)
    case atStart => exact ⟨0, 0, by omega, rfl, rfl, H1.out⟩
    case round =>
      clear H1 e1
      obtain ⟨k, y, hk, rfl, rfl, h2⟩ := hrel
      have hy5 : (setK C 5 0 y) 5 = [y] := setK_at C 5 y (by rw [H5.out]; rfl)
      have hyl : ∀ k, ((setK C 5 0 y) k).length ≤ 1000 := fun k => by rw [setK_len]; exact Hl.out k
      have HY := hid (And.intro hy5 hyl)
      clear hy5 hyl
      by_cases hlt : k < n
      · have e1 : decide ((k : Int) < n) = true := decide_eq_true (by omega)
        obtain ⟨ad, u, hA1, hA2, hA3, hA4, hA5⟩ := HA.out.at_ k hlt
        subst hA1
        obtain ⟨v, rfl⟩ : ∃ v, u = .int .u64 v := by rw [List.getElem?_map] at hA4; cases hx : xs[k]? with | none => rw [hx] at hA4; cases hA4 | some v => rw [hx] at hA4; exact ⟨v, by simpa using hA4.symm⟩
        have q1 := h2.old hA5
        clear hA2 hA3 hA4
        go_wp2_with fail
        refine (mem_add w _ _ g _ 5 0 v h2 (by omega) HY.out.2).mono ?_
        rintro e w2 ⟨rfl, h3⟩
        obtain ⟨p1, p2, p3, p4⟩ := add5 HY.out.1 (IntKind.u64.wrap (valC (setK C 5 0 y) 5 0 + v))
        rw [p1, p2]
        rw [p3, setK_setK, p4] at h3
        rw [p4]
        clear p1 p2 p3 p4 q1 h2
        obtain ⟨z, hz⟩ : ∃ z, z = IntKind.u64.wrap (y + v) := ⟨_, rfl⟩
        have q1 := h3.old hA5
        have h4 := h3.newBlk (t := 39) (cs := #[.int .i64 4, .int .i64 5, .int .i64 0, .int .u64 y, .int .u64 (IntKind.u64.wrap (y + v)), .bool true])
        have q2 := h4.old hA5
        have H4 := hid h4.drop
        clear h3 h4
        go_wp2_with fail
        go_quiet (fail)
        go_wp2_with fail
        go_round
        case rel => exact ⟨k + 1, IntKind.u64.wrap (y + v), by omega, by go_num, rfl, H4.out.drewN nq⟩
        case measure => simp [intOf]; omega
      · obtain rfl : n = k := by omega
        have e1 : decide ((n : Int) < n) = false := by simp
        go_wp2_with fail
        refine (image_any w _ _ g _ h2 ⟨HY.out.2, by rw [setK_len]; exact HL3.out.1, by rw [setK_len]; exact HL3.out.2, by rw [HY.out.1]; rfl⟩).mono ?_
        rintro e w2 ⟨Y, rfl, h3⟩
        unfold imgV
        rw [show w1 (setK C 5 0 y) 5 = y by unfold w1; rw [HY.out.1]; rfl]
        have hf := field_serving (slV (setK C 5 0 y) Y 1) (slV (setK C 5 0 y) Y 2) (.int .u64 (w1 (setK C 5 0 y) 3)) (.int .u64 (w1 (setK C 5 0 y) 4)) (slV (setK C 5 0 y) Y 6) (slV (setK C 5 0 y) Y 7) (slV (setK C 5 0 y) Y 8) y w2
        clear h2
        go_wp2_with fail
        refine (awake_any w _ _ h3).mono ?_
        rintro e w3 ⟨rfl, h4⟩
        have H4 := hid h4.below
        clear h3 h4 hf
        go_wp2_with fail
        go_ret
        exact ⟨rfl, H4.out⟩
end Go.Proofs.Ytfmmphabfdpegaa
