/- The errors of New's arguments. -/
import Derived.Test.YtopcnaakdldkpaaLists
namespace Go.Proofs.Ytopcnaakdldkpaa
open Go.RowKit
set_option linter.unusedVariables false

def newErr (c : Cfg) (th : Int) (n : Nat) : Int := if cfgErr c ≠ 0 then cfgErr c else if th < 1 ∨ 16 < th then 54 else if (n : Int) ≠ c.words then 55 else 0
theorem newErr_zero {c : Cfg} {th : Int} {n : Nat} (h : newErr c th n = 0) : cfgErr c = 0 ∧ 1 ≤ th ∧ th ≤ 16 ∧ (n : Int) = c.words := by
  unfold newErr at h
  by_cases h1 : cfgErr c = 0
  · rw [if_neg (by simp [h1])] at h
    by_cases h2 : th < 1 ∨ 16 < th
    · rw [if_pos h2] at h; omega
    · rw [if_neg h2] at h
      by_cases h3 : (n : Int) = c.words
      · exact ⟨h1, by omega, by omega, h3⟩
      · rw [if_pos h3] at h; omega
  · rw [if_pos h1] at h; exact absurd h h1

set_option maxHeartbeats 4000000 in
theorem cells_new_err (w : World) (c : Cfg) (th : Int) (A : Option Addr) (n k : Nat) (hz : newErr c th n ≠ 0) (hn : n ≤ 1000000) : Calls Try.prog 34 #[c.val, .int .i64 th, .slice A n k] w fun e w' => e = .returned (.tuple #[.pointer none, .int .i64 (newErr c th n)]) ∧ Chg [] w w' := by
  by_cases h1 : cfgErr c = 0
  case neg =>
    obtain ⟨x, hx⟩ : ∃ x, cfgErr c = x := ⟨_, rfl⟩
    have HR : newErr c th n = x := by unfold newErr; rw [if_pos h1, hx]
    rw [HR]
    have e1 : (x != 0) = true := by rw [hx] at h1; simp [h1]
    have HC := hid hx
    clear HR h1 hx
    go_enter Try.func34, Try.ntmps34
    go_wp2_with fail
    refine (check_any _ c).mono ?_
    rintro e w1 ⟨rfl, hc1⟩
    rw [HC.out]
    have C1 := hid (((Chg.refl [] w).alloc _).trans hc1 (by simp))
    obtain ⟨q0, q1, q2, q3, q4, q5, q6, q7, q8, q9, q10, q11, q12⟩ := blk_cfg ((Blk.new w 32 c.cells).chg hc1 (by simp))
    clear hc1
    go_wp2_with fail
    go_ret2
    exact ⟨rfl, C1.out⟩
  have HC := hid h1
  by_cases h2 : th < 1
  · have HR : newErr c th n = 54 := by unfold newErr; rw [if_neg (by simp [h1]), if_pos (.inl h2)]
    rw [HR]
    clear HR
    have e1 : decide (th < 1) = true := decide_eq_true h2
    clear h1
    go_enter Try.func34, Try.ntmps34
    go_wp2_with fail
    refine (check_any _ c).mono ?_
    rintro e w1 ⟨rfl, hc1⟩
    rw [HC.out]
    have C1 := hid (((Chg.refl [] w).alloc _).trans hc1 (by simp))
    obtain ⟨q0, q1, q2, q3, q4, q5, q6, q7, q8, q9, q10, q11, q12⟩ := blk_cfg ((Blk.new w 32 c.cells).chg hc1 (by simp))
    clear hc1
    go_wp2_with fail
    go_ret2
    exact ⟨rfl, C1.out⟩
  by_cases h3 : 16 < th
  · have HR : newErr c th n = 54 := by unfold newErr; rw [if_neg (by simp [h1]), if_pos (.inr h3)]
    rw [HR]
    clear HR
    have e1 : decide (th < 1) = false := decide_eq_false h2
    have e2 : decide (16 < th) = true := decide_eq_true h3
    clear h1
    go_enter Try.func34, Try.ntmps34
    go_wp2_with fail
    refine (check_any _ c).mono ?_
    rintro e w1 ⟨rfl, hc1⟩
    rw [HC.out]
    have C1 := hid (((Chg.refl [] w).alloc _).trans hc1 (by simp))
    obtain ⟨q0, q1, q2, q3, q4, q5, q6, q7, q8, q9, q10, q11, q12⟩ := blk_cfg ((Blk.new w 32 c.cells).chg hc1 (by simp))
    clear hc1
    go_wp2_with fail
    go_ret2
    exact ⟨rfl, C1.out⟩
  by_cases h4 : (n : Int) = c.words
  · exact absurd (show newErr c th n = 0 by unfold newErr; rw [if_neg (by simp [h1]), if_neg (by omega), if_neg (by simp [h4])]) hz
  · have HR : newErr c th n = 55 := by unfold newErr; rw [if_neg (by simp [h1]), if_neg (by omega), if_pos h4]
    rw [HR]
    clear HR
    have e1 : decide (th < 1) = false := decide_eq_false h2
    have e2 : decide (16 < th) = false := decide_eq_false h3
    have e3 : ((n : Int) != c.words) = true := by simp [h4]
    clear h1 h4 hz
    go_enter Try.func34, Try.ntmps34
    go_wp2_with fail
    refine (check_any _ c).mono ?_
    rintro e w1 ⟨rfl, hc1⟩
    rw [HC.out]
    have C1 := hid (((Chg.refl [] w).alloc _).trans hc1 (by simp))
    obtain ⟨q0, q1, q2, q3, q4, q5, q6, q7, q8, q9, q10, q11, q12⟩ := blk_cfg ((Blk.new w 32 c.cells).chg hc1 (by simp))
    clear hc1
    go_wp2_with fail
    go_ret2
    exact ⟨rfl, C1.out⟩
end Go.Proofs.Ytopcnaakdldkpaa
