/- The contract of strongtxkit.Words. -/
import Derived.Test.YtopcnaakdldkpaaKit
namespace Go.Proofs.Ytopcnaakdldkpaa
open Go.RowKit
set_option linter.unusedVariables false

theorem words_any (w : World) (A B : Option Addr) (n m c d bA bB : Nat) (xs ys : List Int) (hA : Reads w bA A n (xs.map (Value.int .u64))) (hB : Reads w bB B m (ys.map (Value.int .u64))) (hn : n ≤ 9223372036854775807) :
    Calls Try.prog 62 #[.slice A n c, .slice B m d] w fun e w' => e = .returned (.bool (decide (xs = ys))) ∧ ∃ q, w' = w.drewN q := by
  have lx : xs.length = n := by simpa using hA.len
  have ly : ys.length = m := by simpa using hB.len
  by_cases hnm : n = m
  · subst hnm
    have e1 : ((n : Int) != n) = false := by simp
    go_enter Try.func62, Try.ntmps62
    go_wp2_with fail
    clear e1
    go_loopw [5] (fun i wr => ∃ k q : Nat, k ≤ n ∧ i = .int .i64 k ∧ wr = w.drewN q ∧ ∀ j, j < k → xs.getD j 0 = ys.getD j 0) (fun i _ => n - (intOf i).toNat)
    case atStart => exact ⟨0, 0, Nat.zero_le _, rfl, rfl, fun j hj => by omega⟩
    case round =>
      obtain ⟨k, q, hk, rfl, rfl, heq⟩ := hrel
      by_cases hlt : k < n
      · obtain ⟨ad, rfl, _, h1⟩ := hA.numAt hlt
        obtain ⟨bd, rfl, _, h2⟩ := hB.numAt hlt
        obtain ⟨x, hx⟩ : ∃ x, x = xs.getD k 0 := ⟨_, rfl⟩
        obtain ⟨y, hy⟩ : ∃ y, y = ys.getD k 0 := ⟨_, rfl⟩
        rw [← hx] at h1
        rw [← hy] at h2
        have Hx := hid hx
        have Hy := hid hy
        have He := hid heq
        clear hx hy heq
        by_cases hxy : x = y
        · subst hxy
          go_wp2_with fail
          go_quiet (fail)
          go_wp2_with fail
          go_roundw
          case rel => exact ⟨k + 1, _, by omega, by go_num, (by first | rfl | exact World.drewN_drewN _ _ _), fun j hj => by
            rcases Nat.lt_or_ge j k with h | h
            · exact He.out j h
            · obtain rfl : j = k := by omega
              rw [← Hx.out, ← Hy.out]⟩
          case measure => simp [intOf]; omega
        · have e2 : (x != y) = true := by simpa using hxy
          go_wp2_with fail
          go_quiet (fail)
          go_wp2_with fail
          go_ret
          exact ⟨bool_eq (by
            symm
            rw [decide_eq_false_iff_not]
            rintro rfl
            exact hxy (Hx.out.trans Hy.out.symm)), by first | exact ⟨_, rfl⟩ | exact ⟨_, World.drewN_drewN _ _ _⟩⟩
      · have He := hid heq
        clear heq
        go_wp2_with fail
        go_ret
        exact ⟨bool_eq (by symm; rw [decide_eq_true_iff]; exact getD_ext lx ly (fun j hj => He.out j (by omega))), q, rfl⟩
  · have e1 : ((n : Int) != m) = true := by simp; omega
    go_enter Try.func62, Try.ntmps62
    go_wp2_with fail
    go_ret
    exact ⟨bool_eq (by symm; rw [decide_eq_false_iff_not]; rintro rfl; omega), 0, rfl⟩
end Go.Proofs.Ytopcnaakdldkpaa
