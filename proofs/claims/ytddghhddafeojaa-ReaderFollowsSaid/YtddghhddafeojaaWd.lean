/- strongtxref01 and word: Free, Held, Version, Holder; strongtxkit.At, Word. -/
import Derived.Test.YtddghhddafeojaaSl
import Derived.Test.YtddghhddafeojaaKit
namespace Go.Proofs.Ytddghhddafeojaa
open Go.RowKit
set_option linter.unusedVariables false

theorem rversion_any (w : World) (v : Int) (h0 : 0 ≤ v) (h1 : v ≤ 1099511627776) : Calls Try.prog 68 #[.int .i64 v] w fun e w' => e = .returned (.bool true) ∧ w = w' := by
  have e1 : decide (0 ≤ v) = true := decide_eq_true h0
  have e2 : decide (v ≤ 1099511627776) = true := decide_eq_true h1
  go_enter Try.func68, Try.ntmps68
  go_wp2
  go_ret
  exact ⟨rfl, rfl⟩
theorem rfree_any (w : World) (v : Int) (h0 : 0 ≤ v) (h1 : v ≤ 1099511627776) : Calls Try.prog 46 #[.int .i64 v] w fun e w' => e = .returned (.tuple #[.int .u64 (v * 64), .int .i64 0]) ∧ w = w' := by
  go_enter Try.func46, Try.ntmps46
  go_wp2_with fail
  refine (rversion_any _ v h0 h1).mono ?_
  rintro e w' ⟨rfl, rfl⟩
  go_wp2_with fail
  go_ret2
  exact ⟨rfl, rfl⟩
theorem rheld_any (w : World) (v t : Int) (h0 : 0 ≤ v) (h1 : v ≤ 1099511627776) (t0 : 0 ≤ t) (t1 : t < 16) : Calls Try.prog 44 #[.int .i64 v, .int .i64 t] w fun e w' => e = .returned (.tuple #[.int .u64 (v * 64 + t + 1), .int .i64 0]) ∧ w = w' := by
  have e1 : decide (t < 0) = false := decide_eq_false (by omega)
  have e2 : decide (16 ≤ t) = false := decide_eq_false (by omega)
  go_enter Try.func44, Try.ntmps44
  go_wp2_with fail
  refine (rversion_any _ v h0 h1).mono ?_
  rintro e w' ⟨rfl, rfl⟩
  go_wp2_with fail
  go_ret2
  exact ⟨rfl, rfl⟩
theorem rver_any (w : World) (o : Int) (h0 : 0 ≤ o) (h1 : o < 18446744073709551616) : Calls Try.prog 70 #[.int .u64 o] w fun e w' => e = .returned (.int .i64 (o / 64)) ∧ w = w' := by
  go_enter Try.func70, Try.ntmps70
  go_wp2
  go_ret
  exact ⟨rfl, rfl⟩
theorem ver_any (w : World) (o : Int) (h0 : 0 ≤ o) (h1 : o < 18446744073709551616) : Calls Try.prog 67 #[.int .u64 o] w fun e w' => e = .returned (.int .i64 (o / 64)) ∧ w = w' := by
  go_enter Try.func67, Try.ntmps67
  go_wp2
  go_ret
  exact ⟨rfl, rfl⟩
theorem rholder_any (w : World) (o : Int) (h0 : 0 ≤ o) (h1 : o < 18446744073709551616) : Calls Try.prog 69 #[.int .u64 o] w fun e w' => e = .returned (.int .i64 (o % 64 - 1)) ∧ w = w' := by
  go_enter Try.func69, Try.ntmps69
  go_wp2
  go_ret
  exact ⟨rfl, rfl⟩
theorem holder_any (w : World) (o : Int) (h0 : 0 ≤ o) (h1 : o < 18446744073709551616) : Calls Try.prog 66 #[.int .u64 o] w fun e w' => e = .returned (.int .i64 (o % 64 - 1)) ∧ w = w' := by
  go_enter Try.func66, Try.ntmps66
  go_wp2
  go_ret
  exact ⟨rfl, rfl⟩
theorem getD_none {xs : List Int} {k : Nat} (h : xs.length ≤ k) : xs.getD k 0 = 0 := by simp [List.getD, List.getElem?_eq_none h]
theorem word_nat (w : World) (A : Option Addr) (n c bA : Nat) (xs : List Int) (k : Nat) (hA : Reads w bA A n (xs.map (Value.int .u64))) (hn : n ≤ 9223372036854775807) :
    Calls Try.prog 45 #[.slice A n c, .int .i64 k] w fun e w' => e = .returned (.int .u64 (xs.getD k 0)) ∧ w = w' := by
  have lx : xs.length = n := by simpa using hA.len
  by_cases hk : k < n
  · obtain ⟨ad, rfl, _, h1⟩ := hA.numAt hk
    have e1 : decide ((k : Int) < n) = true := decide_eq_true (by omega)
    have e2 : decide (0 ≤ (k : Int)) = true := decide_eq_true (by omega)
    obtain ⟨x, hx⟩ : ∃ x, x = xs.getD k 0 := ⟨_, rfl⟩
    rw [← hx] at h1 ⊢
    clear hx hA
    go_enter Try.func45, Try.ntmps45
    go_wp2
    go_ret
    exact ⟨rfl, rfl⟩
  · have e1 : decide ((k : Int) < n) = false := decide_eq_false (by omega)
    have e2 : decide (0 ≤ (k : Int)) = true := decide_eq_true (by omega)
    rw [getD_none (by omega)]
    clear hA
    go_enter Try.func45, Try.ntmps45
    go_wp2
    go_ret
    exact ⟨rfl, rfl⟩
end Go.Proofs.Ytddghhddafeojaa
