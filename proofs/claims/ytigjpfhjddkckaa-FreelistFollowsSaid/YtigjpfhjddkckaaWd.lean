/- strongtxref01 and word: Free, Held, Version, Holder; strongtxkit.At, Word. -/
import Derived.Test.YtigjpfhjddkckaaSl
import Derived.Test.YtigjpfhjddkckaaKit
namespace Go.Proofs.Ytigjpfhjddkckaa
open Go.RowKit
set_option linter.unusedVariables false

theorem rversion_any (w : World) (v : Int) (h0 : 0 ≤ v) (h1 : v ≤ 1099511627776) : Calls Try.prog 94 #[.int .i64 v] w fun e w' => e = .returned (.bool true) ∧ w = w' := by
  have e1 : decide (0 ≤ v) = true := decide_eq_true h0
  have e2 : decide (v ≤ 1099511627776) = true := decide_eq_true h1
  go_enter Try.func94, Try.ntmps94
  go_wp2
  go_ret
  exact ⟨rfl, rfl⟩
theorem getD_none {xs : List Int} {k : Nat} (h : xs.length ≤ k) : xs.getD k 0 = 0 := by simp [List.getD, List.getElem?_eq_none h]
theorem at_nat (w : World) (A : Option Addr) (n c bA : Nat) (xs : List Int) (k : Nat) (hA : Reads w bA A n (xs.map (Value.int .i64))) (hn : n ≤ 9223372036854775807) :
    Calls Try.prog 20 #[.slice A n c, .int .i64 k] w fun e w' => e = .returned (.int .i64 (xs.getD k 0)) ∧ w = w' := by
  have lx : xs.length = n := by simpa using hA.len
  by_cases hk : k < n
  · obtain ⟨ad, rfl, _, h1⟩ := hA.numAt hk
    have e1 : decide ((k : Int) < n) = true := decide_eq_true (by omega)
    have e2 : decide (0 ≤ (k : Int)) = true := decide_eq_true (by omega)
    obtain ⟨x, hx⟩ : ∃ x, x = xs.getD k 0 := ⟨_, rfl⟩
    rw [← hx] at h1 ⊢
    clear hx hA
    go_enter Try.func20, Try.ntmps20
    go_wp2
    go_ret
    exact ⟨rfl, rfl⟩
  · have e1 : decide ((k : Int) < n) = false := decide_eq_false (by omega)
    have e2 : decide (0 ≤ (k : Int)) = true := decide_eq_true (by omega)
    rw [getD_none (by omega)]
    clear hA
    go_enter Try.func20, Try.ntmps20
    go_wp2
    go_ret
    exact ⟨rfl, rfl⟩
end Go.Proofs.Ytigjpfhjddkckaa
