/- The contracts of the functions of package word and of its reference: what each returns. The world stays as it was. -/
import Derived.Test.YtigjpfhjddkckaaRows
import Derived.WalkKit
import Derived.WalkSpells
import Derived.WalkLawsBesides
namespace Go.Proofs.Ytigjpfhjddkckaa.W
open Go.RowKit
set_option linter.unusedVariables false

section
variable (w : World)














theorem tag_any (o : Int) (h0 : 0 ≤ o) (h1 : o < 18446744073709551616) :
    Calls Try.prog 86 #[.int .u64 o] w fun e w' => e = .returned (.int .i64 (o / 65536)) ∧ w = w' := by
  go_enter Try.func86, Try.ntmps86
  go_wp2
  go_ret
  exact ⟨rfl, rfl⟩

theorem top_any (o : Int) (h0 : 0 ≤ o) (h1 : o < 18446744073709551616) :
    Calls Try.prog 63 #[.int .u64 o] w fun e w' => e = .returned (.int .i64 (o % 65536 - 1)) ∧ w = w' := by
  go_enter Try.func63, Try.ntmps63
  go_wp2
  go_ret
  exact ⟨rfl, rfl⟩

theorem state_0 (o : Int) (h0 : o = 0) (h1 : o < 18446744073709551616) :
    Calls Try.prog 93 #[.int .u64 o] w fun e w' => e = .returned (.int .i64 0) ∧ w = w' := by
  subst h0
  go_enter Try.func93, Try.ntmps93
  go_wp2
  go_ret
  exact ⟨rfl, rfl⟩

theorem state_1 (o : Int) (h0 : o = 1) (h1 : o < 18446744073709551616) :
    Calls Try.prog 93 #[.int .u64 o] w fun e w' => e = .returned (.int .i64 1) ∧ w = w' := by
  subst h0
  go_enter Try.func93, Try.ntmps93
  go_wp2
  go_ret
  exact ⟨rfl, rfl⟩

theorem state_2 (o : Int) (h0 : 2 ≤ o) (h1 : o < 18446744073709551616) :
    Calls Try.prog 93 #[.int .u64 o] w fun e w' => e = .returned (.int .i64 2) ∧ w = w' := by
  go_enter Try.func93, Try.ntmps93
  go_wp2
  go_ret
  exact ⟨rfl, rfl⟩




theorem head_yes (g t : Int) (h0 : 0 ≤ g) (h1 : g < 281474976710656) (h2 : -1 ≤ t) (h3 : t < 64) :
    Calls Try.prog 85 #[.int .i64 g, .int .i64 t] w fun e w' => e = .returned (.tuple #[.int .u64 (g * 65536 + (t + 1)), .int .i64 0]) ∧ w = w' := by
  go_enter Try.func85, Try.ntmps85
  go_wp2
  go_ret2
  exact ⟨rfl, rfl⟩

theorem head_low (g t : Int) (h0 : g < 0) :
    Calls Try.prog 85 #[.int .i64 g, .int .i64 t] w fun e w' => e = .returned (.tuple #[.int .u64 0, .int .i64 2]) ∧ w = w' := by
  go_enter Try.func85, Try.ntmps85
  go_wp2
  go_ret2
  exact ⟨rfl, rfl⟩

theorem head_high (g t : Int) (h0 : 0 ≤ g) (h1 : 281474976710656 ≤ g) :
    Calls Try.prog 85 #[.int .i64 g, .int .i64 t] w fun e w' => e = .returned (.tuple #[.int .u64 0, .int .i64 2]) ∧ w = w' := by
  go_enter Try.func85, Try.ntmps85
  go_wp2
  go_ret2
  exact ⟨rfl, rfl⟩

theorem head_neg (g t : Int) (h0 : 0 ≤ g) (h1 : g < 281474976710656) (h2 : t < -1) :
    Calls Try.prog 85 #[.int .i64 g, .int .i64 t] w fun e w' => e = .returned (.tuple #[.int .u64 0, .int .i64 2]) ∧ w = w' := by
  go_enter Try.func85, Try.ntmps85
  go_wp2
  go_ret2
  exact ⟨rfl, rfl⟩

theorem head_over (g t : Int) (h0 : 0 ≤ g) (h1 : g < 281474976710656) (h2 : -1 ≤ t) (h3 : 64 ≤ t) :
    Calls Try.prog 85 #[.int .i64 g, .int .i64 t] w fun e w' => e = .returned (.tuple #[.int .u64 0, .int .i64 2]) ∧ w = w' := by
  go_enter Try.func85, Try.ntmps85
  go_wp2
  go_ret2
  exact ⟨rfl, rfl⟩




theorem ractive_yes (v : Int) (h0 : 0 ≤ v) (h1 : v ≤ 1099511627776) :
    Calls Try.prog 79 #[.int .i64 v] w fun e w' => e = .returned (.tuple #[.int .u64 (v + 2), .int .i64 0]) ∧ w = w' := by
  go_enter Try.func79, Try.ntmps79
  go_wp2
  go_ret2
  exact ⟨rfl, rfl⟩

theorem ractive_low (v : Int) (h0 : v < 0) :
    Calls Try.prog 79 #[.int .i64 v] w fun e w' => e = .returned (.tuple #[.int .u64 0, .int .i64 2]) ∧ w = w' := by
  have hd : decide (0 ≤ v) = false := by simp; omega
  go_enter Try.func79, Try.ntmps79
  go_wp2
  go_ret2
  exact ⟨rfl, rfl⟩

theorem ractive_high (v : Int) (h0 : 0 ≤ v) (h1 : 1099511627776 < v) :
    Calls Try.prog 79 #[.int .i64 v] w fun e w' => e = .returned (.tuple #[.int .u64 0, .int .i64 2]) ∧ w = w' := by
  have hd : decide (v ≤ 1099511627776) = false := by simp; omega
  go_enter Try.func79, Try.ntmps79
  go_wp2
  go_ret2
  exact ⟨rfl, rfl⟩








theorem rtag_any (o : Int) (h0 : 0 ≤ o) (h1 : o < 18446744073709551616) :
    Calls Try.prog 36 #[.int .u64 o] w fun e w' => e = .returned (.int .i64 (o / 65536)) ∧ w = w' := by
  go_enter Try.func36, Try.ntmps36
  go_wp2
  go_ret
  exact ⟨rfl, rfl⟩

theorem rtop_any (o : Int) (h0 : 0 ≤ o) (h1 : o < 18446744073709551616) :
    Calls Try.prog 67 #[.int .u64 o] w fun e w' => e = .returned (.int .i64 (o % 65536 - 1)) ∧ w = w' := by
  go_enter Try.func67, Try.ntmps67
  go_wp2
  go_ret
  exact ⟨rfl, rfl⟩

theorem rstate_0 (o : Int) (h0 : o = 0) (h1 : o < 18446744073709551616) :
    Calls Try.prog 51 #[.int .u64 o] w fun e w' => e = .returned (.int .i64 0) ∧ w = w' := by
  subst h0
  go_enter Try.func51, Try.ntmps51
  go_wp2
  go_ret
  exact ⟨rfl, rfl⟩

theorem rstate_1 (o : Int) (h0 : o = 1) (h1 : o < 18446744073709551616) :
    Calls Try.prog 51 #[.int .u64 o] w fun e w' => e = .returned (.int .i64 1) ∧ w = w' := by
  subst h0
  go_enter Try.func51, Try.ntmps51
  go_wp2
  go_ret
  exact ⟨rfl, rfl⟩

theorem rstate_2 (o : Int) (h0 : 2 ≤ o) (h1 : o < 18446744073709551616) :
    Calls Try.prog 51 #[.int .u64 o] w fun e w' => e = .returned (.int .i64 2) ∧ w = w' := by
  go_enter Try.func51, Try.ntmps51
  go_wp2
  go_ret
  exact ⟨rfl, rfl⟩

theorem rsnapshot_low (o : Int) (h0 : o < 2) :
    Calls Try.prog 52 #[.int .u64 o] w fun e w' => e = .returned (.int .i64 (-1)) ∧ w = w' := by
  go_enter Try.func52, Try.ntmps52
  go_wp2
  go_ret
  exact ⟨rfl, rfl⟩

theorem rsnapshot_high (o : Int) (h0 : 2 ≤ o) (h2 : 1099511627778 < o) :
    Calls Try.prog 52 #[.int .u64 o] w fun e w' => e = .returned (.int .i64 (-1)) ∧ w = w' := by
  have hd : decide (1099511627778 < o) = true := by simp; omega
  go_enter Try.func52, Try.ntmps52
  go_wp2
  go_ret
  exact ⟨rfl, rfl⟩

theorem rsnapshot_yes (o : Int) (h0 : 2 ≤ o) (h2 : o ≤ 1099511627778) :
    Calls Try.prog 52 #[.int .u64 o] w fun e w' => e = .returned (.int .i64 (o - 2)) ∧ w = w' := by
  have hd : decide (1099511627778 < o) = false := by simp; omega
  go_enter Try.func52, Try.ntmps52
  go_wp2
  go_ret
  exact ⟨rfl, rfl⟩

theorem rhead_yes (g t : Int) (h0 : 0 ≤ g) (h1 : g < 281474976710656) (h2 : -1 ≤ t) (h3 : t < 64) :
    Calls Try.prog 90 #[.int .i64 g, .int .i64 t] w fun e w' => e = .returned (.tuple #[.int .u64 (g * 65536 + (t + 1)), .int .i64 0]) ∧ w = w' := by
  go_enter Try.func90, Try.ntmps90
  go_wp2
  go_ret2
  exact ⟨rfl, rfl⟩

theorem rhead_low (g t : Int) (h0 : g < 0) :
    Calls Try.prog 90 #[.int .i64 g, .int .i64 t] w fun e w' => e = .returned (.tuple #[.int .u64 0, .int .i64 2]) ∧ w = w' := by
  go_enter Try.func90, Try.ntmps90
  go_wp2
  go_ret2
  exact ⟨rfl, rfl⟩

theorem rhead_high (g t : Int) (h0 : 0 ≤ g) (h1 : 281474976710656 ≤ g) :
    Calls Try.prog 90 #[.int .i64 g, .int .i64 t] w fun e w' => e = .returned (.tuple #[.int .u64 0, .int .i64 2]) ∧ w = w' := by
  go_enter Try.func90, Try.ntmps90
  go_wp2
  go_ret2
  exact ⟨rfl, rfl⟩

theorem rhead_neg (g t : Int) (h0 : 0 ≤ g) (h1 : g < 281474976710656) (h2 : t < -1) :
    Calls Try.prog 90 #[.int .i64 g, .int .i64 t] w fun e w' => e = .returned (.tuple #[.int .u64 0, .int .i64 2]) ∧ w = w' := by
  go_enter Try.func90, Try.ntmps90
  go_wp2
  go_ret2
  exact ⟨rfl, rfl⟩

theorem rhead_over (g t : Int) (h0 : 0 ≤ g) (h1 : g < 281474976710656) (h2 : -1 ≤ t) (h3 : 64 ≤ t) :
    Calls Try.prog 90 #[.int .i64 g, .int .i64 t] w fun e w' => e = .returned (.tuple #[.int .u64 0, .int .i64 2]) ∧ w = w' := by
  go_enter Try.func90, Try.ntmps90
  go_wp2
  go_ret2
  exact ⟨rfl, rfl⟩

/-! What each of the partial functions returns, in one word a result. -/
def okV (v : Int) : Bool := decide (0 ≤ v) && decide (v ≤ 1099511627776)
def okT (t : Int) : Bool := decide (0 ≤ t) && decide (t < 16)
def okG (g : Int) : Bool := decide (0 ≤ g) && decide (g < 281474976710656)
def okB (t : Int) : Bool := decide (-1 ≤ t) && decide (t < 64)
def errIf (b : Bool) : Int := if b then 0 else 2
def freeW (v : Int) : Int := if okV v then v * 64 else 0
def activeW (v : Int) : Int := if okV v then v + 2 else 0
def heldW (v t : Int) : Int := if okV v && okT t then v * 64 + t + 1 else 0
def headW (g t : Int) : Int := if okG g && okB t then g * 65536 + (t + 1) else 0
def stateW (o : Int) : Int := if o = 0 then 0 else if o = 1 then 1 else 2
def snapW (o : Int) : Int := if 2 ≤ o ∧ o ≤ 1099511627778 then o - 2 else -1




theorem head_any (v t : Int) :
    Calls Try.prog 85 #[.int .i64 v, .int .i64 t] w fun e w' => e = .returned (.tuple #[.int .u64 (headW v t), .int .i64 (errIf (okG v && okB t))]) ∧ w = w' := by
  by_cases h0 : 0 ≤ v
  · by_cases h1 : v < 281474976710656
    · by_cases h2 : -1 ≤ t
      · by_cases h3 : t < 64
        · exact (head_yes w v t h0 h1 h2 h3).mono fun e w' h => by simpa [headW, errIf, okG, okB, h0, h1, h2, h3] using h
        · exact (head_over w v t h0 h1 h2 (by omega)).mono fun e w' h => by simpa [headW, errIf, okG, okB, h0, h1, h2, h3] using h
      · exact (head_neg w v t h0 h1 (by omega)).mono fun e w' h => by simpa [headW, errIf, okG, okB, h0, h1, h2] using h
    · exact (head_high w v t h0 (by omega)).mono fun e w' h => by simpa [headW, errIf, okG, okB, h0, h1] using h
  · exact (head_low w v t (by omega)).mono fun e w' h => by simpa [headW, errIf, okG, okB, h0] using h

theorem state_any (o : Int) (h0 : 0 ≤ o) (h1 : o < 18446744073709551616) :
    Calls Try.prog 93 #[.int .u64 o] w fun e w' => e = .returned (.int .i64 (stateW o)) ∧ w = w' := by
  by_cases a : o = 0
  · exact (state_0 w o a h1).mono fun e w' h => by simpa [stateW, a] using h
  · by_cases b : o = 1
    · exact (state_1 w o b h1).mono fun e w' h => by simpa [stateW, b] using h
    · exact (state_2 w o (by omega) h1).mono fun e w' h => by simpa [stateW, a, b] using h


theorem bump_any (o t : Int) (h0 : 0 ≤ o) (h1 : o < 18446744073709551616) :
    Calls Try.prog 64 #[.int .u64 o, .int .i64 t] w fun e w' => e = .returned (.tuple #[.int .u64 (headW ((o / 65536 + 1) % 281474976710656) t), .int .i64 (errIf (okG ((o / 65536 + 1) % 281474976710656) && okB t))]) ∧ w = w' := by
  go_enter Try.func64, Try.ntmps64
  go_wp2_with (first
    | (go_at_call 86; refine (tag_any _ _ h0 h1).mono ?_; rintro e w' ⟨rfl, rfl⟩)
    | (go_at_call 85; refine (head_any _ _ _).mono ?_; rintro e w' ⟨rfl, rfl⟩))
  go_ret2
  exact ⟨rfl, rfl⟩


theorem ractive_any (v : Int) :
    Calls Try.prog 79 #[.int .i64 v] w fun e w' => e = .returned (.tuple #[.int .u64 (activeW v), .int .i64 (errIf (okV v))]) ∧ w = w' := by
  by_cases h0 : 0 ≤ v
  · by_cases h1 : v ≤ 1099511627776
    · exact (ractive_yes w v h0 h1).mono fun e w' h => by simpa [activeW, errIf, okV, h0, h1] using h
    · exact (ractive_high w v h0 (by omega)).mono fun e w' h => by simpa [activeW, errIf, okV, h0, h1] using h
  · exact (ractive_low w v (by omega)).mono fun e w' h => by simpa [activeW, errIf, okV, h0] using h


theorem rhead_any (v t : Int) :
    Calls Try.prog 90 #[.int .i64 v, .int .i64 t] w fun e w' => e = .returned (.tuple #[.int .u64 (headW v t), .int .i64 (errIf (okG v && okB t))]) ∧ w = w' := by
  by_cases h0 : 0 ≤ v
  · by_cases h1 : v < 281474976710656
    · by_cases h2 : -1 ≤ t
      · by_cases h3 : t < 64
        · exact (rhead_yes w v t h0 h1 h2 h3).mono fun e w' h => by simpa [headW, errIf, okG, okB, h0, h1, h2, h3] using h
        · exact (rhead_over w v t h0 h1 h2 (by omega)).mono fun e w' h => by simpa [headW, errIf, okG, okB, h0, h1, h2, h3] using h
      · exact (rhead_neg w v t h0 h1 (by omega)).mono fun e w' h => by simpa [headW, errIf, okG, okB, h0, h1, h2] using h
    · exact (rhead_high w v t h0 (by omega)).mono fun e w' h => by simpa [headW, errIf, okG, okB, h0, h1] using h
  · exact (rhead_low w v t (by omega)).mono fun e w' h => by simpa [headW, errIf, okG, okB, h0] using h

theorem rstate_any (o : Int) (h0 : 0 ≤ o) (h1 : o < 18446744073709551616) :
    Calls Try.prog 51 #[.int .u64 o] w fun e w' => e = .returned (.int .i64 (stateW o)) ∧ w = w' := by
  by_cases a : o = 0
  · exact (rstate_0 w o a h1).mono fun e w' h => by simpa [stateW, a] using h
  · by_cases b : o = 1
    · exact (rstate_1 w o b h1).mono fun e w' h => by simpa [stateW, b] using h
    · exact (rstate_2 w o (by omega) h1).mono fun e w' h => by simpa [stateW, a, b] using h

theorem rsnapshot_any (o : Int) :
    Calls Try.prog 52 #[.int .u64 o] w fun e w' => e = .returned (.int .i64 (snapW o)) ∧ w = w' := by
  by_cases a : 2 ≤ o
  · by_cases b : o ≤ 1099511627778
    · exact (rsnapshot_yes w o a b).mono fun e w' h => by simpa [snapW, a, b] using h
    · exact (rsnapshot_high w o a (by omega)).mono fun e w' h => by simpa [snapW, a, b] using h
  · exact (rsnapshot_low w o (by omega)).mono fun e w' h => by simpa [snapW, a] using h

theorem rbump_any (o t : Int) (h0 : 0 ≤ o) (h1 : o < 18446744073709551616) :
    Calls Try.prog 68 #[.int .u64 o, .int .i64 t] w fun e w' => e = .returned (.tuple #[.int .u64 (headW ((o / 65536 + 1) % 281474976710656) t), .int .i64 (errIf (okG ((o / 65536 + 1) % 281474976710656) && okB t))]) ∧ w = w' := by
  go_enter Try.func68, Try.ntmps68
  go_wp2_with (first
    | (go_at_call 36; refine (rtag_any _ _ h0 h1).mono ?_; rintro e w' ⟨rfl, rfl⟩)
    | (go_at_call 90; refine (rhead_any _ _ _).mono ?_; rintro e w' ⟨rfl, rfl⟩))
  go_ret2
  exact ⟨rfl, rfl⟩

end
end Go.Proofs.Ytigjpfhjddkckaa.W
