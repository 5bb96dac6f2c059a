/- The contracts of the functions of package word and of its reference: what each returns. The world stays as it was. -/
import Derived.Test.YtopcnaakdldkpaaRows
import Derived.WalkKit
import Derived.WalkSpells
import Derived.WalkLawsBesides
namespace Go.Proofs.Ytopcnaakdldkpaa.W
open Go.RowKit
set_option linter.unusedVariables false

section
variable (w : World)














theorem tag_any (o : Int) (h0 : 0 ≤ o) (h1 : o < 18446744073709551616) :
    Calls Try.prog 70 #[.int .u64 o] w fun e w' => e = .returned (.int .i64 (o / 65536)) ∧ w = w' := by
  go_enter Try.func70, Try.ntmps70
  go_wp2
  go_ret
  exact ⟨rfl, rfl⟩

theorem top_any (o : Int) (h0 : 0 ≤ o) (h1 : o < 18446744073709551616) :
    Calls Try.prog 49 #[.int .u64 o] w fun e w' => e = .returned (.int .i64 (o % 65536 - 1)) ∧ w = w' := by
  go_enter Try.func49, Try.ntmps49
  go_wp2
  go_ret
  exact ⟨rfl, rfl⟩







theorem head_yes (g t : Int) (h0 : 0 ≤ g) (h1 : g < 281474976710656) (h2 : -1 ≤ t) (h3 : t < 64) :
    Calls Try.prog 69 #[.int .i64 g, .int .i64 t] w fun e w' => e = .returned (.tuple #[.int .u64 (g * 65536 + (t + 1)), .int .i64 0]) ∧ w = w' := by
  go_enter Try.func69, Try.ntmps69
  go_wp2
  go_ret2
  exact ⟨rfl, rfl⟩

theorem head_low (g t : Int) (h0 : g < 0) :
    Calls Try.prog 69 #[.int .i64 g, .int .i64 t] w fun e w' => e = .returned (.tuple #[.int .u64 0, .int .i64 2]) ∧ w = w' := by
  go_enter Try.func69, Try.ntmps69
  go_wp2
  go_ret2
  exact ⟨rfl, rfl⟩

theorem head_high (g t : Int) (h0 : 0 ≤ g) (h1 : 281474976710656 ≤ g) :
    Calls Try.prog 69 #[.int .i64 g, .int .i64 t] w fun e w' => e = .returned (.tuple #[.int .u64 0, .int .i64 2]) ∧ w = w' := by
  go_enter Try.func69, Try.ntmps69
  go_wp2
  go_ret2
  exact ⟨rfl, rfl⟩

theorem head_neg (g t : Int) (h0 : 0 ≤ g) (h1 : g < 281474976710656) (h2 : t < -1) :
    Calls Try.prog 69 #[.int .i64 g, .int .i64 t] w fun e w' => e = .returned (.tuple #[.int .u64 0, .int .i64 2]) ∧ w = w' := by
  go_enter Try.func69, Try.ntmps69
  go_wp2
  go_ret2
  exact ⟨rfl, rfl⟩

theorem head_over (g t : Int) (h0 : 0 ≤ g) (h1 : g < 281474976710656) (h2 : -1 ≤ t) (h3 : 64 ≤ t) :
    Calls Try.prog 69 #[.int .i64 g, .int .i64 t] w fun e w' => e = .returned (.tuple #[.int .u64 0, .int .i64 2]) ∧ w = w' := by
  go_enter Try.func69, Try.ntmps69
  go_wp2
  go_ret2
  exact ⟨rfl, rfl⟩














theorem rtag_any (o : Int) (h0 : 0 ≤ o) (h1 : o < 18446744073709551616) :
    Calls Try.prog 76 #[.int .u64 o] w fun e w' => e = .returned (.int .i64 (o / 65536)) ∧ w = w' := by
  go_enter Try.func76, Try.ntmps76
  go_wp2
  go_ret
  exact ⟨rfl, rfl⟩

theorem rtop_any (o : Int) (h0 : 0 ≤ o) (h1 : o < 18446744073709551616) :
    Calls Try.prog 59 #[.int .u64 o] w fun e w' => e = .returned (.int .i64 (o % 65536 - 1)) ∧ w = w' := by
  go_enter Try.func59, Try.ntmps59
  go_wp2
  go_ret
  exact ⟨rfl, rfl⟩







theorem rhead_yes (g t : Int) (h0 : 0 ≤ g) (h1 : g < 281474976710656) (h2 : -1 ≤ t) (h3 : t < 64) :
    Calls Try.prog 75 #[.int .i64 g, .int .i64 t] w fun e w' => e = .returned (.tuple #[.int .u64 (g * 65536 + (t + 1)), .int .i64 0]) ∧ w = w' := by
  go_enter Try.func75, Try.ntmps75
  go_wp2
  go_ret2
  exact ⟨rfl, rfl⟩

theorem rhead_low (g t : Int) (h0 : g < 0) :
    Calls Try.prog 75 #[.int .i64 g, .int .i64 t] w fun e w' => e = .returned (.tuple #[.int .u64 0, .int .i64 2]) ∧ w = w' := by
  go_enter Try.func75, Try.ntmps75
  go_wp2
  go_ret2
  exact ⟨rfl, rfl⟩

theorem rhead_high (g t : Int) (h0 : 0 ≤ g) (h1 : 281474976710656 ≤ g) :
    Calls Try.prog 75 #[.int .i64 g, .int .i64 t] w fun e w' => e = .returned (.tuple #[.int .u64 0, .int .i64 2]) ∧ w = w' := by
  go_enter Try.func75, Try.ntmps75
  go_wp2
  go_ret2
  exact ⟨rfl, rfl⟩

theorem rhead_neg (g t : Int) (h0 : 0 ≤ g) (h1 : g < 281474976710656) (h2 : t < -1) :
    Calls Try.prog 75 #[.int .i64 g, .int .i64 t] w fun e w' => e = .returned (.tuple #[.int .u64 0, .int .i64 2]) ∧ w = w' := by
  go_enter Try.func75, Try.ntmps75
  go_wp2
  go_ret2
  exact ⟨rfl, rfl⟩

theorem rhead_over (g t : Int) (h0 : 0 ≤ g) (h1 : g < 281474976710656) (h2 : -1 ≤ t) (h3 : 64 ≤ t) :
    Calls Try.prog 75 #[.int .i64 g, .int .i64 t] w fun e w' => e = .returned (.tuple #[.int .u64 0, .int .i64 2]) ∧ w = w' := by
  go_enter Try.func75, Try.ntmps75
  go_wp2
  go_ret2
  exact ⟨rfl, rfl⟩

/-! What each of the partial functions returns, in one word a result. -/
def okV (v : Int) : Bool := decide (0 ≤ v) && decide (v ≤ 1099511627776)
def okT (t : Int) : Bool := decide (0 ≤ t) && decide (t < 16)
def okG (g : Int) : Bool := decide (0 ≤ g) && decide (g < 281474976710656)
def okB (t : Int) : Bool := decide (-1 ≤ t) && decide (t < 64)
def errIf (b : Bool) : Int := if b then 0 else 2
def freeW (v : Int) : Int := if okV v then v * 64 else 0
def activeW (v : Int) : Int := if okV v then v + 2 else 0
def heldW (v t : Int) : Int := if okV v && okT t then v * 64 + t + 1 else 0
def headW (g t : Int) : Int := if okG g && okB t then g * 65536 + (t + 1) else 0
def stateW (o : Int) : Int := if o = 0 then 0 else if o = 1 then 1 else 2
def snapW (o : Int) : Int := if 2 ≤ o ∧ o ≤ 1099511627778 then o - 2 else -1




theorem head_any (v t : Int) :
    Calls Try.prog 69 #[.int .i64 v, .int .i64 t] w fun e w' => e = .returned (.tuple #[.int .u64 (headW v t), .int .i64 (errIf (okG v && okB t))]) ∧ w = w' := by
  by_cases h0 : 0 ≤ v
  · by_cases h1 : v < 281474976710656
    · by_cases h2 : -1 ≤ t
      · by_cases h3 : t < 64
        · exact (head_yes w v t h0 h1 h2 h3).mono fun e w' h => by simpa [headW, errIf, okG, okB, h0, h1, h2, h3] using h
        · exact (head_over w v t h0 h1 h2 (by omega)).mono fun e w' h => by simpa [headW, errIf, okG, okB, h0, h1, h2, h3] using h
      · exact (head_neg w v t h0 h1 (by omega)).mono fun e w' h => by simpa [headW, errIf, okG, okB, h0, h1, h2] using h
    · exact (head_high w v t h0 (by omega)).mono fun e w' h => by simpa [headW, errIf, okG, okB, h0, h1] using h
  · exact (head_low w v t (by omega)).mono fun e w' h => by simpa [headW, errIf, okG, okB, h0] using h



theorem bump_any (o t : Int) (h0 : 0 ≤ o) (h1 : o < 18446744073709551616) :
    Calls Try.prog 52 #[.int .u64 o, .int .i64 t] w fun e w' => e = .returned (.tuple #[.int .u64 (headW ((o / 65536 + 1) % 281474976710656) t), .int .i64 (errIf (okG ((o / 65536 + 1) % 281474976710656) && okB t))]) ∧ w = w' := by
  go_enter Try.func52, Try.ntmps52
  go_wp2_with (first
    | (go_at_call 70; refine (tag_any _ _ h0 h1).mono ?_; rintro e w' ⟨rfl, rfl⟩)
    | (go_at_call 69; refine (head_any _ _ _).mono ?_; rintro e w' ⟨rfl, rfl⟩))
  go_ret2
  exact ⟨rfl, rfl⟩




theorem rhead_any (v t : Int) :
    Calls Try.prog 75 #[.int .i64 v, .int .i64 t] w fun e w' => e = .returned (.tuple #[.int .u64 (headW v t), .int .i64 (errIf (okG v && okB t))]) ∧ w = w' := by
  by_cases h0 : 0 ≤ v
  · by_cases h1 : v < 281474976710656
    · by_cases h2 : -1 ≤ t
      · by_cases h3 : t < 64
        · exact (rhead_yes w v t h0 h1 h2 h3).mono fun e w' h => by simpa [headW, errIf, okG, okB, h0, h1, h2, h3] using h
        · exact (rhead_over w v t h0 h1 h2 (by omega)).mono fun e w' h => by simpa [headW, errIf, okG, okB, h0, h1, h2, h3] using h
      · exact (rhead_neg w v t h0 h1 (by omega)).mono fun e w' h => by simpa [headW, errIf, okG, okB, h0, h1, h2] using h
    · exact (rhead_high w v t h0 (by omega)).mono fun e w' h => by simpa [headW, errIf, okG, okB, h0, h1] using h
  · exact (rhead_low w v t (by omega)).mono fun e w' h => by simpa [headW, errIf, okG, okB, h0] using h



theorem rbump_any (o t : Int) (h0 : 0 ≤ o) (h1 : o < 18446744073709551616) :
    Calls Try.prog 60 #[.int .u64 o, .int .i64 t] w fun e w' => e = .returned (.tuple #[.int .u64 (headW ((o / 65536 + 1) % 281474976710656) t), .int .i64 (errIf (okG ((o / 65536 + 1) % 281474976710656) && okB t))]) ∧ w = w' := by
  go_enter Try.func60, Try.ntmps60
  go_wp2_with (first
    | (go_at_call 76; refine (rtag_any _ _ h0 h1).mono ?_; rintro e w' ⟨rfl, rfl⟩)
    | (go_at_call 75; refine (rhead_any _ _ _).mono ?_; rintro e w' ⟨rfl, rfl⟩))
  go_ret2
  exact ⟨rfl, rfl⟩

end
end Go.Proofs.Ytopcnaakdldkpaa.W
