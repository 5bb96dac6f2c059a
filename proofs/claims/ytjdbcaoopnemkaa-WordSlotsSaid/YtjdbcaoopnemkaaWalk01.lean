/- The walks of the six statements about package word: each law returns true. -/
import Derived.Test.YtjdbcaoopnemkaaWord
import Derived.Below
import Derived.OpenShut
import Derived.Deep.RegionWith
namespace Go.Proofs.Ytjdbcaoopnemkaa
open Go.RowKit
set_option linter.unusedVariables false

theorem hid {p : Prop} (h : p) : Hid p := h

theorem awake01 (w : World) : Calls Try.prog 13 #[] w fun e w' => e = .returned (.bool true) ∧ w = w' := by
  go_enter Try.func13, Try.ntmps13
  go_wp2_with (first
    | (go_at_call 18; refine (held_yes _ _ _ (by omega) (by omega) (by omega) (by omega)).mono ?_; rintro e w' ⟨rfl, rfl⟩)
    | (go_at_call 9; refine (head_yes _ _ _ (by omega) (by omega) (by omega) (by omega)).mono ?_; rintro e w' ⟨rfl, rfl⟩)
    | (go_at_call 20; refine (version_any _ _ (by omega) (by omega)).mono ?_; rintro e w' ⟨rfl, rfl⟩)
    | (go_at_call 21; refine (holder_any _ _ (by omega) (by omega)).mono ?_; rintro e w' ⟨rfl, rfl⟩))
  go_ret
  exact ⟨rfl, rfl⟩

theorem wordHeads_walk (a0 a1 a2 : Int) (w : World) (w0 : (Lit.int .i64 a0).wf = true) (w1 : (Lit.int .i64 a1).wf = true) (w2 : (Lit.int .u64 a2).wf = true) :
    Calls Try.prog 3 #[.int .i64 a0, .int .i64 a1, .int .u64 a2] w fun e w' => e = .returned (.bool true) ∧ Below w.heap.size w w' := by
  have b2 := bounds_u64 w2
  go_enter Try.func3, Try.ntmps3
  go_wp2_with (first
    | (go_at_call 9; refine (head_any _ _ _).mono ?_; rintro e w' ⟨rfl, rfl⟩)
    | (go_at_call 10; refine (rhead_any _ _ _).mono ?_; rintro e w' ⟨rfl, rfl⟩)
    | (go_at_call 11; refine (bump_any _ _ _ b2.1 (by omega)).mono ?_; rintro e w' ⟨rfl, rfl⟩)
    | (go_at_call 12; refine (rbump_any _ _ _ b2.1 (by omega)).mono ?_; rintro e w' ⟨rfl, rfl⟩)
    | (go_at_call 13; refine (awake01 _).mono ?_; rintro e w' ⟨rfl, rfl⟩))
  go_ret
  exact ⟨rfl, Below.refl _ _⟩

theorem wordOrecs_walk (a0 a1 : Int) (w : World) (w0 : (Lit.int .i64 a0).wf = true) (w1 : (Lit.int .i64 a1).wf = true) :
    Calls Try.prog 5 #[.int .i64 a0, .int .i64 a1] w fun e w' => e = .returned (.bool true) ∧ Below w.heap.size w w' := by
  go_enter Try.func5, Try.ntmps5
  go_wp2_with (first
    | (go_at_call 16; refine (free_any _ _).mono ?_; rintro e w' ⟨rfl, rfl⟩)
    | (go_at_call 17; refine (rfree_any _ _).mono ?_; rintro e w' ⟨rfl, rfl⟩)
    | (go_at_call 18; refine (held_any _ _ _).mono ?_; rintro e w' ⟨rfl, rfl⟩)
    | (go_at_call 19; refine (rheld_any _ _ _).mono ?_; rintro e w' ⟨rfl, rfl⟩)
    | (go_at_call 13; refine (awake01 _).mono ?_; rintro e w' ⟨rfl, rfl⟩))
  go_ret
  exact ⟨rfl, Below.refl _ _⟩

theorem wordUnpacks_walk (a0 : Int) (w : World) (w0 : (Lit.int .u64 a0).wf = true) :
    Calls Try.prog 7 #[.int .u64 a0] w fun e w' => e = .returned (.bool true) ∧ Below w.heap.size w w' := by
  have b2 := bounds_u64 w0
  go_enter Try.func7, Try.ntmps7
  go_wp2_with (first
    | (go_at_call 20; refine (version_any _ _ b2.1 (by omega)).mono ?_; rintro e w' ⟨rfl, rfl⟩)
    | (go_at_call 22; refine (rversion_any _ _ b2.1 (by omega)).mono ?_; rintro e w' ⟨rfl, rfl⟩)
    | (go_at_call 21; refine (holder_any _ _ b2.1 (by omega)).mono ?_; rintro e w' ⟨rfl, rfl⟩)
    | (go_at_call 23; refine (rholder_any _ _ b2.1 (by omega)).mono ?_; rintro e w' ⟨rfl, rfl⟩)
    | (go_at_call 15; refine (tag_any _ _ b2.1 (by omega)).mono ?_; rintro e w' ⟨rfl, rfl⟩)
    | (go_at_call 28; refine (rtag_any _ _ b2.1 (by omega)).mono ?_; rintro e w' ⟨rfl, rfl⟩)
    | (go_at_call 14; refine (top_any _ _ b2.1 (by omega)).mono ?_; rintro e w' ⟨rfl, rfl⟩)
    | (go_at_call 29; refine (rtop_any _ _ b2.1 (by omega)).mono ?_; rintro e w' ⟨rfl, rfl⟩)
    | (go_at_call 24; refine (state_any _ _ b2.1 (by omega)).mono ?_; rintro e w' ⟨rfl, rfl⟩)
    | (go_at_call 25; refine (rstate_any _ _ b2.1 (by omega)).mono ?_; rintro e w' ⟨rfl, rfl⟩)
    | (go_at_call 26; refine (snapshot_any _ _).mono ?_; rintro e w' ⟨rfl, rfl⟩)
    | (go_at_call 27; refine (rsnapshot_any _ _).mono ?_; rintro e w' ⟨rfl, rfl⟩)
    | (go_at_call 13; refine (awake01 _).mono ?_; rintro e w' ⟨rfl, rfl⟩))
  go_ret
  exact ⟨rfl, Below.refl _ _⟩

theorem wordSlots_walk (a0 : Int) (w : World) (w0 : (Lit.int .i64 a0).wf = true) :
    Calls Try.prog 8 #[.int .i64 a0] w fun e w' => e = .returned (.bool true) ∧ Below w.heap.size w w' := by
  by_cases h : 0 ≤ a0 ∧ a0 ≤ 1099511627776
  · have hs : stateW (activeW a0) = 2 := by simp [stateW, activeW, okV, h.1, h.2]; omega
    have hp : snapW (activeW a0) = a0 := by unfold snapW activeW; simp [okV, h.1, h.2]; omega
    have ha : activeW a0 = a0 + 2 := by simp [activeW, okV, h.1, h.2]
    have he : errIf (okV a0) = 0 := by simp [errIf, okV, h.1, h.2]
    have b1 : 0 ≤ activeW a0 := by omega
    have b2 : activeW a0 < 18446744073709551616 := by omega
    have Hs := hid hs
    have Hp := hid hp
    have He := hid he
    clear hs hp ha he
    go_enter Try.func8, Try.ntmps8
    go_wp2_with (first
      | (go_at_call 30; refine (active_any _ _).mono ?_; rintro e w' ⟨rfl, rfl⟩; rw [He.out])
      | (go_at_call 31; refine (ractive_any _ _).mono ?_; rintro e w' ⟨rfl, rfl⟩; rw [He.out])
      | (go_at_call 24; refine (state_any _ _ b1 b2).mono ?_; rintro e w' ⟨rfl, rfl⟩; rw [Hs.out])
      | (go_at_call 26; refine (snapshot_any _ _).mono ?_; rintro e w' ⟨rfl, rfl⟩; rw [Hp.out])
      | (go_at_call 13; refine (awake01 _).mono ?_; rintro e w' ⟨rfl, rfl⟩))
    go_ret
    exact ⟨rfl, Below.refl _ _⟩
  · have he : errIf (okV a0) = 2 := by unfold errIf okV; rw [if_neg]; simp; omega
    have He := hid he
    clear he h
    go_enter Try.func8, Try.ntmps8
    go_wp2_with (first
      | (go_at_call 30; refine (active_any _ _).mono ?_; rintro e w' ⟨rfl, rfl⟩; rw [He.out])
      | (go_at_call 31; refine (ractive_any _ _).mono ?_; rintro e w' ⟨rfl, rfl⟩; rw [He.out])
      | (go_at_call 13; refine (awake01 _).mono ?_; rintro e w' ⟨rfl, rfl⟩))
    go_ret
    exact ⟨rfl, Below.refl _ _⟩

theorem u64_nonneg (a : Int) : 0 ≤ IntKind.u64.wrap a := by rw [IntKind.wrap_u64]; omega
theorem u64_lt (a : Int) : IntKind.u64.wrap a ≤ 18446744073709551615 := by rw [IntKind.wrap_u64]; omega

theorem wordRound_walk (a0 a1 a2 a3 : Int) (w : World) (w0 : (Lit.int .i64 a0).wf = true) (w1 : (Lit.int .i64 a1).wf = true) (w2 : (Lit.int .i64 a2).wf = true) (w3 : (Lit.int .i64 a3).wf = true) :
    Calls Try.prog 6 #[.int .i64 a0, .int .i64 a1, .int .i64 a2, .int .i64 a3] w fun e w' => e = .returned (.bool true) ∧ Below w.heap.size w w' := by
  have u0 := u64_nonneg a0
  have u1 := u64_nonneg a1
  have u2 := u64_nonneg a2
  have u3 := u64_nonneg a3
  go_enter Try.func6, Try.ntmps6
  go_wp2_with (first
    | (go_at_call 18; refine (held_yes _ _ _ (by omega) (by omega) (by omega) (by omega)).mono ?_; rintro e w' ⟨rfl, rfl⟩)
    | (go_at_call 16; refine (free_yes _ _ (by omega) (by omega)).mono ?_; rintro e w' ⟨rfl, rfl⟩)
    | (go_at_call 9; refine (head_yes _ _ _ (by omega) (by omega) (by omega) (by omega)).mono ?_; rintro e w' ⟨rfl, rfl⟩)
    | (go_at_call 20; refine (version_any _ _ (by omega) (by omega)).mono ?_; rintro e w' ⟨rfl, rfl⟩)
    | (go_at_call 21; refine (holder_any _ _ (by omega) (by omega)).mono ?_; rintro e w' ⟨rfl, rfl⟩)
    | (go_at_call 15; refine (tag_any _ _ (by omega) (by omega)).mono ?_; rintro e w' ⟨rfl, rfl⟩)
    | (go_at_call 14; refine (top_any _ _ (by omega) (by omega)).mono ?_; rintro e w' ⟨rfl, rfl⟩)
    | (go_at_call 13; refine (awake01 _).mono ?_; rintro e w' ⟨rfl, rfl⟩))
  go_ret
  exact ⟨rfl, Below.refl _ _⟩

/-- What a walk is told of a slice of integers that came in. -/
def IsRow (k : IntKind) (w : World) (a : Option Addr) (len cap : Nat) (zs : List Int) : Prop :=
  (a = none ∧ len = 0 ∧ cap = 0 ∧ zs = []) ∨
  ∃ x, a = some x ∧ len ≤ cap ∧ cap ≤ maxLen ∧ zs.length = cap ∧ (∀ i, i < zs.length → w.cell? (x.add i) = some (.int k (zs.getD i 0))) ∧ ∀ n ∈ zs, (Lit.int k n).wf = true

theorem IsRow.at_ {k : IntKind} {w : World} {a : Option Addr} {len cap : Nat} {zs : List Int} (h : IsRow k w a len cap zs) {i : Nat} (hi : i < len) :
    ∃ x, a = some x ∧ w.cell? (x.add i) = some (.int k (zs.getD i 0)) := by
  rcases h with ⟨_, rfl, _⟩ | ⟨x, rfl, hl, _, hz, hc, _⟩
  · omega
  · exact ⟨x, rfl, hc i (by omega)⟩

theorem bump_of (w : World) (g b t q : Int) (g0 : 0 ≤ g) (g1 : g < 281474976710656) (b0 : 0 ≤ b) (b1 : b < 65536) (h2 : -1 ≤ t) (h3 : t < 64) (hq : q = (g + 1) % 281474976710656) :
    Calls Try.prog 11 #[.int .u64 (g * 65536 + b), .int .i64 t] w fun e w' => e = .returned (.tuple #[.int .u64 (q * 65536 + (t + 1)), .int .i64 0]) ∧ w = w' := by
  refine (bump_any w (g * 65536 + b) t (by omega) (by omega)).mono fun e w' h => ?_
  have hd : (g * 65536 + b) / 65536 = g := by omega
  have hg : okG q = true := by simp [okG]; omega
  have ht : okB t = true := by simp [okB]; omega
  simpa [headW, errIf, hd, hg, ht, ← hq] using h

theorem tag_of (w : World) (g b : Int) (g0 : 0 ≤ g) (g1 : g < 281474976710656) (b0 : 0 ≤ b) (b1 : b < 65536) :
    Calls Try.prog 15 #[.int .u64 (g * 65536 + b)] w fun e w' => e = .returned (.int .i64 g) ∧ w = w' := by
  refine (tag_any w (g * 65536 + b) (by omega) (by omega)).mono fun e w' h => ?_
  have hd : (g * 65536 + b) / 65536 = g := by omega
  rwa [hd] at h

theorem top_of (w : World) (g b : Int) (g0 : 0 ≤ g) (g1 : g < 281474976710656) (b0 : 0 ≤ b) (b1 : b < 65536) :
    Calls Try.prog 14 #[.int .u64 (g * 65536 + b)] w fun e w' => e = .returned (.int .i64 (b - 1)) ∧ w = w' := by
  refine (top_any w (g * 65536 + b) (by omega) (by omega)).mono fun e w' h => ?_
  have hd : (g * 65536 + b) % 65536 = b := by omega
  rwa [hd] at h

set_option maxHeartbeats 400000 in
theorem wordBumps_walk (a0 : Int) (a1 : Option Addr) (len1 cap1 : Nat) (z1 : List Int) (w : World) (w0 : (Lit.int .u64 a0).wf = true) (w1 : IsRow .i64 w a1 len1 cap1 z1) :
    Calls Try.prog 4 #[.int .u64 a0, .slice a1 len1 cap1] w fun e w' => e = .returned (.bool true) ∧ Below w.heap.size w w' := by
  have b0 := bounds_u64 w0
  obtain ⟨g, b, rfl, g0, g1, c0, c1⟩ : ∃ g b : Int, a0 = g * 65536 + b ∧ 0 ≤ g ∧ g < 281474976710656 ∧ 0 ≤ b ∧ b < 65536 := ⟨a0 / 65536, a0 % 65536, by omega, by omega, by omega, by omega, by omega⟩
  clear w0 b0
  by_cases hl : len1 ≤ 50
  · have hd : decide (50 < (len1 : Int)) = false := by simp; omega
    go_enter Try.func4, Try.ntmps4
    go_wp2_with fail
    clear hd
    go_loop [5, 6] (fun h i => ∃ (k : Nat) (t c : Int), k ≤ len1 ∧ i = .int .i64 k ∧ h = .int .u64 (t * 65536 + c) ∧ 0 ≤ t ∧ t < 281474976710656 ∧ 0 ≤ c ∧ c < 65536 ∧ t ≤ (g + k) % 281474976710656 ∧ (g + k) % 281474976710656 ≤ t) (fun _ i => len1 - (intOf i).toNat)
    case atStart => exact ⟨0, g, b, Nat.zero_le _, rfl, rfl, g0, g1, c0, c1, by omega, by omega⟩
    case round =>
      obtain ⟨k, t, c, hk, rfl, rfl, h0, h1, h2, h3, h4, h5⟩ := hrel
      by_cases hlt : k < len1
      · obtain ⟨x, rfl, hc⟩ := w1.at_ hlt
        obtain ⟨y, hy⟩ : ∃ y, y = z1.getD k 0 := ⟨_, rfl⟩
        rw [← hy] at hc
        clear hy
        have hu := u64_nonneg y
        obtain ⟨q, hq⟩ : ∃ q : Int, q = (t + 1) % 281474976710656 := ⟨_, rfl⟩
        have q0 : 0 ≤ q := by omega
        have q1 : q < 281474976710656 := by omega
        have q2 : q ≤ (g + k + 1) % 281474976710656 := by omega
        have q3 : (g + k + 1) % 281474976710656 ≤ q := by omega
        have q4 : q < t ∨ t < q := by omega
        have e1 : (q == t) = false := beq_eq_false_iff_ne.2 (by omega)
        have e2 : (q != (g + k + 1) % 281474976710656) = false := by rw [bne_eq_false_iff_eq]; omega
        have Hq := hid hq
        clear hq
        have z0 : 0 ≤ IntKind.u64.wrap y % 65 := by omega
        have z1 : IntKind.u64.wrap y % 65 < 65536 := by omega
        go_wp2_with (first
          | (go_at_call 11; refine (bump_of _ _ _ _ q h0 h1 h2 h3 (by omega) (by omega) Hq.out).mono ?_; rintro e w' ⟨rfl, rfl⟩)
          | (go_at_call_of 15 q; refine (tag_of _ _ _ q0 q1 z0 z1).mono ?_; rintro e w' ⟨rfl, rfl⟩)
          | (go_at_call_of 15 g; refine (tag_of _ _ _ g0 g1 c0 c1).mono ?_; rintro e w' ⟨rfl, rfl⟩)
          | (go_at_call 15; refine (tag_of _ _ _ h0 h1 h2 h3).mono ?_; rintro e w' ⟨rfl, rfl⟩)
          | (go_at_call 14; refine (top_of _ _ _ q0 q1 z0 z1).mono ?_; rintro e w' ⟨rfl, rfl⟩))
        go_round
        case rel => exact ⟨k + 1, q, _, by omega, by go_num, rfl, q0, q1, z0, z1, by omega, by omega⟩
        case measure => simp [intOf]; omega
      · go_wp2_with (go_at_call 13; refine (awake01 _).mono ?_; rintro e w' ⟨rfl, rfl⟩)
        go_ret
        exact ⟨rfl, Below.refl _ _⟩
  · go_enter Try.func4, Try.ntmps4
    go_wp2_with (go_at_call 13; refine (awake01 _).mono ?_; rintro e w' ⟨rfl, rfl⟩)
    go_ret
    exact ⟨rfl, Below.refl _ _⟩
end Go.Proofs.Ytjdbcaoopnemkaa
