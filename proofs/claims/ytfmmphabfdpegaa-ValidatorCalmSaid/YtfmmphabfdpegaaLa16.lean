/- strongtxlaw16: config, orecs. -/
import Derived.Test.YtfmmphabfdpegaaLab2
import Derived.Test.YtfmmphabfdpegaaWd
namespace Go.Proofs.Ytfmmphabfdpegaa
open Go.RowKit
set_option linter.unusedVariables false

theorem Blk.reads {w : World} {g : Nat} {t : TypeId} {cs : Array Value} (h : Blk w g t cs) {xs : List Value} (hx : cs.toList = xs) {n : Nat} (hn : xs.length = n) : Reads w g (some ⟨g, 0, none⟩) n xs := by
  subst hx hn
  refine ⟨rfl, fun k hk => ⟨_, cs.toList[k], rfl, rfl, h.lt, List.getElem?_eq_getElem hk, ?_⟩⟩
  have := h.cell k
  rw [show (⟨g, 0, none⟩ : Addr).add k = ⟨g, k, none⟩ by unfold Addr.add; split <;> simp_all, this]
  simp at hk
  simp [hk]
def cf16 : Cfg := { words := 6, orecs := 6, base := 0, c0 := 0, c1 := 0, c2 := 0, c3 := 0, reads := 6, writes := 6, allocs := 0, frees := 0, clock := 0, strong := false }
theorem cf16_ok : cfgErr cf16 = 0 := by decide
def lst16 (xs : List Int) : List Int := xs.map fun x => place x 6
theorem config16 (w0 w : World) (R : Asr) (h : Hold w0 w R) : Calls Try.prog 30 #[] w (BothPost w0 cf16.val R) := by
  go_enter Try.func30, Try.ntmps30
  go_wp2_with fail
  exact bodyPost_ret (v := cf16.val) (by simp [results, Try.results30, cf16, go_sem]) rfl ⟨rfl, h.alloc _⟩
set_option maxRecDepth 8000 in
set_option maxHeartbeats 2000000 in
theorem orecs_any (w0 w : World) (R : Asr) (A : Option Addr) (n c bA : Nat) (xs : List Int) (h : Hold w0 w R) (hA : Reads w0 bA A n (xs.map (Value.int .i64))) (hn : n ≤ 9223372036854775807) :
    Calls Try.prog 34 #[.slice A n c] w fun e w' => ∃ A' c', e = .returned (.slice A' (min n 12) c') ∧ Hold w0 w' (rowA 3 (.slice A' (min n 12) c') (min n 12) ((lst16 (xs.take (min n 12))).map (Value.int .i64)) * R) := by
  have lx : xs.length = n := by simpa using hA.len
  obtain ⟨iU, hiU, hzU0, hzU1, hzU2⟩ := info_parts info_int
  obtain ⟨m, hm⟩ : ∃ m, m = min n 12 := ⟨_, rfl⟩
  have hm1 : m ≤ n ∧ m ≤ 12 ∧ (m = n ∨ m = 12) := by omega
  rw [← hm]
  have HA := hid hA
  have h0 := h.nilRow 3
  have hdef : ∀ k (hk : k < xs.length), (lst16 (xs.take k)).map (Value.int .i64) ++ [.int .i64 (place (xs.getD k 0) 6)] = (lst16 (xs.take (k + 1))).map (Value.int .i64) := fun k hk => by
    unfold lst16
    rw [List.take_succ_eq_append_getElem hk, List.map_append, List.map_append]
    simp only [List.map_cons, List.map_nil]
    rw [getD_at hk]
  have HD := hid hdef
  clear hm h hA hdef
  go_enter Try.func34, Try.ntmps34
  go_wp2_with fail
  go_loopw [3, 4] (fun s i wr => ∃ (k : Nat) (A' : Option Addr) (c' : Nat), k ≤ m ∧ i = .int .i64 k ∧ s = .slice A' k c' ∧ Hold w0 wr (rowA 3 (.slice A' k c') k ((lst16 (xs.take k)).map (Value.int .i64)) * R)) (fun _ i _ => m - (intOf i).toNat)
  case atStart => exact ⟨0, none, 0, by omega, rfl, rfl, h0⟩
  case round =>
    clear h0
    obtain ⟨k, A', c', hk, rfl, rfl, h1⟩ := hrel
    by_cases hlt : k < m
    · have e1 : decide ((k : Int) < n) = true := decide_eq_true (by omega)
      have e2 : decide ((k : Int) < 12) = true := decide_eq_true (by omega)
      obtain ⟨ad, rfl, _, hc⟩ := HA.out.numAt (i := k) (by omega)
      have hc1 := h1.old hc
      obtain ⟨x, hx⟩ : ∃ x, x = xs.getD k 0 := ⟨_, rfl⟩
      have hd := HD.out k (by omega)
      rw [← hx] at hc1 hd
      have Hd := hid hd
      obtain ⟨D, hD⟩ : ∃ D, D = (lst16 (xs.take k)).map (Value.int .i64) := ⟨_, rfl⟩
      rw [← hD] at h1 hd
      have Hd := hid hd
      clear hx hd hc hD
      go_wp2_with fail
      refine (place_any _ _ _ (by omega) (by omega)).mono ?_
      rintro e w' ⟨rfl, rfl⟩
      obtain ⟨y, hy⟩ : ∃ y, y = place x 6 := ⟨_, rfl⟩
      rw [← hy]
      have Hy := hid hy
      clear hy hc1
      go_wp2_with (at_builtin; refine wpList_append1 rfl _ _ 64 rfl 3 iU (.int .i64 0) 8 Try.underlying64 hiU hzU0 hzU1 hzU2 rfl (.slice A' k c') k D (.int .i64 y) _ rfl h1.row rfl rfl (by omega) (by decide) ?_)
      intro A2 c2 W2 ho hc hs
      have h2 := h1.grow ho hc hs
      rw [Hy.out, Hd.out] at h2
      have H2 := hid h2
      clear h1 h2 ho hc hs e1 e2
      go_wp2_with fail
      go_round
      case rel => exact ⟨k + 1, A2, c2, by omega, by go_num, rfl, H2.out⟩
      case measure => simp [intOf]; omega
    · obtain rfl : m = k := by omega
      have H1 := hid h1
      clear h1
      rcases hm1.2.2 with h2 | h2
      · have e1 : decide ((m : Int) < n) = false := decide_eq_false (by omega)
        have h5 : n ≤ m := by omega
        clear h2
        go_wp2_with fail
        go_ret
        exact ⟨A', c', rfl, H1.out⟩
      · have e2 : decide ((m : Int) < 12) = false := decide_eq_false (by omega)
        have h5 : 12 ≤ m := by omega
        clear h2
        by_cases h3 : m < n
        · have e1 : decide ((m : Int) < n) = true := decide_eq_true (by omega)
          go_wp2_with fail
          go_ret
          exact ⟨A', c', rfl, H1.out⟩
        · have e1 : decide ((m : Int) < n) = false := decide_eq_false (by omega)
          go_wp2_with fail
          go_ret
          exact ⟨A', c', rfl, H1.out⟩
/-- The word of an orec that is made of a number. -/
def word16 (v : Int) : Int := if place v 30 % 3 = 2 then place v 30 / 6 * 64 + place v 30 % 4 + 1 else place v 30 / 6 * 64
theorem word16_lt (v : Int) : 0 ≤ word16 v ∧ word16 v ≤ 260 := by
  have := place_nonneg v 30 (by omega); have := place_lt v 30 (by omega)
  have h1 : 0 ≤ place v 30 / 6 ∧ place v 30 / 6 ≤ 4 := by omega
  have h2 : 0 ≤ place v 30 % 4 ∧ place v 30 % 4 ≤ 3 := by omega
  unfold word16
  generalize place v 30 / 6 = x at h1 ⊢
  generalize place v 30 % 4 = y at h2 ⊢
  split <;> omega
theorem word16_any (w : World) (v : Int) : Calls Try.prog 32 #[.int .i64 v] w fun e w' => e = .returned (.int .u64 (word16 v)) ∧ w = w' := by
  have n0 := place_nonneg v 30 (by omega); have n1 := place_lt v 30 (by omega)
  obtain ⟨n, hn⟩ : ∃ n, n = place v 30 := ⟨_, rfl⟩
  have hW : word16 v = if n % 3 = 2 then n / 6 * 64 + n % 4 + 1 else n / 6 * 64 := by rw [hn]; rfl
  rw [← hn] at n0 n1
  have Hn := hid hn
  have HW := hid hW
  clear hn hW
  by_cases h3 : n % 3 = 2
  · have e1 : (n % 3 == 2) = true := by simp [h3]
    have hv : word16 v = n / 6 * 64 + n % 4 + 1 := by rw [HW.out, if_pos h3]
    rw [hv]
    clear hv h3
    go_enter Try.func32, Try.ntmps32
    go_wp2_with fail
    refine (place_any _ _ _ (by omega) (by omega)).mono ?_
    rintro e w' ⟨rfl, rfl⟩
    rw [← Hn.out]
    go_wp2_with fail
    refine (rheld_any _ _ _ (by omega) (by omega) (by omega) (by omega)).mono ?_
    rintro e w' ⟨rfl, rfl⟩
    go_wp2_with fail
    go_ret
    exact ⟨rfl, rfl⟩
  · have e1 : (n % 3 == 2) = false := by simp [h3]
    have hv : word16 v = n / 6 * 64 := by rw [HW.out, if_neg h3]
    rw [hv]
    clear hv h3
    go_enter Try.func32, Try.ntmps32
    go_wp2_with fail
    refine (place_any _ _ _ (by omega) (by omega)).mono ?_
    rintro e w' ⟨rfl, rfl⟩
    rw [← Hn.out]
    go_wp2_with fail
    refine (rfree_any _ _ (by omega) (by omega)).mono ?_
    rintro e w' ⟨rfl, rfl⟩
    go_wp2_with fail
    go_ret
    exact ⟨rfl, rfl⟩
end Go.Proofs.Ytfmmphabfdpegaa
