/- strongtxlaw17: config, addrs. -/
import Derived.Test.YtddghhddafeojaaLab2
import Derived.Test.YtddghhddafeojaaWd
namespace Go.Proofs.Ytddghhddafeojaa
open Go.RowKit
set_option linter.unusedVariables false

theorem Blk.reads {w : World} {g : Nat} {t : TypeId} {cs : Array Value} (h : Blk w g t cs) {xs : List Value} (hx : cs.toList = xs) {n : Nat} (hn : xs.length = n) : Reads w g (some ⟨g, 0, none⟩) n xs := by
  subst hx hn
  refine ⟨rfl, fun k hk => ⟨_, cs.toList[k], rfl, rfl, h.lt, List.getElem?_eq_getElem hk, ?_⟩⟩
  have := h.cell k
  rw [show (⟨g, 0, none⟩ : Addr).add k = ⟨g, k, none⟩ by unfold Addr.add; split <;> simp_all, this]
  simp at hk
  simp [hk]
def cf17 : Cfg := { words := 8, orecs := 4, base := 0, c0 := 0, c1 := 0, c2 := 0, c3 := 0, reads := 6, writes := 6, allocs := 0, frees := 0, clock := 0, strong := false }
theorem cf17_ok : cfgErr cf17 = 0 := by decide
def lst17 (xs : List Int) : List Int := xs.map fun x => place x 8
theorem config17 (w0 w : World) (R : Asr) (h : Hold w0 w R) : Calls Try.prog 15 #[] w (BothPost w0 cf17.val R) := by
  go_enter Try.func15, Try.ntmps15
  go_wp2_with fail
  exact bodyPost_ret (v := cf17.val) (by simp [results, Try.results15, cf17, go_sem]) rfl ⟨rfl, h.alloc _⟩
set_option maxRecDepth 8000 in
set_option maxHeartbeats 2000000 in
theorem addrs_any (w0 w : World) (R : Asr) (A : Option Addr) (n c bA : Nat) (xs : List Int) (h : Hold w0 w R) (hA : Reads w0 bA A n (xs.map (Value.int .i64))) (hn : n ≤ 9223372036854775807) :
    Calls Try.prog 18 #[.slice A n c] w fun e w' => ∃ A' c', e = .returned (.slice A' (min n 12) c') ∧ Hold w0 w' (rowA 3 (.slice A' (min n 12) c') (min n 12) ((lst17 (xs.take (min n 12))).map (Value.int .i64)) * R) := by
  have lx : xs.length = n := by simpa using hA.len
  obtain ⟨iU, hiU, hzU0, hzU1, hzU2⟩ := info_parts info_int
  obtain ⟨m, hm⟩ : ∃ m, m = min n 12 := ⟨_, rfl⟩
  have hm1 : m ≤ n ∧ m ≤ 12 ∧ (m = n ∨ m = 12) := by omega
  rw [← hm]
  have HA := hid hA
  have h0 := h.nilRow 3
  have hdef : ∀ k (hk : k < xs.length), (lst17 (xs.take k)).map (Value.int .i64) ++ [.int .i64 (place (xs.getD k 0) 8)] = (lst17 (xs.take (k + 1))).map (Value.int .i64) := fun k hk => by
    unfold lst17
    rw [List.take_succ_eq_append_getElem hk, List.map_append, List.map_append]
    simp only [List.map_cons, List.map_nil]
    rw [getD_at hk]
  have HD := hid hdef
  clear hm h hA hdef
  go_enter Try.func18, Try.ntmps18
  go_wp2_with fail
  go_loopw [3, 4] (fun s i wr => ∃ (k : Nat) (A' : Option Addr) (c' : Nat), k ≤ m ∧ i = .int .i64 k ∧ s = .slice A' k c' ∧ Hold w0 wr (rowA 3 (.slice A' k c') k ((lst17 (xs.take k)).map (Value.int .i64)) * R)) (fun _ i _ => m - (intOf i).toNat)
  case atStart => exact ⟨0, none, 0, by omega, rfl, rfl, h0⟩
  case round =>
    clear h0
    obtain ⟨k, A', c', hk, rfl, rfl, h1⟩ := hrel
    by_cases hlt : k < m
    · have e1 : decide ((k : Int) < n) = true := decide_eq_true (by omega)
      have e2 : decide ((k : Int) < 12) = true := decide_eq_true (by omega)
      obtain ⟨ad, rfl, _, hc⟩ := HA.out.numAt (i := k) (by omega)
      have hc1 := h1.old hc
      obtain ⟨x, hx⟩ : ∃ x, x = xs.getD k 0 := ⟨_, rfl⟩
      have hd := HD.out k (by omega)
      rw [← hx] at hc1 hd
      have Hd := hid hd
      obtain ⟨D, hD⟩ : ∃ D, D = (lst17 (xs.take k)).map (Value.int .i64) := ⟨_, rfl⟩
      rw [← hD] at h1 hd
      have Hd := hid hd
      clear hx hd hc hD
      go_wp2_with fail
      refine (place_any _ _ _ (by omega) (by omega)).mono ?_
      rintro e w' ⟨rfl, rfl⟩
      obtain ⟨y, hy⟩ : ∃ y, y = place x 8 := ⟨_, rfl⟩
      rw [← hy]
      have Hy := hid hy
      clear hy hc1
      go_wp2_with (at_builtin; refine wpList_append1 rfl _ _ 22 rfl 3 iU (.int .i64 0) 8 Try.underlying22 hiU hzU0 hzU1 hzU2 rfl (.slice A' k c') k D (.int .i64 y) _ rfl h1.row rfl rfl (by omega) (by decide) ?_)
      intro A2 c2 W2 ho hc hs
      have h2 := h1.grow ho hc hs
      rw [Hy.out, Hd.out] at h2
      have H2 := hid h2
      clear h1 h2 ho hc hs e1 e2
      go_wp2_with fail
      go_round
      case rel => exact ⟨k + 1, A2, c2, by omega, by go_num, rfl, H2.out⟩
      case measure => simp [intOf]; omega
    · obtain rfl : m = k := by omega
      have H1 := hid h1
      clear h1
      rcases hm1.2.2 with h2 | h2
      · have e1 : decide ((m : Int) < n) = false := decide_eq_false (by omega)
        have h5 : n ≤ m := by omega
        clear h2
        go_wp2_with fail
        go_ret
        exact ⟨A', c', rfl, H1.out⟩
      · have e2 : decide ((m : Int) < 12) = false := decide_eq_false (by omega)
        have h5 : 12 ≤ m := by omega
        clear h2
        by_cases h3 : m < n
        · have e1 : decide ((m : Int) < n) = true := decide_eq_true (by omega)
          go_wp2_with fail
          go_ret
          exact ⟨A', c', rfl, H1.out⟩
        · have e1 : decide ((m : Int) < n) = false := decide_eq_false (by omega)
          go_wp2_with fail
          go_ret
          exact ⟨A', c', rfl, H1.out⟩
end Go.Proofs.Ytddghhddafeojaa
