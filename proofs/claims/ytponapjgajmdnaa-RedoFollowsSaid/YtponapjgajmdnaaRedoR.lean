/- The contracts of the reference's log. -/
import Derived.Test.YtponapjgajmdnaaRedo5
import Derived.Test.YtponapjgajmdnaaSep
import Derived.Deep.RegionWith
namespace Go.Proofs.Ytponapjgajmdnaa
open Go.RowKit
set_option linter.unusedVariables false

theorem pfind_at {L : PL} {a : Int} {k : Nat} (hk : k < L.addrs.length) (he : L.addrs.getD k 0 = a) (hb : ∀ j, j < k → L.addrs.getD j 0 ≠ a) : pfind L a = k := by
  have hm : a ∈ L.addrs := he ▸ getD_mem hk
  have h1 := mem_adr hm
  have : L.addrs.idxOf a = k := by
    rcases Nat.lt_trichotomy (L.addrs.idxOf a) k with h | h | h
    · exact absurd h1.2 (hb _ h)
    · exact h
    · have h2 := List.not_of_lt_findIdx (p := (· == a)) (xs := L.addrs) (i := k) (by simpa [List.idxOf] using h)
      rw [getD_at hk] at he
      simp [he] at h2
  rw [pfind_in hm, this]
theorem pfind_no {L : PL} {a : Int} (hb : ∀ j, j < L.addrs.length → L.addrs.getD j 0 ≠ a) : pfind L a = -1 := by
  refine pfind_out fun hm => ?_
  have h1 := mem_adr hm
  exact hb _ h1.1 h1.2

theorem int_eq {k : IntKind} {a b : Int} (h : a = b) : Ending.returned (.int k a) = .returned (.int k b) := by rw [h]

theorem rlog_find (w : World) (fp : List Nat) (g : Nat) (L : PL) (a : Int) (h : LogAt 63 w fp g L) (hl : L.addrs.length ≤ 32) :
    Calls Try.prog 52 #[.pointer (some ⟨g, 0, none⟩), .int .i64 a] w fun e w' => e = .returned (.int .i64 (pfind L a)) ∧ w = w' := by
  obtain ⟨A, c, V, d, X, e, hb, h1, h2, h3, h4, hfp⟩ := h.ex
  have c1 : w.cell? ⟨g, 1, none⟩ = some (.slice A L.addrs.length c) := hb.some_ rfl
  have hR := row_reads h1
  obtain ⟨n, hn⟩ : ∃ n, n = L.addrs.length := ⟨_, rfl⟩
  rw [← hn] at c1 hR hl
  have Hn := hid hn
  have HR := hid hR
  clear hfp hb h h1 h2 h3 h4 hn hR
  go_enter Try.func52, Try.ntmps52
  go_wp2_with fail
  go_loop [5] (fun i => ∃ k : Nat, k ≤ n ∧ i = .int .i64 k ∧ ∀ j, j < k → L.addrs.getD j 0 ≠ a) (fun i => n - (intOf i).toNat)
  case atStart => exact ⟨0, Nat.zero_le _, rfl, fun j hj => by omega⟩
  case round =>
    obtain ⟨k, hk, rfl, heq⟩ := hrel
    have He := hid heq
    clear heq
    by_cases hlt : k < n
    · obtain ⟨ad, hA, _, h1⟩ := HR.out.numAt hlt
      obtain ⟨x, hx⟩ : ∃ x, x = L.addrs.getD k 0 := ⟨_, rfl⟩
      rw [← hx] at h1
      have Hx := hid hx
      clear hx HR
      subst hA
      by_cases hxy : x = a
      · subst hxy
        go_wp2_with fail
        go_ret
        exact ⟨int_eq (pfind_at (by rw [← Hn.out]; omega) Hx.out.symm He.out).symm, rfl⟩
      · have e2 : (x == a) = false := by simpa using hxy
        go_wp2_with fail
        go_round
        case rel => exact ⟨k + 1, by omega, by go_num, fun j hj => by
          rcases Nat.lt_or_ge j k with h | h
          · exact He.out j h
          · obtain rfl : j = k := by omega
            rw [← Hx.out]; exact hxy⟩
        case measure => simp [intOf]; omega
    · go_wp2_with fail
      go_ret
      exact ⟨int_eq (pfind_no (fun j hj => He.out j (by rw [← Hn.out] at hj; omega))).symm, rfl⟩

theorem rlog_get (w : World) (fp : List Nat) (g : Nat) (L : PL) (a : Int) (h : LogAt 63 w fp g L) (H : Inv L) :
    Calls Try.prog 45 #[.pointer (some ⟨g, 0, none⟩), .int .i64 a] w fun e w' => e = .returned (.tuple #[.int .u64 (getV L a), .bool (getOk L a)]) ∧ w = w' := by
  have hl : L.addrs.length ≤ 32 := by have := H.le; have := H.cap32; omega
  obtain ⟨A, c, V, d, X, e, hb, h1, h2, h3, h4, hfp⟩ := h.ex
  have c2 : w.cell? ⟨g, 2, none⟩ = some (.slice V L.addrs.length d) := hb.some_ rfl
  have h0 := h
  clear hfp hb h h1 h3 h4
  go_enter Try.func45, Try.ntmps45
  go_wp2_with fail
  refine (rlog_find _ _ _ _ a h0 hl).mono ?_
  rintro e w' ⟨rfl, rfl⟩
  by_cases hin : a ∈ L.addrs
  · have hm := mem_adr hin
    have hr := row_reads h2
    obtain ⟨ad, hV, _, hc⟩ := hr.numAt hm.1
    have hg := getIn hin
    rw [pfind_in hin]
    obtain ⟨j, hj⟩ : ∃ j, j = L.addrs.idxOf a := ⟨_, rfl⟩
    obtain ⟨n, hn⟩ : ∃ n, n = L.addrs.length := ⟨_, rfl⟩
    obtain ⟨y, hy⟩ : ∃ y, y = L.vals.getD (L.addrs.idxOf a) 0 := ⟨_, rfl⟩
    rw [← hy] at hc hg
    rw [← hj] at hc hm ⊢
    rw [← hn] at c2 hl
    have hjn : j < n := by rw [hn]; exact hm.1
    have Hg := hid hg
    subst hV
    clear hj hn hy hm hg h2 hr h0
    go_wp2_with fail
    go_ret2
    exact ⟨by rw [Hg.out.1, Hg.out.2]; rfl, rfl⟩
  · have hg := getOut hin
    rw [pfind_out hin]
    have Hg := hid hg
    clear hg h2 h0
    go_wp2_with fail
    go_ret2
    exact ⟨by rw [Hg.out.1, Hg.out.2]; rfl, rfl⟩
end Go.Proofs.Ytponapjgajmdnaa
