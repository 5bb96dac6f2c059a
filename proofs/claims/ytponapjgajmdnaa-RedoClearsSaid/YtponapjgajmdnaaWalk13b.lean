/- The walk of RedoFull. -/
import Derived.Test.YtponapjgajmdnaaWalk13
import Derived.Deep.RegionWith
namespace Go.Proofs.Ytponapjgajmdnaa
open Go.RowKit
set_option linter.unusedVariables false

/-- A row that lies apart from the log, over a Put. -/
theorem row_keep {w w' : World} {fp fp' : List Nat} {e n m : Nat} {v : Value} {xs : List Value} (ho : w.ownsRow 0 e m v n xs) (hd : ∀ b ∈ fpV v, b ∉ fp) (hc : Chg fp w w') (hf : ∀ b ∈ fp', b ∈ fp ∨ w.heap.size ≤ b) :
    w'.ownsRow 0 e m v n xs ∧ ∀ b ∈ fpV v, b ∉ fp' :=
  ⟨row_chg ho hc hd, fun b hb hb2 => by
    rcases hf b hb2 with h | h
    · exact hd b hb h
    · have := row_lt ho b hb
      omega⟩

structure FullTo (n k : Nat) (L : PL) : Prop where
  cap : L.cap = n
  addrs : L.addrs = (List.range k).map fun i : Nat => 3 * (i : Int)
  vals : L.vals = (List.range k).map fun i : Nat => (i : Int)

theorem FullTo.zero {n : Nat} (h : n ≤ 32) : FullTo n 0 (newL (n : Int)) := ⟨by show clampM _ = n; unfold clampM; omega, rfl, rfl⟩
theorem mem_threes {k : Nat} {x : Int} : x ∈ ((List.range k).map fun i : Nat => 3 * (i : Int)) ↔ ∃ i : Nat, i < k ∧ 3 * (i : Int) = x := by simp
theorem FullTo.step {n k : Nat} {L : PL} (h : FullTo n k L) (hk : k < n) : putOk L (3 * (k : Int)) = true ∧ FullTo n (k + 1) (putL L (3 * (k : Int)) k) := by
  have hno : 3 * (k : Int) ∉ L.addrs := by
    rw [h.addrs, mem_threes]
    rintro ⟨i, hi, he⟩
    omega
  have hlen : L.addrs.length < L.cap := by rw [h.addrs, h.cap]; simpa using hk
  refine ⟨by unfold putOk; rw [decide_eq_true (by omega), decide_eq_true hlen]; simp, ?_⟩
  rw [putL_new (by omega) hno hlen]
  exact ⟨h.cap, by simp [h.addrs, List.range_succ], by simp [h.vals, List.range_succ]⟩
theorem FullTo.other {n : Nat} {L : PL} (h : FullTo n n L) (y : Int) (hy : 0 ≤ y) (v : Int) : putOk L (3 * y + 1) = false ∧ putL L (3 * y + 1) v = L := by
  have hno : 3 * y + 1 ∉ L.addrs := by
    rw [h.addrs, mem_threes]
    rintro ⟨i, hi, he⟩
    omega
  have hlen : ¬ L.addrs.length < L.cap := by rw [h.addrs, h.cap]; simp
  exact ⟨by unfold putOk; rw [decide_eq_false hlen, decide_eq_false hno]; simp, putL_full (by omega) hno hlen⟩
theorem put_neg1 (L : PL) (v : Int) : putOk L (-1) = false ∧ putL L (-1) v = L := ⟨by unfold putOk; rw [decide_eq_false (by omega)]; rfl, putL_neg (by omega)⟩
theorem FullTo.zeroIn {n : Nat} {L : PL} (h : FullTo n n L) (hn : 0 < n) : (0 : Int) ∈ L.addrs := by
  rw [h.addrs, mem_threes]
  exact ⟨0, hn, rfl⟩
theorem FullTo.again {n : Nat} {L : PL} (h : FullTo n n L) (H : Inv L) (hn : 0 < n) (y : Int) (hy : 0 ≤ y) (v : Int) :
    putOk L 0 = true ∧ (putL L 0 v).addrs = L.addrs ∧ getOk (putL L 0 v) (3 * y + 1) = false ∧ getOk (putL L 0 v) 0 = true ∧ getV (putL L 0 v) 0 = v ∧ L.addrs.length = n := by
  have h0 := h.zeroIn hn
  have ha : (putL L 0 v).addrs = L.addrs := by rw [putL_in (by omega) h0]
  have hno : 3 * y + 1 ∉ L.addrs := by
    rw [h.addrs, mem_threes]
    rintro ⟨i, hi, he⟩
    omega
  refine ⟨by unfold putOk; rw [decide_eq_true h0]; simp, ha, by unfold getOk; rw [ha]; exact decide_eq_false hno, by unfold getOk; rw [ha]; exact decide_eq_true h0, ?_, by rw [h.addrs]; simp⟩
  unfold getV
  rw [ha, if_pos h0, putL_in (by omega) h0]
  have := List.idxOf_lt_length_of_mem h0
  rw [← H.vlen] at this
  simp [List.getD, this]

set_option maxHeartbeats 1000000 in
theorem redoFull_walk (c v x : Int) (w : World) (_ : (Lit.int .i64 c).wf = true) (_ : (Lit.int .u64 v).wf = true) (_ : (Lit.int .i64 x).wf = true) :
    Calls Try.prog 12 #[.int .i64 c, .int .u64 v, .int .i64 x] w fun e w' => e = .returned (.bool true) ∧ Below w.heap.size w w' := by
  have p0 := place_nonneg c 32 (by omega)
  have p1 := place_lt c 32 (by omega)
  have y0 := place_nonneg x 50 (by omega)
  have y1 := place_lt x 50 (by omega)
  obtain ⟨m, hm⟩ : ∃ m : Nat, place c 32 = m := ⟨(place c 32).toNat, by omega⟩
  obtain ⟨y, hy⟩ : ∃ y, y = place x 50 := ⟨_, rfl⟩
  rw [hm] at p0 p1
  rw [← hy] at y0 y1
  have Hm := hid hm
  have Hy := hid hy
  clear hm hy
  obtain ⟨n, hn⟩ : ∃ n : Nat, 1 + (m : Int) = (n : Int) := ⟨1 + m, by omega⟩
  have n1 : 1 ≤ n := by omega
  have n32 : n ≤ 32 := by omega
  go_enter Try.func12, Try.ntmps12
  go_wp2_with fail
  refine (place_any _ _ _ (by omega) (by omega)).mono ?_
  rintro e w0 ⟨rfl, rfl⟩
  rw [Hm.out]
  go_wp2_with fail
  try rw [hn]
  clear p0 p1 hn Hm
  refine (li_new w _ _ (Below.refl _ _)).mono ?_
  rintro e w1 ⟨g, fp, rfl, h1⟩
  go_wp2_with fail
  go_loopw [9] (fun i wr => ∃ (k : Nat) (fp : List Nat) (L : PL), k ≤ n ∧ i = .int .i64 k ∧ FullTo n k L ∧ LI w wr fp g L) (fun i _ => n - (intOf i).toNat)
  case atStart => exact ⟨0, fp, _, Nat.zero_le _, rfl, FullTo.zero n32, h1⟩
  case round =>
    obtain ⟨k, fp, L, hk, rfl, hF, h2⟩ := hrel
    clear h1
    by_cases hlt : k < n
    · have e1 : decide ((k : Int) < (n : Int)) = true := decide_eq_true (by omega)
      obtain ⟨ok, hF2⟩ := hF.step hlt
      have hw : IntKind.u64.wrap (k : Int) = k := by rw [IntKind.wrap_u64]; omega
      have HF := hid hF2
      clear hF hF2
      go_wp2_with fail
      refine (li_put w _ _ _ _ (3 * (k : Int)) k h2).mono ?_
      rintro e w2 ⟨rfl, fp2, h3, _⟩
      rw [ok]
      clear h2
      go_wp2_with fail
      go_roundw
      case rel => exact ⟨k + 1, fp2, _, by omega, rfl, HF.out, h3⟩
      case measure => simp [intOf]; omega
    · have hkn : k = n := by omega
      subst hkn
      have e1 : decide ((k : Int) < (k : Int)) = false := by simp
      have ho1 := hF.other y y0 v
      have hne := put_neg1 L v
      obtain ⟨a1, a2, a3, a4, a5, a6⟩ := hF.again h2.inv n1 y y0 v
      clear hF
      have HA := hid (And.intro ho1 (And.intro hne (And.intro a1 (And.intro a2 (And.intro a3 (And.intro a4 (And.intro a5 a6)))))))
      clear ho1 hne a1 a2 a3 a4 a5 a6
      have hlen : k ≤ 9223372036854775807 := by omega
      go_wp2_with fail
      refine (log_addrs _ _ _ _ h2.at_ h2.inv).mono ?_
      rintro e w3 ⟨A, c1, rfl, ho, hc⟩
      rw [HA.out.2.2.2.2.2.2.2] at ho ⊢
      have h3 := h2.chg0 hc
      have hd : ∀ b ∈ fpV (.slice A k c1), b ∉ fp := fun b hb hb2 => by
        have := row_ge ho b hb
        have := h2.at_.lt b hb2
        omega
      have ho := row_base ho (Nat.zero_le _)
      clear hc h2
      go_wp2_with fail
      refine (place_any _ _ _ (by omega) (by omega)).mono ?_
      rintro e w4 ⟨rfl, rfl⟩
      rw [← Hy.out]
      go_wp2_with fail
      refine (li_put w _ _ _ _ (3 * y + 1) v h3).mono ?_
      rintro e w5 ⟨rfl, fp5, h5, hc5, hf5⟩
      rw [HA.out.1.1]
      rw [HA.out.1.2] at h5
      obtain ⟨o5, d5⟩ := row_keep ho hd hc5 hf5
      clear h3 ho hd hc5 hf5
      go_wp2_with fail
      refine (li_put w _ _ _ _ (-1) v h5).mono ?_
      rintro e w6 ⟨rfl, fp6, h6, hc6, hf6⟩
      rw [HA.out.2.1.1]
      rw [HA.out.2.1.2] at h6
      obtain ⟨o6, d6⟩ := row_keep o5 d5 hc6 hf6
      clear h5 o5 d5 hc6 hf6
      go_wp2_with fail
      refine (li_put w _ _ _ _ 0 v h6).mono ?_
      rintro e w7 ⟨rfl, fp7, h7, hc7, hf7⟩
      rw [HA.out.2.2.1]
      obtain ⟨o7, d7⟩ := row_keep o6 d6 hc7 hf7
      clear h6 o6 d6 hc7 hf7
      go_wp2_with fail
      refine (log_len _ _ _ _ h7.at_).mono ?_
      rintro e w8 ⟨rfl, rfl⟩
      rw [HA.out.2.2.2.1, HA.out.2.2.2.2.2.2.2]
      go_wp2_with fail
      refine (log_addrs _ _ _ _ h7.at_ h7.inv).mono ?_
      rintro e w9 ⟨A9, c9, rfl, o9, hc9⟩
      have h9 := h7.chg0 hc9
      have r7 := row_reads (row_chg o7 hc9 (by simp))
      have r9 := row_reads o9
      rw [HA.out.2.2.2.1, HA.out.2.2.2.2.2.2.2] at r9 ⊢
      clear h7 hc9 o9 o7 d7
      go_wp2_with fail
      refine (ints_any _ _ _ _ _ _ _ _ _ L.addrs L.addrs r9 r7 hlen).mono ?_
      rintro e w10 ⟨rfl, q, rfl⟩
      have h10 := h9.drewN q
      rw [decide_eq_true (rfl : L.addrs = L.addrs)]
      clear h9 r7 r9
      go_wp2_with fail
      refine (log_get _ _ _ _ (3 * y + 1) h10.at_ h10.inv).mono ?_
      rintro e w11 ⟨rfl, q2, rfl⟩
      rw [HA.out.2.2.2.2.1]
      have h11 := h10.drewN q2
      rw [World.drewN_drewN] at h11
      go_wp2_with fail
      refine (log_get _ _ _ _ 0 h11.at_ h11.inv).mono ?_
      rintro e w12 ⟨rfl, q3, rfl⟩
      rw [HA.out.2.2.2.2.2.1, HA.out.2.2.2.2.2.2.1]
      have h12 := (h11.drewN q3).below
      rw [World.drewN_drewN] at h12
      clear h10 h11
      go_wp2_with fail
      refine (awake13 _).mono ?_
      rintro e w13 ⟨rfl, hb⟩
      go_wp2_with fail
      go_ret
      exact ⟨rfl, chg_below h12 (Chg.of_below hb) (Own.nil _)⟩
end Go.Proofs.Ytponapjgajmdnaa
