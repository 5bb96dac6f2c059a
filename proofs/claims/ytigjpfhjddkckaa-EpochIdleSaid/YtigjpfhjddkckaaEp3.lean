/- strongtxlaw09: EpochSlots, EpochIdle. -/
import Derived.Test.YtigjpfhjddkckaaEp2
namespace Go.Proofs.Ytigjpfhjddkckaa
open Go.RowKit
set_option linter.unusedVariables false

/-- The slots behind i steps of a thread that enters. -/
def slt (t : Nat) (ck : Int) (i k : Nat) : Int := if k = t then (if i = 0 then 0 else if i ≤ 2 then 1 else ck + 2) else 0
def cE (ck : Int) (i : Nat) : Int := if i ≤ 1 then 0 else ck
theorem en_step_any (w0 w : World) (R : Asr) (g m t : Nat) (C : Nat → List Int) (ck : Int) (i : Nat) (h : Hold w0 w (enA g t i (cE ck i) * (memA m C * R))) (hs : SL C ck (slt t ck i)) (ht : t < 4) (hi : i < 3) (hk : 0 ≤ ck ∧ ck ≤ 1099511627776) :
    Calls Try.prog 49 #[.pointer (some ⟨g, 0, none⟩), .pointer (some ⟨m, 0, none⟩)] w (fun e w' => ∃ (ac : Acc) (C' : Nat → List Int), e = .returned ac.val ∧ Hold w0 w' (enA g t (i + 1 : Nat) (cE ck (i + 1)) * (memA m C' * R)) ∧ SL C' ck (slt t ck (i + 1))) := by
  rcases (show i = 0 ∨ i = 1 ∨ i = 2 by omega) with rfl | rfl | rfl
  · refine (en_step0 w0 w R g m C t 0 _ h hs.ok (by omega) (hs.st6 ht 1)).mono fun e w' ⟨he, h'⟩ => ⟨_, _, he, h', ?_⟩
    refine (hs.slot ht 1).eq fun k hk => ?_
    unfold slt
    by_cases hkt : k = t <;> simp [hkt]
  · refine (en_step1 w0 w R g m C t 0 _ h hs.ok hs.op3).mono fun e w' ⟨he, h'⟩ => ⟨_, _, he, h', ?_⟩
    exact hs.eq fun k hk => by unfold slt; by_cases hkt : k = t <;> simp [hkt]
  · refine (en_step2 w0 w R g m C t ck _ h hs.ok hk (by omega) (hs.st6 ht (ck + 2))).mono fun e w' ⟨he, h'⟩ => ⟨_, _, he, h', ?_⟩
    refine (hs.slot ht (ck + 2)).eq fun k hk => ?_
    unfold slt
    by_cases hkt : k = t <;> simp [hkt]
set_option maxRecDepth 8000 in
set_option maxHeartbeats 8000000 in
theorem epochSlots_walk (l0 l1 l2 l3 l4 : Int) (a1 a2 : Int) (w : World) (_ : (Lit.int .i64 a1).wf = true) (u2 : (Lit.int .u64 a2).wf = true) :
    Calls Try.prog 10 #[.agg #[.int .i64 l0, .int .i64 l1, .int .i64 l2, .int .i64 l3, .int .i64 l4], .int .i64 a1, .int .u64 a2] w (fun e w' => e = .returned (.bool true) ∧ Below w.heap.size w w') := by
  have hu : 0 ≤ a2 ∧ a2 < 18446744073709551616 := by
    simp [Lit.wf, IntKind.min, IntKind.max, IntKind.signed, IntKind.bits] at u2; omega
  clear u2
  obtain ⟨c, hc⟩ : ∃ c, c = mkCfg l0 l1 l2 l3 l4 := ⟨_, rfl⟩
  have hok : cfgErr c = 0 := by rw [hc]; exact mkCfg_ok _ _ _ _ _
  have HF : Hid (∀ w, Calls Try.prog 73 #[.int .i64 l0, .int .i64 l1, .int .i64 l2, .int .i64 l3, .int .i64 l4] w (fun e w' => e = .returned c.val ∧ Chg [] w w')) := hid fun w => by rw [hc]; exact config_any w l0 l1 l2 l3 l4
  have HS := hid (SL.init hok)
  have HC := hid hok
  have h0 := hid ((Hold.start w).alloc (.cells #[.int .i64 l0, .int .i64 l1, .int .i64 l2, .int .i64 l3, .int .i64 l4] 72))
  clear hok hc
  go_enter Try.func10, Try.ntmps10
  go_wp2_with fail
  refine (lab_small w _ _ c l0 l1 l2 l3 l4 HF.out HC.out h0.out).mono ?_
  rintro e v1 ⟨m, r, rfl, h1⟩
  obtain ⟨C0, hC0⟩ : ∃ C0, C0 = newC c 4 (initL c.words.toNat) := ⟨_, rfl⟩
  rw [← hC0] at h1
  have HS0 : Hid (SL C0 0 (fun _ => 0)) := hid (by rw [hC0]; exact HS.out)
  have H1 := hid (h1.newBlk (t := 27) (cs := #[.pointer (some ⟨m, 0, none⟩), .pointer (some ⟨r, 0, none⟩)]))
  clear h0 h1 hC0 HS HC HF
  obtain ⟨t, ht⟩ : ∃ t : Nat, place a1 4 = t := ⟨(place a1 4).toNat, by have := place_nonneg a1 4 (by omega); omega⟩
  have t4 : t < 4 := by have := place_lt a1 4 (by omega); omega
  have t4' : (t : Int) < 4 := by omega
  have t0' : (0 : Int) ≤ (t : Int) := by omega
  have Ht := hid ht
  clear ht
  obtain ⟨ck, hck⟩ : ∃ ck, ck = a2 % 1099511627777 := ⟨_, rfl⟩
  have ck0 : 0 ≤ ck ∧ ck ≤ 1099511627776 := by omega
  have Hck := hid hck
  clear hck
  go_upto_region 2 with fail
  have h1 := H1.out
  generalize hW : World.alloc _ _ = W1 at h1 ⊢
  generalize v1.heap.size = gp at h1 ⊢
  clear hW H1
  go_wp2_with fail
  refine (place_any _ _ _ (by omega) (by omega)).mono ?_
  rintro e w' ⟨rfl, rfl⟩
  rw [Ht.out]
  have p0 := h1.blk.some_ (i := 0) rfl
  have p1 := h1.blk.some_ (i := 1) rfl
  go_wp2_with fail
  rw [← Hck.out]
  refine (pair_set w _ _ m r c C0 3 0 ck (h1.pk3 [1, 2, 0]) HS0.out.ok HS0.out.has3 (by omega)).mono ?_
  rintro e v2 ⟨rfl, h2⟩
  obtain ⟨C1, hC1⟩ : ∃ C1, C1 = opC C0 3 0 ck true := ⟨_, rfl⟩
  rw [← hC1] at h2
  have HS1 : Hid (SL C1 ck (fun _ => 0)) := hid (by rw [hC1]; exact HS0.out.clock ck)
  clear h1 p0 p1 hC1 HS0
  go_wp2_with fail
  refine (en_new w _ _ t h2).mono ?_
  rintro e v3 ⟨a, rfl, h3⟩
  have h4 : Hold w v3 (enA a t (0 : Nat) (cE ck 0) * (memA m C1 * (prA gp m r * Asr.emp))) := h3.pk4 [0, 1, 3]
  clear h2 h3
  go_wp2_with fail
  go_loopw [12] (fun s wr => ∃ (i : Nat) (C : Nat → List Int), i ≤ 3 ∧ s = .int .i64 i ∧ SL C ck (slt t ck i) ∧ Hold w wr (enA a t i (cE ck i) * (memA m C * (prA gp m r * Asr.emp)))) (fun s _ => 3 - (intOf s).toNat)
  case atStart => exact ⟨0, C1, by omega, rfl, HS1.out.eq fun k hk => by unfold slt; by_cases hkt : k = t <;> simp [hkt], h4⟩
  case round =>
    clear h4 HS1
    obtain ⟨i, C, hi, rfl, hs, h5⟩ := hrel
    have HS := hid hs
    clear hs
    by_cases hlt : i < 3
    · have e1 : decide ((i : Int) < 3) = true := decide_eq_true (by omega)
      have p0 := h5.drop.drop.blk.some_ (i := 0) rfl
      go_wp2_with fail
      refine (en_step_any w _ _ a m t C ck i h5 HS.out t4 hlt ck0).mono ?_
      rintro e v4 ⟨ac, C2, rfl, h6, hs⟩
      have HS2 := hid hs
      clear h5 p0 HS hs
      have p0 := h6.drop.drop.blk.some_ (i := 0) rfl
      go_wp2_with fail
      refine (image_any w _ _ m C2 h6.swap HS2.out.ok).mono ?_
      rintro e v5 ⟨y, rfl, h7⟩
      unfold imgV
      obtain ⟨ad, cp, hsl, hcells⟩ := img_slots h7 HS2.out
      rw [hsl]
      have fd := field_slot (slV C2 y 1) (slV C2 y 2) (.int .u64 (w1 C2 3)) (.int .u64 (w1 C2 4)) (.int .u64 (w1 C2 5)) (.slice (some ad) 4 cp) (slV C2 y 7) (slV C2 y 8) v5
      have h8 : Hold w v5 (enA a t (i + 1 : Nat) (cE ck (i + 1)) * (memA m C2 * (prA gp m r * Asr.emp))) := Hold.swap h7.rest
      have HC2 := hid hcells
      clear h6 h7 p0 hsl hcells
      go_wp2_with fail
      clear fd
      go_loopw [14] (fun s wx => ∃ k : Nat, k ≤ 4 ∧ s = .int .i64 k ∧ wx = v5) (fun s _ => 4 - (intOf s).toNat)
      case atStart => exact ⟨0, by omega, rfl, rfl⟩
      case round =>
        obtain ⟨k, hk, rfl, rfl⟩ := hrel
        by_cases hlt2 : k < 4
        · have e2 : decide ((k : Int) < 4) = true := decide_eq_true (by omega)
          have k0 : (0 : Int) ≤ (k : Int) := by omega
          have k4 : (k : Int) < 4 := by omega
          have hcell := HC2.out k hlt2
          by_cases hkt : k = t
          · subst hkt
            have e3 : ((k : Int) != (k : Int)) = false := by simp
            have e4 : ((k : Int) == (k : Int)) = true := by simp
            have e3' : (k != k) = false := by simp
            have e4' : (k == k) = true := by simp
            by_cases hi2 : i < 2
            · have e5 : decide ((i : Int) < 2) = true := decide_eq_true (by omega)
              have hv : slt k ck (i + 1) k = 1 := by unfold slt; rw [if_pos rfl, if_neg (by omega), if_pos (by omega)]
              rw [hv] at hcell
              clear hv
              go_wp2_with fail
              refine (W.rstate_1 _ _ rfl (by omega)).mono ?_
              rintro e w' ⟨rfl, rfl⟩
              go_wp2_with fail
              go_round
              case rel => exact ⟨k + 1, by omega, by go_num, trivial⟩
              case measure => simp [intOf]; omega
            · have e5 : decide ((i : Int) < 2) = false := decide_eq_false (by omega)
              go_wp2_with fail
              go_round
              case rel => exact ⟨k + 1, by omega, by go_num, trivial⟩
              case measure => simp [intOf]; omega
          · have e3 : ((k : Int) != (t : Int)) = true := by simp; omega
            have e4 : ((k : Int) == (t : Int)) = false := by simp; omega
            have e3' : (k != t) = true := by simp [hkt]
            have e4' : (k == t) = false := by simp [hkt]
            have hv : slt t ck (i + 1) k = 0 := by unfold slt; rw [if_neg hkt]
            rw [hv] at hcell
            clear hv hkt
            go_wp2_with fail
            go_round
            case rel => exact ⟨k + 1, by omega, by go_num, trivial⟩
            case measure => simp [intOf]; omega
        · obtain rfl : k = 4 := by omega
          have e2 : decide (((4 : Nat) : Int) < 4) = false := rfl
          clear HC2
          go_wp2_with fail
          go_round
          case rel => exact ⟨i + 1, C2, by omega, by go_num, HS2.out, h8⟩
          case measure => simp [intOf]; omega
    · obtain rfl : i = 3 := by omega
      have e1 : decide (((3 : Nat) : Int) < 3) = false := rfl
      have p0 := h5.drop.drop.blk.some_ (i := 0) rfl
      go_wp2_with fail
      refine (image_any w _ _ m C h5.swap HS.out.ok).mono ?_
      rintro e v5 ⟨y, rfl, h7⟩
      unfold imgV
      obtain ⟨ad, cp, hsl, hcells⟩ := img_slots h7 HS.out
      rw [hsl]
      have fd := field_slot (slV C y 1) (slV C y 2) (.int .u64 (w1 C 3)) (.int .u64 (w1 C 4)) (.int .u64 (w1 C 5)) (.slice (some ad) 4 cp) (slV C y 7) (slV C y 8) v5
      have h8 : Hold w v5 (enA a t (3 : Nat) ck * (memA m C * (prA gp m r * Asr.emp))) := Hold.swap h7.rest
      have hcell := hcells t t4
      rw [show slt t ck 3 t = ck + 2 by unfold slt; simp] at hcell
      clear h5 h7 p0 hsl hcells HS
      go_wp2_with fail
      refine (W.rsnapshot_yes _ _ (by omega) (by omega)).mono ?_
      rintro e w' ⟨rfl, rfl⟩
      rw [show ck + 2 - 2 = ck by omega]
      have e2 : (ck == ck) = true := by simp
      clear fd hcell
      go_wp2_with fail
      refine (en_snap w _ _ a t 3 ck h8 (by omega)).mono ?_
      rintro e w' ⟨rfl, rfl⟩
      rw [show enSnap 3 ck = ck from rfl]
      go_wp2_with fail
      refine (awake09_any w _ _ h8).mono ?_
      rintro e v6 ⟨rfl, h9⟩
      have H9 := hid h9.below
      clear h8 h9
      go_wp2_with fail
      go_ret
      exact ⟨rfl, H9.out⟩
end Go.Proofs.Ytigjpfhjddkckaa
