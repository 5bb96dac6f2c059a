/- strongtxlaw09: EpochEnters. -/
import Derived.Test.YtigjpfhjddkckaaEp3
import Derived.Test.YtigjpfhjddkckaaEr
namespace Go.Proofs.Ytigjpfhjddkckaa
open Go.RowKit
set_option linter.unusedVariables false

def cR (ck : Int) (i : Nat) : Int := if i ≤ 1 then -1 else ck
theorem enSnap_cE {ck : Int} {i : Nat} : enSnap (i : Int) (cE ck i) = cR ck i := by
  unfold enSnap cE cR
  by_cases h : i ≤ 1
  · rw [if_pos (by omega), if_pos h]
  · rw [if_neg (by omega), if_neg h, if_neg h]
/-- One step of both. -/
theorem ee_step (t : Nat) (C : Nat → List Int) (ck : Int) (i : Nat) (hs : SL C ck (slt t ck i)) (ht : t < 4) (hi : i ≤ 3) (hk : 0 ≤ ck ∧ ck ≤ 1099511627776) :
    ∃ (ac : Acc) (j : Nat) (C' : Nat → List Int), j ≤ 3 ∧ (i < 3 → j = i + 1) ∧ (i = 3 → j = 3) ∧ SL C' ck (slt t ck j) ∧
      (∀ w0 w R g m, Hold w0 w (enA g t i (cE ck i) * (memA m C * R)) → Calls Try.prog 49 #[.pointer (some ⟨g, 0, none⟩), .pointer (some ⟨m, 0, none⟩)] w (RAccPost w0 (enA g t j (cE ck j) * (memA m C' * R)) ac)) ∧
      (∀ w0 w R g m c, Hold w0 w (rnA g t i (cR ck i) * (refA m c C * R)) → Calls Try.prog 56 #[.pointer (some ⟨g, 0, none⟩), .pointer (some ⟨m, 0, none⟩)] w (RAccPost w0 (rnA g t j (cR ck j) * (refA m c C' * R)) ac)) := by
  rcases (show i = 0 ∨ i = 1 ∨ i = 2 ∨ i = 3 by omega) with rfl | rfl | rfl | rfl
  · refine ⟨_, 1, _, by omega, fun _ => rfl, fun h => by omega, (hs.slot ht 1).eq fun k hk => ?_, fun w0 w R g m h => en_step0 w0 w R g m C t 0 _ h hs.ok (by omega) (hs.st6 ht 1), fun w0 w R g m c h => rn_step0 w0 w R g m c C t (-1) _ h hs.ok (hs.st6 ht 1)⟩
    unfold slt
    by_cases hkt : k = t <;> simp [hkt]
  · refine ⟨_, 2, _, by omega, fun _ => rfl, fun h => by omega, hs.eq fun k hk => by unfold slt; by_cases hkt : k = t <;> simp [hkt], fun w0 w R g m h => en_step1 w0 w R g m C t 0 _ h hs.ok hs.op3, fun w0 w R g m c h => rn_step1 w0 w R g m c C t (-1) _ h hs.ok (by show 0 ≤ ck ∧ ck ≤ 9223372036854775807; omega) hs.op3⟩
  · refine ⟨_, 3, _, by omega, fun _ => rfl, fun h => by omega, (hs.slot ht (ck + 2)).eq fun k hk => ?_, fun w0 w R g m h => en_step2 w0 w R g m C t ck _ h hs.ok hk (by omega) (hs.st6 ht (ck + 2)), fun w0 w R g m c h => rn_step2 w0 w R g m c C t ck _ h hs.ok hk (hs.st6 ht (ck + 2))⟩
    unfold slt
    by_cases hkt : k = t <;> simp [hkt]
  · exact ⟨acc0, 3, C, by omega, fun h => by omega, fun _ => rfl, hs, fun w0 w R g m h => en_step3 w0 w _ g _ t ck h, fun w0 w R g m c h => rn_step3 w0 w _ g _ t ck h⟩
set_option maxRecDepth 8000 in
set_option maxHeartbeats 8000000 in
theorem epochEnters_walk (l0 l1 l2 l3 l4 : Int) (a1 a2 : Int) (w : World) (_ : (Lit.int .i64 a1).wf = true) (u2 : (Lit.int .u64 a2).wf = true) :
    Calls Try.prog 11 #[.agg #[.int .i64 l0, .int .i64 l1, .int .i64 l2, .int .i64 l3, .int .i64 l4], .int .i64 a1, .int .u64 a2] w (fun e w' => e = .returned (.bool true) ∧ Below w.heap.size w w') := by
  have hu : 0 ≤ a2 ∧ a2 < 18446744073709551616 := by
    simp [Lit.wf, IntKind.min, IntKind.max, IntKind.signed, IntKind.bits] at u2; omega
  clear u2
  obtain ⟨c, hc⟩ : ∃ c, c = mkCfg l0 l1 l2 l3 l4 := ⟨_, rfl⟩
  have hok : cfgErr c = 0 := by rw [hc]; exact mkCfg_ok _ _ _ _ _
  have HF : Hid (∀ w, Calls Try.prog 73 #[.int .i64 l0, .int .i64 l1, .int .i64 l2, .int .i64 l3, .int .i64 l4] w (fun e w' => e = .returned c.val ∧ Chg [] w w')) := hid fun w => by rw [hc]; exact config_any w l0 l1 l2 l3 l4
  have HS := hid (SL.init hok)
  have HC := hid hok
  have h0 := hid ((Hold.start w).alloc (.cells #[.int .i64 l0, .int .i64 l1, .int .i64 l2, .int .i64 l3, .int .i64 l4] 72))
  clear hok hc
  go_enter Try.func11, Try.ntmps11
  go_wp2_with fail
  refine (lab_small w _ _ c l0 l1 l2 l3 l4 HF.out HC.out h0.out).mono ?_
  rintro e v1 ⟨m, r, rfl, h1⟩
  obtain ⟨C0, hC0⟩ : ∃ C0, C0 = newC c 4 (initL c.words.toNat) := ⟨_, rfl⟩
  rw [← hC0] at h1
  have HS0 : Hid (SL C0 0 (fun _ => 0)) := hid (by rw [hC0]; exact HS.out)
  have H1 := hid (h1.newBlk (t := 27) (cs := #[.pointer (some ⟨m, 0, none⟩), .pointer (some ⟨r, 0, none⟩)]))
  clear h0 h1 hC0 HS HC HF
  obtain ⟨t, ht⟩ : ∃ t : Nat, place a1 4 = t := ⟨(place a1 4).toNat, by have := place_nonneg a1 4 (by omega); omega⟩
  have t4 : t < 4 := by have := place_lt a1 4 (by omega); omega
  have t4' : (t : Int) < 4 := by omega
  have t0' : (0 : Int) ≤ (t : Int) := by omega
  have Ht := hid ht
  clear ht
  obtain ⟨ck, hck⟩ : ∃ ck, ck = a2 % 1099511627777 := ⟨_, rfl⟩
  have ck0 : 0 ≤ ck ∧ ck ≤ 1099511627776 := by omega
  have Hck := hid hck
  clear hck
  go_upto_region 2 with fail
  have h1 := H1.out
  generalize hW : World.alloc _ _ = W1 at h1 ⊢
  generalize v1.heap.size = gp at h1 ⊢
  clear hW H1
  go_wp2_with fail
  refine (place_any _ _ _ (by omega) (by omega)).mono ?_
  rintro e w' ⟨rfl, rfl⟩
  rw [Ht.out]
  have p0 := h1.blk.some_ (i := 0) rfl
  have p1 := h1.blk.some_ (i := 1) rfl
  go_wp2_with fail
  rw [← Hck.out]
  refine (pair_set w _ _ m r c C0 3 0 ck (h1.pk3 [1, 2, 0]) HS0.out.ok HS0.out.has3 (by omega)).mono ?_
  rintro e v2 ⟨rfl, h2⟩
  obtain ⟨C1, hC1⟩ : ∃ C1, C1 = opC C0 3 0 ck true := ⟨_, rfl⟩
  rw [← hC1] at h2
  have HS1 : Hid (SL C1 ck (fun _ => 0)) := hid (by rw [hC1]; exact HS0.out.clock ck)
  clear h1 p0 p1 hC1 HS0
  go_wp2_with fail
  refine (en_new w _ _ t h2).mono ?_
  rintro e v3 ⟨a, rfl, h3⟩
  clear h2
  go_wp2_with fail
  refine (rn_new w _ _ t h3).mono ?_
  rintro e v4 ⟨b, rfl, h4⟩
  have h5 : Hold w v4 (prA gp m r * (enA a t (0 : Nat) (cE ck 0) * (rnA b t (0 : Nat) (cR ck 0) * (memA m C1 * (refA r c C1 * Asr.emp))))) := h4.pk5 [4, 1, 0, 2, 3]
  clear h3 h4
  go_wp2_with fail
  go_loopw [13] (fun s wr => ∃ (i j : Nat) (C : Nat → List Int), i ≤ 5 ∧ j ≤ 3 ∧ (j = 3 ∨ j = i) ∧ s = .int .i64 i ∧ SL C ck (slt t ck j) ∧ Hold w wr (prA gp m r * (enA a t j (cE ck j) * (rnA b t j (cR ck j) * (memA m C * (refA r c C * Asr.emp)))))) (fun s _ => 5 - (intOf s).toNat)
  case atStart => exact ⟨0, 0, C1, by omega, by omega, by omega, rfl, HS1.out.eq fun k hk => by unfold slt; by_cases hkt : k = t <;> simp [hkt], h5⟩
  case round =>
    clear h5 HS1
    obtain ⟨i, j, C, hi, hj, hij, rfl, hs, h⟩ := hrel
    have HS := hid hs
    by_cases hlt : i < 5
    · have e1 : decide ((i : Int) < 5) = true := decide_eq_true (by omega)
      obtain ⟨ac, j2, C2, hj2, hja, hjb, hs2, k1, k2⟩ := ee_step t C ck j hs t4 hj ck0
      have HS2 := hid hs2
      have K1 := hid k1
      have K2 := hid k2
      have ED : ((((j : Int) == 3) != ((j : Int) == 3))) = false := by simp
      have ES : (cR ck j != cR ck j) = false := by simp
      have cE0 : 0 ≤ cE ck j ∧ cE ck j ≤ 9223372036854775807 := by unfold cE; split <;> omega
      have hjn : j2 = 3 ∨ j2 = i + 1 := by omega
      clear hs hs2 k1 k2 hja hjb
      go_upto_region 12 with fail
      replace h := h.drew
      refine wp_region_brk [] (by kernel_rfl) ?_
      refine wpAnyB_now (fun w' => ∃ Z : Asr, Hold w w' (prA gp m r * Z)) (fun _ _ => trivial) _ _ _ _ ?_
      refine' wpAnyB_bulk [true, false, true] 91 (listed' := #[true, false, true, false, false, false, false, false, false, false, false, false, false, false, false, false, false, false, false, false, false, false, false, false, false, false, false, false, false, false]) rfl (by kernel_rfl) (by kernel_rfl) (by kernel_rfl) (by kernel_rfl) (by kernel_rfl) (by kernel_rfl) (by decide) (fun _ _ _ _ h => h) rfl ⟨_, h⟩ (fun wq hq => ?_) ?_; rotate_left 1
      · simp only [maskL]
        repeat (go_big_quiet_step (fail))
        exact wpQuiet_nil rfl
      refine wpAnyB_bar [false, true] (fuel := 27) (by rfl) (by rfl) (by kernel_rfl) (fun QB hQB hQX => ?_)
      simp only [maskL]
      go_wp2_with fail
      refine (en_done w _ _ a t j (cE ck j) (h.pk2 [1, 0])).mono ?_
      rintro e w' ⟨rfl, rfl⟩
      go_wp2_with fail
      refine hQB.out _ _ ⟨_, h⟩ ?_
      clear hQB hQX QB
      refine wpAnyB_bar [false, false, false, true] (fuel := 26) (by rfl) (by rfl) (by kernel_rfl) (fun QB hQB hQX => ?_)
      simp only [maskL]
      go_wp2_with fail
      refine (rn_done w _ _ b t j (cR ck j) (h.pk3 [2, 0, 1])).mono ?_
      rintro e w' ⟨rfl, rfl⟩
      go_wp2_with fail
      refine hQB.out _ _ ⟨_, h⟩ ?_
      clear hQB hQX QB
      refine' wpAnyB_bulk [false, false, false, false, true, true, true, false, true, true, true] 91 (listed' := #[true, true, true, true, true, true, true, false, true, true, true, false, false, false, false, false, false, false, false, false, false, false, false, false, false, false, false, false, false, false]) rfl (by kernel_rfl) (by kernel_rfl) (by kernel_rfl) (by kernel_rfl) (by kernel_rfl) (by kernel_rfl) (by decide) (fun _ _ _ _ h => h) rfl ⟨_, h⟩ (fun wq hq => ?_) ?_; rotate_left 1
      · simp only [maskL]
        repeat (go_big_quiet_step (fail))
        exact wpQuiet_nil rfl
      refine wpAnyB_two [false, false, false, false, false, false, false, true] [false, false, false, false, false, false, false, false, false, false, false, true] (fuel := 19) (by rfl) (by rfl) (by rfl) (by rfl) (by kernel_rfl) (fun QB hQB hQX => ?_) (fun QB hQB hQX => ?_)
      · simp only [maskL]
        go_wp2_with fail
        refine (en_snap w _ _ a t j (cE ck j) (h.pk2 [1, 0]) cE0).mono ?_
        rintro e w' ⟨rfl, rfl⟩
        rw [enSnap_cE]
        go_wp2_with fail
        refine hQB.out _ _ ⟨_, h⟩ ?_
        clear hQB hQX QB
        refine wpAnyB_bar [false, false, false, false, false, false, false, false, false, false, false, true] (fuel := 18) (by rfl) (by rfl) (by kernel_rfl) (fun QB hQB hQX => ?_)
        simp only [maskL]
        have q2 := h.drop.drop.blk.some_ (i := 2) rfl
        go_wp2_with fail
        refine hQB.out _ _ ⟨_, h⟩ ?_
        clear hQB hQX QB q2
        refine' wpAnyB_bulk [false, false, false, false, false, false, false, false, false, false, false, false, true, true, true, true, true, true, false, true, true, true] 91 (listed' := #[true, true, true, true, true, true, true, true, true, true, true, true, true, true, true, true, true, true, false, true, true, true, false, false, false, false, false, false, false, false]) rfl (by kernel_rfl) (by kernel_rfl) (by kernel_rfl) (by kernel_rfl) (by kernel_rfl) (by kernel_rfl) (by decide) (fun _ _ _ _ h => h) rfl ⟨_, h⟩ (fun wq hq => ?_) ?_; rotate_left 1
        · simp only [maskL]
          obtain ⟨Z, hq⟩ := hq
          have q0 := hq.blk.some_ (i := 0) rfl
          have q1 := hq.blk.some_ (i := 1) rfl
          repeat (go_big_quiet_step (fail))
          exact wpQuiet_nil rfl
        refine wpAnyB_bar [false, false, false, false, false, false, false, false, false, false, false, false, false, false, false, false, false, false, true] (fuel := 8) (by rfl) (by rfl) (by kernel_rfl) (fun QB hQB hQX => ?_)
        simp only [maskL]
        go_wp2_with fail
        refine (K1.out w _ _ a m (h.pk4 [1, 3, 0, 2])).mono ?_
        rintro e w8 ⟨rfl, h8⟩
        replace h8 : Hold w w8 (prA gp m r * (enA a t j2 (cE ck j2) * (rnA b t j (cR ck j) * (memA m C2 * (refA r c C * Asr.emp))))) := h8.pk4 [2, 0, 3, 1]
        clear h
        go_wp2_with fail
        refine hQB.out _ _ ⟨_, h8⟩ ?_
        clear hQB hQX QB
        refine wpAnyB_bar [false, false, false, false, false, false, false, false, false, false, false, false, false, false, false, false, false, false, false, false, false, false, true] (fuel := 7) (by rfl) (by rfl) (by kernel_rfl) (fun QB hQB hQX => ?_)
        simp only [maskL]
        go_wp2_with fail
        refine (K2.out w _ _ b r c (h8.pk5 [2, 4, 0, 1, 3])).mono ?_
        rintro e w9 ⟨rfl, h9⟩
        replace h9 : Hold w w9 (prA gp m r * (enA a t j2 (cE ck j2) * (rnA b t j2 (cR ck j2) * (memA m C2 * (refA r c C2 * Asr.emp))))) := h9.pk5 [2, 3, 0, 4, 1]
        clear h8
        go_wp2_with fail
        refine hQB.out _ _ ⟨_, h9⟩ ?_
        clear hQB hQX QB
        refine' wpAnyB_bulk [false, false, false, false, false, false, false, false, false, false, false, false, false, false, false, false, false, false, false, false, false, false, false, true, true, true, true] 91 (listed' := #[true, true, true, true, true, true, true, true, true, true, true, true, true, true, true, true, true, true, true, true, true, true, true, true, true, true, true, false, false, false]) rfl (by kernel_rfl) (by kernel_rfl) (by kernel_rfl) (by kernel_rfl) (by kernel_rfl) (by kernel_rfl) (by decide) (fun _ _ _ _ h => h) rfl ⟨_, h9⟩ (fun wq hq => ?_) ?_; rotate_left 1
        · simp only [maskL]
          obtain ⟨Z, hq⟩ := hq
          have q0 := hq.blk.some_ (i := 0) rfl
          have q1 := hq.blk.some_ (i := 1) rfl
          repeat (go_big_quiet_step (fail))
          exact wpQuiet_nil rfl
        refine wpAnyB_bar [false, false, false, false, false, false, false, false, false, false, false, false, false, false, false, false, false, false, false, false, false, false, false, false, false, false, false, true] (fuel := 2) (by rfl) (by rfl) (by kernel_rfl) (fun QB hQB hQX => ?_)
        simp only [maskL]
        go_wp2_with fail
        refine (pair_same w _ _ m r c C2 (h9.pk5 [3, 4, 0, 1, 2]) HS2.out.ok).mono ?_
        rintro e w10 ⟨rfl, h10⟩
        replace h10 : Hold w w10 (prA gp m r * (enA a t j2 (cE ck j2) * (rnA b t j2 (cR ck j2) * (memA m C2 * (refA r c C2 * Asr.emp))))) := h10.pk5 [2, 3, 4, 0, 1]
        clear h9
        go_wp2_with fail
        refine hQB.out _ _ ⟨_, h10⟩ ?_
        clear hQB hQX QB
        refine' wpAnyB_bulk [false, false, false, false, false, false, false, false, false, false, false, false, false, false, false, false, false, false, false, false, false, false, false, false, false, false, false, false, true, true] 91 (listed' := #[true, true, true, true, true, true, true, true, true, true, true, true, true, true, true, true, true, true, true, true, true, true, true, true, true, true, true, true, true, true]) rfl (by kernel_rfl) (by kernel_rfl) (by kernel_rfl) (by kernel_rfl) (by kernel_rfl) (by kernel_rfl) (by decide) (fun _ _ _ _ h => h) rfl ⟨_, h10⟩ (fun wq hq => ?_) ?_; rotate_left 1
        · simp only [maskL]
          repeat (go_big_quiet_step (fail))
          exact wpQuiet_nil rfl
        refine wpAnyB_done (by kernel_rfl) ?_ _
        -- END
        have H11 := hid h10
        clear h10
        go_wp2_with fail
        go_round
        case rel => exact ⟨i + 1, j2, C2, by omega, by omega, by omega, by go_num, HS2.out, H11.out⟩
        case measure => simp [intOf]; omega
      · simp only [maskL]
        have q2 := h.drop.drop.blk.some_ (i := 2) rfl
        go_wp2_with fail
        refine hQB.out _ _ ⟨_, h⟩ ?_
        clear hQB hQX QB q2
        refine wpAnyB_bar [false, false, false, false, false, false, false, true] (fuel := 18) (by rfl) (by rfl) (by kernel_rfl) (fun QB hQB hQX => ?_)
        simp only [maskL]
        go_wp2_with fail
        refine (en_snap w _ _ a t j (cE ck j) (h.pk2 [1, 0]) cE0).mono ?_
        rintro e w' ⟨rfl, rfl⟩
        rw [enSnap_cE]
        go_wp2_with fail
        refine hQB.out _ _ ⟨_, h⟩ ?_
        clear hQB hQX QB
        refine' wpAnyB_bulk [false, false, false, false, false, false, false, false, false, false, false, false, true, true, true, true, true, true, false, true, true, true] 91 (listed' := #[true, true, true, true, true, true, true, true, true, true, true, true, true, true, true, true, true, true, false, true, true, true, false, false, false, false, false, false, false, false]) rfl (by kernel_rfl) (by kernel_rfl) (by kernel_rfl) (by kernel_rfl) (by kernel_rfl) (by kernel_rfl) (by decide) (fun _ _ _ _ h => h) rfl ⟨_, h⟩ (fun wq hq => ?_) ?_; rotate_left 1
        · simp only [maskL]
          obtain ⟨Z, hq⟩ := hq
          have q0 := hq.blk.some_ (i := 0) rfl
          have q1 := hq.blk.some_ (i := 1) rfl
          repeat (go_big_quiet_step (fail))
          exact wpQuiet_nil rfl
        refine wpAnyB_bar [false, false, false, false, false, false, false, false, false, false, false, false, false, false, false, false, false, false, true] (fuel := 8) (by rfl) (by rfl) (by kernel_rfl) (fun QB hQB hQX => ?_)
        simp only [maskL]
        go_wp2_with fail
        refine (K1.out w _ _ a m (h.pk4 [1, 3, 0, 2])).mono ?_
        rintro e w8 ⟨rfl, h8⟩
        replace h8 : Hold w w8 (prA gp m r * (enA a t j2 (cE ck j2) * (rnA b t j (cR ck j) * (memA m C2 * (refA r c C * Asr.emp))))) := h8.pk4 [2, 0, 3, 1]
        clear h
        go_wp2_with fail
        refine hQB.out _ _ ⟨_, h8⟩ ?_
        clear hQB hQX QB
        refine wpAnyB_bar [false, false, false, false, false, false, false, false, false, false, false, false, false, false, false, false, false, false, false, false, false, false, true] (fuel := 7) (by rfl) (by rfl) (by kernel_rfl) (fun QB hQB hQX => ?_)
        simp only [maskL]
        go_wp2_with fail
        refine (K2.out w _ _ b r c (h8.pk5 [2, 4, 0, 1, 3])).mono ?_
        rintro e w9 ⟨rfl, h9⟩
        replace h9 : Hold w w9 (prA gp m r * (enA a t j2 (cE ck j2) * (rnA b t j2 (cR ck j2) * (memA m C2 * (refA r c C2 * Asr.emp))))) := h9.pk5 [2, 3, 0, 4, 1]
        clear h8
        go_wp2_with fail
        refine hQB.out _ _ ⟨_, h9⟩ ?_
        clear hQB hQX QB
        refine' wpAnyB_bulk [false, false, false, false, false, false, false, false, false, false, false, false, false, false, false, false, false, false, false, false, false, false, false, true, true, true, true] 91 (listed' := #[true, true, true, true, true, true, true, true, true, true, true, true, true, true, true, true, true, true, true, true, true, true, true, true, true, true, true, false, false, false]) rfl (by kernel_rfl) (by kernel_rfl) (by kernel_rfl) (by kernel_rfl) (by kernel_rfl) (by kernel_rfl) (by decide) (fun _ _ _ _ h => h) rfl ⟨_, h9⟩ (fun wq hq => ?_) ?_; rotate_left 1
        · simp only [maskL]
          obtain ⟨Z, hq⟩ := hq
          have q0 := hq.blk.some_ (i := 0) rfl
          have q1 := hq.blk.some_ (i := 1) rfl
          repeat (go_big_quiet_step (fail))
          exact wpQuiet_nil rfl
        refine wpAnyB_bar [false, false, false, false, false, false, false, false, false, false, false, false, false, false, false, false, false, false, false, false, false, false, false, false, false, false, false, true] (fuel := 2) (by rfl) (by rfl) (by kernel_rfl) (fun QB hQB hQX => ?_)
        simp only [maskL]
        go_wp2_with fail
        refine (pair_same w _ _ m r c C2 (h9.pk5 [3, 4, 0, 1, 2]) HS2.out.ok).mono ?_
        rintro e w10 ⟨rfl, h10⟩
        replace h10 : Hold w w10 (prA gp m r * (enA a t j2 (cE ck j2) * (rnA b t j2 (cR ck j2) * (memA m C2 * (refA r c C2 * Asr.emp))))) := h10.pk5 [2, 3, 4, 0, 1]
        clear h9
        go_wp2_with fail
        refine hQB.out _ _ ⟨_, h10⟩ ?_
        clear hQB hQX QB
        refine' wpAnyB_bulk [false, false, false, false, false, false, false, false, false, false, false, false, false, false, false, false, false, false, false, false, false, false, false, false, false, false, false, false, true, true] 91 (listed' := #[true, true, true, true, true, true, true, true, true, true, true, true, true, true, true, true, true, true, true, true, true, true, true, true, true, true, true, true, true, true]) rfl (by kernel_rfl) (by kernel_rfl) (by kernel_rfl) (by kernel_rfl) (by kernel_rfl) (by kernel_rfl) (by decide) (fun _ _ _ _ h => h) rfl ⟨_, h10⟩ (fun wq hq => ?_) ?_; rotate_left 1
        · simp only [maskL]
          repeat (go_big_quiet_step (fail))
          exact wpQuiet_nil rfl
        refine wpAnyB_done (by kernel_rfl) ?_ _
        -- END
        have H11 := hid h10
        clear h10
        go_wp2_with fail
        go_round
        case rel => exact ⟨i + 1, j2, C2, by omega, by omega, by omega, by go_num, HS2.out, H11.out⟩
        case measure => simp [intOf]; omega
    · obtain rfl : i = 5 := by omega
      obtain rfl : j = 3 := by omega
      have e1 : decide (((5 : Nat) : Int) < 5) = false := rfl
      obtain ⟨ac, hac⟩ : ∃ ac, ac = opA C 2 6 t 0 true := ⟨_, rfl⟩
      obtain ⟨C2, hC2⟩ : ∃ C2, C2 = opC C 6 t 0 true := ⟨_, rfl⟩
      have HAC := hid (And.intro hac hC2)
      have HK2 : Hid (COk C2) := hid (by rw [hC2]; exact hs.ok.opC _ _ _ _)
      clear hac hC2 hs
      go_upto_region 14 with fail
      replace h := h.drew
      refine wp_region_brk [] (by kernel_rfl) ?_
      refine wpAnyB_now (fun w' => ∃ Z : Asr, Hold w w' (prA gp m r * Z)) (fun _ _ => trivial) _ _ _ _ ?_
      refine' wpAnyB_bulk [true] 91 (listed' := #[true, false, false, false, false, false, false, false, false, false, false, false, false, false, false, false, false, false, false, false, false]) rfl (by kernel_rfl) (by kernel_rfl) (by kernel_rfl) (by kernel_rfl) (by kernel_rfl) (by kernel_rfl) (by decide) (fun _ _ _ _ h => h) rfl ⟨_, h⟩ (fun wq hq => ?_) ?_; rotate_left 1
      · simp only [maskL]
        repeat (go_big_quiet_step (fail))
        exact wpQuiet_nil rfl
      refine wpAnyB_bar [false, true] (fuel := 19) (by rfl) (by rfl) (by kernel_rfl) (fun QB hQB hQX => ?_)
      simp only [maskL]
      go_wp2_with fail
      refine (en_done w _ _ a t 3 (cE ck 3) (h.pk2 [1, 0])).mono ?_
      rintro e w' ⟨rfl, rfl⟩
      rw [show ((3 : Int) == 3) = true from rfl]
      go_wp2_with fail
      refine hQB.out _ _ ⟨_, h⟩ ?_
      clear hQB hQX QB
      refine' wpAnyB_bulk [false, false, true, true, true, true, false, true, true, true] 91 (listed' := #[true, true, true, true, true, true, false, true, true, true, false, false, false, false, false, false, false, false, false, false, false]) rfl (by kernel_rfl) (by kernel_rfl) (by kernel_rfl) (by kernel_rfl) (by kernel_rfl) (by kernel_rfl) (by decide) (fun _ _ _ _ h => h) rfl ⟨_, h⟩ (fun wq hq => ?_) ?_; rotate_left 1
      · simp only [maskL]
        obtain ⟨Z, hq⟩ := hq
        have q0 := hq.blk.some_ (i := 0) rfl
        have q1 := hq.blk.some_ (i := 1) rfl
        repeat (go_big_quiet_step (fail))
        exact wpQuiet_nil rfl
      refine wpAnyB_bar [false, false, false, false, false, false, true] (fuel := 11) (by rfl) (by rfl) (by kernel_rfl) (fun QB hQB hQX => ?_)
      simp only [maskL]
      go_wp2_with fail
      refine (ep_leave w _ _ m C t (h.pk4 [3, 0, 1, 2]) HS.out.ok (by omega)).mono ?_
      rintro e w8 ⟨rfl, h8⟩
      rw [← HAC.out.1]
      rw [← HAC.out.2] at h8
      replace h8 : Hold w w8 (prA gp m r * (enA a t (3 : Nat) (cE ck 3) * (rnA b t (3 : Nat) (cR ck 3) * (memA m C2 * (refA r c C * Asr.emp))))) := h8.pk4 [1, 2, 3, 0]
      clear h
      go_wp2_with fail
      refine hQB.out _ _ ⟨_, h8⟩ ?_
      clear hQB hQX QB
      refine wpAnyB_bar [false, false, false, false, false, false, false, false, false, false, true] (fuel := 10) (by rfl) (by rfl) (by kernel_rfl) (fun QB hQB hQX => ?_)
      simp only [maskL]
      go_wp2_with fail
      refine (r_leave w _ _ r c C t (h8.pk5 [4, 0, 1, 2, 3]) HS.out.ok).mono ?_
      rintro e w9 ⟨rfl, h9⟩
      rw [← HAC.out.1]
      rw [← HAC.out.2] at h9
      replace h9 : Hold w w9 (prA gp m r * (enA a t (3 : Nat) (cE ck 3) * (rnA b t (3 : Nat) (cR ck 3) * (memA m C2 * (refA r c C2 * Asr.emp))))) := h9.pk5 [1, 2, 3, 4, 0]
      clear h8
      go_wp2_with fail
      refine hQB.out _ _ ⟨_, h9⟩ ?_
      clear hQB hQX QB
      refine' wpAnyB_bulk [false, false, false, false, false, false, false, false, false, false, false, true, true, true, true] 91 (listed' := #[true, true, true, true, true, true, true, true, true, true, true, true, true, true, true, false, false, false, false, false, false]) rfl (by kernel_rfl) (by kernel_rfl) (by kernel_rfl) (by kernel_rfl) (by kernel_rfl) (by kernel_rfl) (by decide) (fun _ _ _ _ h => h) rfl ⟨_, h9⟩ (fun wq hq => ?_) ?_; rotate_left 1
      · simp only [maskL]
        obtain ⟨Z, hq⟩ := hq
        have q0 := hq.blk.some_ (i := 0) rfl
        have q1 := hq.blk.some_ (i := 1) rfl
        repeat (go_big_quiet_step (fail))
        exact wpQuiet_nil rfl
      refine wpAnyB_bar [false, false, false, false, false, false, false, false, false, false, false, false, false, false, false, true] (fuel := 5) (by rfl) (by rfl) (by kernel_rfl) (fun QB hQB hQX => ?_)
      simp only [maskL]
      go_wp2_with fail
      refine (pair_same w _ _ m r c C2 (h9.pk5 [3, 4, 0, 1, 2]) HK2.out).mono ?_
      rintro e w10 ⟨rfl, h10⟩
      replace h10 : Hold w w10 (prA gp m r * (enA a t (3 : Nat) (cE ck 3) * (rnA b t (3 : Nat) (cR ck 3) * (memA m C2 * (refA r c C2 * Asr.emp))))) := h10.pk5 [2, 3, 4, 0, 1]
      clear h9
      go_wp2_with fail
      refine hQB.out _ _ ⟨_, h10⟩ ?_
      clear hQB hQX QB
      refine' wpAnyB_bulk [false, false, false, false, false, false, false, false, false, false, false, false, false, false, false, false, true, true] 91 (listed' := #[true, true, true, true, true, true, true, true, true, true, true, true, true, true, true, true, true, true, false, false, false]) rfl (by kernel_rfl) (by kernel_rfl) (by kernel_rfl) (by kernel_rfl) (by kernel_rfl) (by kernel_rfl) (by decide) (fun _ _ _ _ h => h) rfl ⟨_, h10⟩ (fun wq hq => ?_) ?_; rotate_left 1
      · simp only [maskL]
        repeat (go_big_quiet_step (fail))
        exact wpQuiet_nil rfl
      refine wpAnyB_bar [false, false, false, false, false, false, false, false, false, false, false, false, false, false, false, false, false, false, true] (fuel := 2) (by rfl) (by rfl) (by kernel_rfl) (fun QB hQB hQX => ?_)
      simp only [maskL]
      go_wp2_with fail
      refine (awake09_any w _ _ h10).mono ?_
      rintro e w11 ⟨rfl, h11⟩
      clear h10
      go_wp2_with fail
      refine hQB.out _ _ ⟨_, h11⟩ ?_
      clear hQB hQX QB
      refine' wpAnyB_bulk [false, false, false, false, false, false, false, false, false, false, false, false, false, false, false, false, false, false, false, true, true] 91 (listed' := #[true, true, true, true, true, true, true, true, true, true, true, true, true, true, true, true, true, true, true, true, true]) rfl (by kernel_rfl) (by kernel_rfl) (by kernel_rfl) (by kernel_rfl) (by kernel_rfl) (by kernel_rfl) (by decide) (fun _ _ _ _ h => h) rfl ⟨_, h11⟩ (fun wq hq => ?_) ?_; rotate_left 1
      · simp only [maskL]
        repeat (go_big_quiet_step (fail))
        exact wpQuiet_nil rfl
      refine wpAnyB_done (by kernel_rfl) ?_ _
      have H12 := hid h11.below
      clear h11
      go_wp2_with fail
      go_ret
      exact ⟨rfl, H12.out⟩
end Go.Proofs.Ytigjpfhjddkckaa
