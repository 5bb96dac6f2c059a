/- strongtxlaw14: ReaderOnlyLoads. -/
import Derived.Test.YtddghhddafeojaaRd2
namespace Go.Proofs.Ytddghhddafeojaa
open Go.RowKit
set_option linter.unusedVariables false

/-- What any step does. -/
def RdAny (w0 : World) (g m : Nat) (C : Nat → List Int) (addr orec rv : Int) (i : Nat) (R : Asr) : Ending → World → Prop := fun e w' =>
  ∃ (ac : Acc) (at' bf vl : Int) (cf : Bool), e = .returned ac.val ∧ Hold w0 w' (rdA g addr orec rv at' bf vl cf * (memA m C * R)) ∧ (ac = acc0 ∨ ac.kind = 1) ∧ 0 ≤ at' ∧ at' ≤ 3 ∧ (at' = 3 ∨ (i : Int) ≤ at')
theorem rd_step_any (w0 w : World) (R : Asr) (g m : Nat) (C : Nat → List Int) (addr orec rv at' bf vl : Int) (cf : Bool) (i : Nat) (h : Hold w0 w (rdA g addr orec rv at' bf vl cf * (memA m C * R))) (hC : COk C)
    (h1 : hasC C 1 addr) (h2 : hasC C 2 orec) (hv : 0 ≤ valC C 2 orec ∧ valC C 2 orec < 18446744073709551616) (hx : addr ≤ 9223372036854775807) (ho : orec ≤ 9223372036854775807) (ha : 0 ≤ at' ∧ at' ≤ 3) (hi : at' = 3 ∨ (i : Int) ≤ at') :
    Calls Try.prog 43 #[.pointer (some ⟨g, 0, none⟩), .pointer (some ⟨m, 0, none⟩)] w (RdAny w0 g m C addr orec rv (i + 1) R) := by
  have ho2 := (op_yes h2 1 (valC C 2 orec)).1
  have ho1 := (op_yes h1 1 (valC C 1 addr)).1
  have b1 := h1.1
  have b2 := h2.1
  rcases (show at' = 0 ∨ at' = 1 ∨ at' = 2 ∨ at' = 3 by omega) with rfl | rfl | rfl | rfl
  · by_cases hb : valC C 2 orec % 64 = 0 ∧ valC C 2 orec / 64 ≤ rv
    · exact (rd_step0_ok w0 w R g m C addr orec rv bf vl cf _ h hC ⟨by omega, ho⟩ ho2 hv hb).mono fun e w' ⟨he, h'⟩ => ⟨_, _, _, _, _, he, h', Or.inr rfl, by omega, by omega, by omega⟩
    · exact (rd_step0_bad w0 w R g m C addr orec rv bf vl cf _ h hC ⟨by omega, ho⟩ ho2 hv (by show valC C 2 orec % 64 ≠ 0 ∨ rv < valC C 2 orec / 64; omega)).mono fun e w' ⟨he, h'⟩ => ⟨_, _, _, _, _, he, h', Or.inr rfl, by omega, by omega, by omega⟩
  · exact (rd_step1 w0 w R g m C addr orec rv bf vl cf _ h hC ⟨by omega, hx⟩ ho1).mono fun e w' ⟨he, h'⟩ => ⟨_, _, _, _, _, he, h', Or.inr rfl, by omega, by omega, by omega⟩
  · exact (rd_step2 w0 w R g m C addr orec rv bf vl cf _ h hC ⟨by omega, ho⟩ ho2).mono fun e w' ⟨he, h'⟩ => ⟨_, _, _, _, _, he, h', Or.inr rfl, by omega, by omega, by omega⟩
  · exact (rd_step3 w0 w (memA m C * R) g _ addr orec rv bf vl cf h).mono fun e w' ⟨he, h'⟩ => ⟨_, _, _, _, _, he, h', Or.inl rfl, by omega, by omega, by omega⟩
set_option maxRecDepth 8000 in
set_option maxHeartbeats 4000000 in
theorem readerOnlyLoads_walk (l0 l1 l2 l3 l4 : Int) (a1 a2 a3 : Int) (w : World) (_ : (Lit.int .i64 a1).wf = true) (_ : (Lit.int .i64 a2).wf = true) (_ : (Lit.int .i64 a3).wf = true) :
    Calls Try.prog 13 #[.agg #[.int .i64 l0, .int .i64 l1, .int .i64 l2, .int .i64 l3, .int .i64 l4], .int .i64 a1, .int .i64 a2, .int .i64 a3] w (fun e w' => e = .returned (.bool true) ∧ Below w.heap.size w w') := by
  obtain ⟨c, hc⟩ : ∃ c, c = mkCfg l0 l1 l2 l3 l4 := ⟨_, rfl⟩
  have hok : cfgErr c = 0 := by rw [hc]; exact mkCfg_ok _ _ _ _ _
  have hcb : (4 ≤ c.words ∧ c.words ≤ 12) ∧ (1 ≤ c.orecs ∧ c.orecs ≤ 8) := by
    rw [hc]
    have := (mk_bd l0 l1 l2 l3 l4).1
    have := place_nonneg l1 8 (by omega); have := place_lt l1 8 (by omega)
    exact ⟨(mk_bd l0 l1 l2 l3 l4).1, by show 1 ≤ 1 + place l1 8; omega, by show 1 + place l1 8 ≤ 8; omega⟩
  have HF : Hid (∀ w, Calls Try.prog 61 #[.int .i64 l0, .int .i64 l1, .int .i64 l2, .int .i64 l3, .int .i64 l4] w (fun e w' => e = .returned c.val ∧ Chg [] w w')) := hid fun w => by rw [hc]; exact config_any w l0 l1 l2 l3 l4
  have HO := hid (new_ok4 hok)
  have HC := hid hok
  have h0 := hid ((Hold.start w).alloc (.cells #[.int .i64 l0, .int .i64 l1, .int .i64 l2, .int .i64 l3, .int .i64 l4] 57))
  clear hok hc
  go_enter Try.func13, Try.ntmps13
  go_wp2_with fail
  refine (lab_small w _ _ c l0 l1 l2 l3 l4 HF.out HC.out h0.out).mono ?_
  rintro e v1 ⟨m, r, rfl, h1⟩
  obtain ⟨C0, hC0⟩ : ∃ C0, C0 = newC c 4 (initL c.words.toNat) := ⟨_, rfl⟩
  have hk0 : COk C0 := by rw [hC0]; exact HO.out
  have hg1 : ∀ k : Int, 0 ≤ k → k < c.words → hasC C0 1 k := fun k k0 k1 => by
    obtain ⟨n, rfl⟩ : ∃ n : Nat, k = n := ⟨k.toNat, by omega⟩
    rw [hC0]
    refine has_new (j := 1) (k := n) (by decide) (by decide) ?_
    show n < (initL c.words.toNat ++ zerosN (nbl c)).length
    rw [List.length_append, initL_len]; omega
  have hg2 : ∀ k : Int, 0 ≤ k → k < c.orecs → hasC C0 2 k := fun k k0 k1 => by
    obtain ⟨n, rfl⟩ : ∃ n : Nat, k = n := ⟨k.toNat, by omega⟩
    rw [hC0]
    refine has_new (j := 2) (k := n) (by decide) (by decide) ?_
    show n < (zerosN c.orecs.toNat).length
    simp [zerosN]; omega
  rw [← hC0] at h1
  have h2 := h1.newBlk (t := 27) (cs := #[.pointer (some ⟨m, 0, none⟩), .pointer (some ⟨r, 0, none⟩)])
  have H2 := hid h2
  have HK0 := hid (And.intro hk0 (And.intro hg1 hg2))
  clear h0 h1 h2 hC0 hk0 hg1 hg2 HO
  go_upto_region 4 with fail
  have h2 := H2.out
  generalize hW : World.alloc _ _ = W2 at h2 ⊢
  generalize v1.heap.size = gp at h2 ⊢
  clear hW H2
  have p1 := h2.blk.some_ (i := 1) rfl
  obtain ⟨x, h3⟩ := (h2.pk3 [2, 0, 1]).refOpen
  have d0 := h3.blk.some_ (i := 0) rfl
  have d1 := h3.blk.some_ (i := 1) rfl
  have d2 := h3.blk.some_ (i := 2) rfl
  have d3 := h3.blk.some_ (i := 3) rfl
  have d4 := h3.blk.some_ (i := 4) rfl
  have d5 := h3.blk.some_ (i := 5) rfl
  have d6 := h3.blk.some_ (i := 6) rfl
  have d7 := h3.blk.some_ (i := 7) rfl
  have d8 := h3.blk.some_ (i := 8) rfl
  have d9 := h3.blk.some_ (i := 9) rfl
  have d10 := h3.blk.some_ (i := 10) rfl
  have d11 := h3.blk.some_ (i := 11) rfl
  have d12 := h3.blk.some_ (i := 12) rfl
  go_upto_region 5 with fail
  have h4 := h3.newBlk (t := 32) (cs := c.cells)
  have h5 : Hold w (World.alloc W2 (.cells c.cells 32)) (blkA 32 W2.heap.size c.cells * (refA r c C0 * (prA gp m r * (memA m C0 * Asr.emp)))) := h4.refShut2
  replace h5 := h5.pk4 [2, 0, 3, 1]
  have H5 := hid h5
  clear h2 h3 h4 h5 d0 d1 d2 d3 d4 d5 d6 d7 d8 d9 d10 d11 d12 p1
  have h5 := H5.out
  generalize hW : World.alloc _ _ = W5 at h5 ⊢
  generalize W2.heap.size = gc at h5 ⊢
  clear hW H5
  replace h5 : Hold w W5 (prA gp m r * (blkA 32 gc c.cells * (memA m C0 * (refA r c C0 * Asr.emp)))) := h5
  obtain ⟨a, ha⟩ : ∃ a, a = place a1 c.words := ⟨_, rfl⟩
  have a0 : 0 ≤ a := by rw [ha]; exact place_nonneg a1 _ (by omega)
  have a1' : a < c.words := by rw [ha]; exact place_lt a1 _ (by omega)
  obtain ⟨o, ho⟩ : ∃ o, o = a % c.orecs := ⟨_, rfl⟩
  have o0 : 0 ≤ o := by rw [ho]; exact Int.emod_nonneg _ (by omega)
  have o1 : o < c.orecs := by rw [ho]; exact Int.emod_lt_of_pos _ (by omega)
  have HA := hid (And.intro ha ho)
  clear ha ho
  have d0 := h5.drop.blk.some_ (i := 0) rfl
  go_wp2_with fail
  refine (place_any _ _ _ (by omega) (by omega)).mono ?_
  rintro e w' ⟨rfl, rfl⟩
  rw [← HA.out.1]
  go_upto_region 6 with fail
  obtain ⟨wd, hw⟩ : ∃ wd, wd = word14 a3 := ⟨_, rfl⟩
  have wd0 : 0 ≤ wd ∧ wd ≤ 260 := by rw [hw]; exact word14_lt _
  have HW := hid hw
  clear hw d0
  replace h5 := h5.drew
  have ne0 : c.orecs ≠ 0 := by omega
  refine wp_region_brk [] (by kernel_rfl) ?_
  refine wpAnyB_now (fun w' => ∃ Z, Hold w w' (prA gp m r * (blkA 32 gc c.cells * Z))) (fun _ _ => trivial) _ _ _ _ ?_
  refine' wpAnyB_bulk [true, true, true, true, true, true] 76 (listed' := #[true, true, true, true, true, true, false, false, false]) rfl (by kernel_rfl) (by kernel_rfl) (by kernel_rfl) (by kernel_rfl) (by kernel_rfl) (by kernel_rfl) (by decide) (fun _ _ _ _ h => h) rfl ⟨_, h5⟩ (fun wq hq => ?_) ?_; rotate_left 1
  · simp only [maskL]
    obtain ⟨Z, hq⟩ := hq
    have q0 := hq.blk.some_ (i := 0) rfl
    have q1 := hq.blk.some_ (i := 1) rfl
    have d1 := hq.drop.blk.some_ (i := 1) rfl
    repeat (go_big_quiet_step (fail))
    exact wpQuiet_nil rfl
  refine wpAnyB_bar [false, false, false, false, false, false, true] (fuel := 2) (by rfl) (by rfl) (by kernel_rfl) (fun QB hQB hQX => ?_)
  simp only [maskL]
  go_wp2_with fail
  refine (word14_any _ _).mono ?_
  rintro e w' ⟨rfl, rfl⟩
  rw [← HW.out]
  go_wp2_with fail
  refine hQB.out _ _ ⟨_, h5⟩ ?_
  clear hQB hQX QB
  refine wpAnyB_bar [false, false, false, false, false, false, false, true] (fuel := 1) (by rfl) (by rfl) (by kernel_rfl) (fun QB hQB hQX => ?_)
  simp only [maskL]
  go_wp2_with fail
  rw [← HA.out.2]
  refine (pair_set w _ _ m r c C0 2 o wd (h5.pk4 [2, 3, 0, 1]) HK0.out.1 (HK0.out.2.2 o o0 o1) (by omega)).mono ?_
  rintro e w6 ⟨rfl, h6⟩
  replace h6 : Hold w w6 (prA gp m r * (blkA 32 gc c.cells * (memA m (opC C0 2 o wd true) * (refA r c (opC C0 2 o wd true) * Asr.emp)))) := h6.pk4 [2, 3, 0, 1]
  clear h5
  go_wp2_with fail
  refine hQB.out _ _ ⟨_, h6⟩ ?_
  clear hQB hQX QB
  refine' wpAnyB_bulk [false, false, false, false, false, false, false, false, true] 76 (listed' := #[true, true, true, true, true, true, true, true, true]) rfl (by kernel_rfl) (by kernel_rfl) (by kernel_rfl) (by kernel_rfl) (by kernel_rfl) (by kernel_rfl) (by decide) (fun _ _ _ _ h => h) rfl ⟨_, h6⟩ (fun wq hq => ?_) ?_; rotate_left 1
  · simp only [maskL]
    repeat (go_big_quiet_step (fail))
    exact wpQuiet_nil rfl
  refine wpAnyB_done (by kernel_rfl) ?_ _
  obtain ⟨C1, hC1⟩ : ∃ C1, C1 = opC C0 2 o wd true := ⟨_, rfl⟩
  rw [← hC1] at h6
  have hk1 : COk C1 := by rw [hC1]; exact HK0.out.1.opC _ _ _ _
  have hh1 : hasC C1 1 a := by rw [hC1]; exact hasC_opC (HK0.out.2.1 a a0 a1')
  have hh2 : hasC C1 2 o := by rw [hC1]; exact hasC_opC (HK0.out.2.2 o o0 o1)
  have hv2 : valC C1 2 o = wd := by rw [hC1]; exact valC_op_same (HK0.out.2.2 o o0 o1)
  have HK1 := hid (And.intro hk1 (And.intro hh1 (And.intro hh2 hv2)))
  clear hC1 hk1 hh1 hh2 hv2 HK0
  obtain ⟨rv, hrv⟩ : ∃ rv, rv = place a2 5 := ⟨_, rfl⟩
  have rv0 : 0 ≤ rv ∧ rv < 5 := by rw [hrv]; exact ⟨place_nonneg _ 5 (by omega), place_lt _ 5 (by omega)⟩
  have HR := hid hrv
  clear hrv
  go_upto_region 8 with fail
  replace h6 := h6.drew
  refine wp_region_brk [] (by kernel_rfl) ?_
  refine wpAnyB_now (fun w' => ∃ Z, Hold w w' (prA gp m r * (blkA 32 gc c.cells * Z))) (fun _ _ => trivial) _ _ _ _ ?_
  refine' wpAnyB_bulk [true, true, true, true, true, true] 76 (listed' := #[true, true, true, true, true, true, false, false, false]) rfl (by kernel_rfl) (by kernel_rfl) (by kernel_rfl) (by kernel_rfl) (by kernel_rfl) (by kernel_rfl) (by decide) (fun _ _ _ _ h => h) rfl ⟨_, h6⟩ (fun wq hq => ?_) ?_; rotate_left 1
  · simp only [maskL]
    obtain ⟨Z, hq⟩ := hq
    have q0 := hq.blk.some_ (i := 0) rfl
    have q1 := hq.blk.some_ (i := 1) rfl
    have d1 := hq.drop.blk.some_ (i := 1) rfl
    repeat (go_big_quiet_step (fail))
    exact wpQuiet_nil rfl
  refine wpAnyB_bar [false, false, false, false, false, false, true] (fuel := 2) (by rfl) (by rfl) (by kernel_rfl) (fun QB hQB hQX => ?_)
  simp only [maskL]
  go_wp2_with fail
  refine (place_any _ _ _ (by omega) (by omega)).mono ?_
  rintro e w' ⟨rfl, rfl⟩
  rw [← HR.out]
  go_wp2_with fail
  refine hQB.out _ _ ⟨_, h6⟩ ?_
  clear hQB hQX QB
  refine wpAnyB_bar [false, false, false, false, false, false, false, true] (fuel := 1) (by rfl) (by rfl) (by kernel_rfl) (fun QB hQB hQX => ?_)
  simp only [maskL]
  go_wp2_with fail
  rw [← HA.out.2]
  refine (rd_new w _ _ a o rv h6).mono ?_
  rintro e w7 ⟨g, rfl, h7⟩
  replace h7 : Hold w w7 (prA gp m r * (blkA 32 gc c.cells * (rdA g a o rv 0 0 0 false * (memA m C1 * (refA r c C1 * Asr.emp))))) := h7.pk5 [1, 2, 0, 3, 4]
  clear h6
  go_wp2_with fail
  refine hQB.out _ _ ⟨_, h7⟩ ?_
  clear hQB hQX QB
  refine' wpAnyB_bulk [false, false, false, false, false, false, false, false, true] 76 (listed' := #[true, true, true, true, true, true, true, true, true]) rfl (by kernel_rfl) (by kernel_rfl) (by kernel_rfl) (by kernel_rfl) (by kernel_rfl) (by kernel_rfl) (by decide) (fun _ _ _ _ h => h) rfl ⟨_, h7⟩ (fun wq hq => ?_) ?_; rotate_left 1
  · simp only [maskL]
    repeat (go_big_quiet_step (fail))
    exact wpQuiet_nil rfl
  refine wpAnyB_done (by kernel_rfl) ?_ _
  have h8 : Hold w _ (rdA g a o rv 0 0 0 false * (memA m C1 * (refA r c C1 * (prA gp m r * Asr.emp)))) := h7.pk5 [2, 3, 4, 0]
  clear h7
  go_wp2_with fail
  go_loopw [14] (fun s wr => ∃ (i : Nat) (at' bf vl : Int) (cf : Bool), i ≤ 4 ∧ s = .int .i64 i ∧ 0 ≤ at' ∧ at' ≤ 3 ∧ (at' = 3 ∨ (i : Int) ≤ at') ∧ Hold w wr (rdA g a o rv at' bf vl cf * (memA m C1 * (refA r c C1 * (prA gp m r * Asr.emp))))) (fun s _ => 4 - (intOf s).toNat)
  case atStart => exact ⟨0, 0, 0, 0, false, by omega, rfl, by omega, by omega, by omega, h8⟩
  case round =>
    clear h8
    obtain ⟨i, at', bf, vl, cf, hi, rfl, ha0, ha3, hia, h9⟩ := hrel
    by_cases hlt : i < 4
    · have e1 : decide ((i : Int) < 4) = true := decide_eq_true (by omega)
      have p0 := h9.drop.drop.drop.blk.some_ (i := 0) rfl
      go_wp2_with fail
      refine (rd_step_any w _ _ g m C1 a o rv at' bf vl cf i h9 HK1.out.1 HK1.out.2.1 HK1.out.2.2.1 (by rw [HK1.out.2.2.2]; omega) (by omega) (by omega) ⟨ha0, ha3⟩ hia).mono ?_
      rintro e v2 ⟨ac, at2, bf2, vl2, cf2, rfl, h10, hac, hb0, hb3, hib⟩
      clear h9 p0
      obtain ⟨k0, k1, k2, k3, k4, k5⟩ := ac
      have H11 := hid (h10.alloc (.cells #[.int .i64 k0, .int .i64 k1, .int .i64 k2, .int .u64 k3, .int .u64 k4, .bool k5] 45))
      rcases hac with hac | hac
      · injection hac with z0 z1 z2 z3 z4 z5
        subst z0 z1 z2 z3 z4 z5
        go_wp2_with fail
        go_round
        case rel => exact ⟨i + 1, at2, bf2, vl2, cf2, by omega, by go_num, hb0, hb3, by omega, H11.out⟩
        case measure => simp [intOf]; omega
      · simp only at hac
        subst hac
        go_wp2_with fail
        go_round
        case rel => exact ⟨i + 1, at2, bf2, vl2, cf2, by omega, by go_num, hb0, hb3, by omega, H11.out⟩
        case measure => simp [intOf]; omega
    · obtain rfl : i = 4 := by omega
      obtain rfl : at' = 3 := by omega
      have e1 : decide (((4 : Nat) : Int) < 4) = false := rfl
      have p0 := h9.drop.drop.drop.blk.some_ (i := 0) rfl
      have p1 := h9.drop.drop.drop.blk.some_ (i := 1) rfl
      go_wp2_with fail
      refine (pair_same w _ _ m r c C1 (h9.pk4 [1, 2, 0, 3]) HK1.out.1).mono ?_
      rintro e v2 ⟨rfl, h10⟩
      replace h10 : Hold w v2 (rdA g a o rv 3 bf vl cf * (memA m C1 * (refA r c C1 * (prA gp m r * Asr.emp)))) := h10.pk4 [2, 0, 1, 3]
      clear h9 p0 p1
      go_wp2_with fail
      refine (rd_done w _ _ g a o rv 3 bf vl cf h10).mono ?_
      rintro e w' ⟨rfl, rfl⟩
      go_wp2_with fail
      refine (awake14_any w _ _ h10).mono ?_
      rintro e v3 ⟨rfl, h11⟩
      have H11 := hid h11.below
      clear h10 h11
      go_wp2_with fail
      go_ret
      exact ⟨rfl, H11.out⟩
end Go.Proofs.Ytddghhddafeojaa
