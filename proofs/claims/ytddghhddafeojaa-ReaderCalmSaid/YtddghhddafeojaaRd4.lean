/- strongtxlaw14: ReaderCalm. -/
import Derived.Test.YtddghhddafeojaaRd3
namespace Go.Proofs.Ytddghhddafeojaa
open Go.RowKit
set_option linter.unusedVariables false

set_option maxRecDepth 8000 in
set_option maxHeartbeats 4000000 in
theorem readerCalm_held (l0 l1 l2 l3 l4 : Int) (a1 a2 a3 a4 a5 : Int) (w : World) (hu : 0 ≤ a2 ∧ a2 < 18446744073709551616) :
    Calls Try.prog 11 #[.agg #[.int .i64 l0, .int .i64 l1, .int .i64 l2, .int .i64 l3, .int .i64 l4], .int .i64 a1, .int .u64 a2, .int .i64 a3, .int .i64 a4, .int .i64 a5, .bool true] w (fun e w' => e = .returned (.bool true) ∧ Below w.heap.size w w') := by
  obtain ⟨n, hn⟩ : ∃ n, n = place a3 4 := ⟨_, rfl⟩
  have n0 : 0 ≤ n ∧ n < 4 := by rw [hn]; exact ⟨place_nonneg _ 4 (by omega), place_lt _ 4 (by omega)⟩
  obtain ⟨t, ht⟩ : ∃ t, t = place a4 4 := ⟨_, rfl⟩
  have t0 : 0 ≤ t ∧ t < 4 := by rw [ht]; exact ⟨place_nonneg _ 4 (by omega), place_lt _ 4 (by omega)⟩
  obtain ⟨rv, hr⟩ : ∃ rv, rv = place a5 4 := ⟨_, rfl⟩
  have rv0 : 0 ≤ rv ∧ rv < 4 := by rw [hr]; exact ⟨place_nonneg _ 4 (by omega), place_lt _ 4 (by omega)⟩
  obtain ⟨wd, hwd⟩ : ∃ wd, wd = n * 64 + t + 1 := ⟨_, rfl⟩
  have HWD : Hid (wd = n * 64 + t + 1 ∧ (0 ≤ wd ∧ wd < 18446744073709551616) ∧ (wd % 64 ≠ 0 ∨ rv < wd / 64)) := hid ⟨hwd, by omega, by omega⟩
  clear hwd
  have HN := hid (And.intro hn (And.intro ht hr))
  clear hn ht hr
  obtain ⟨c, hc⟩ : ∃ c, c = mkCfg l0 l1 l2 l3 l4 := ⟨_, rfl⟩
  have hok : cfgErr c = 0 := by rw [hc]; exact mkCfg_ok _ _ _ _ _
  have hcb : (4 ≤ c.words ∧ c.words ≤ 12) ∧ (1 ≤ c.orecs ∧ c.orecs ≤ 8) := by
    rw [hc]
    have := (mk_bd l0 l1 l2 l3 l4).1
    have := place_nonneg l1 8 (by omega); have := place_lt l1 8 (by omega)
    exact ⟨(mk_bd l0 l1 l2 l3 l4).1, by show 1 ≤ 1 + place l1 8; omega, by show 1 + place l1 8 ≤ 8; omega⟩
  have HF : Hid (∀ w, Calls Try.prog 61 #[.int .i64 l0, .int .i64 l1, .int .i64 l2, .int .i64 l3, .int .i64 l4] w (fun e w' => e = .returned c.val ∧ Chg [] w w')) := hid fun w => by rw [hc]; exact config_any w l0 l1 l2 l3 l4
  have HO := hid (new_ok4 hok)
  have HC := hid hok
  have h0 := hid ((Hold.start w).alloc (.cells #[.int .i64 l0, .int .i64 l1, .int .i64 l2, .int .i64 l3, .int .i64 l4] 57))
  clear hok hc
  go_enter Try.func11, Try.ntmps11
  go_wp2_with fail
  refine (lab_small w _ _ c l0 l1 l2 l3 l4 HF.out HC.out h0.out).mono ?_
  rintro e v1 ⟨m, r, rfl, h1⟩
  obtain ⟨C0, hC0⟩ : ∃ C0, C0 = newC c 4 (initL c.words.toNat) := ⟨_, rfl⟩
  have hk0 : COk C0 := by rw [hC0]; exact HO.out
  have hg1 : ∀ k : Int, 0 ≤ k → k < c.words → hasC C0 1 k := fun k k0 k1 => by
    obtain ⟨n, rfl⟩ : ∃ n : Nat, k = n := ⟨k.toNat, by omega⟩
    rw [hC0]
    refine has_new (j := 1) (k := n) (by decide) (by decide) ?_
    show n < (initL c.words.toNat ++ zerosN (nbl c)).length
    rw [List.length_append, initL_len]; omega
  have hg2 : ∀ k : Int, 0 ≤ k → k < c.orecs → hasC C0 2 k := fun k k0 k1 => by
    obtain ⟨n, rfl⟩ : ∃ n : Nat, k = n := ⟨k.toNat, by omega⟩
    rw [hC0]
    refine has_new (j := 2) (k := n) (by decide) (by decide) ?_
    show n < (zerosN c.orecs.toNat).length
    simp [zerosN]; omega
  rw [← hC0] at h1
  have h2 := h1.newBlk (t := 27) (cs := #[.pointer (some ⟨m, 0, none⟩), .pointer (some ⟨r, 0, none⟩)])
  have H2 := hid h2
  have HK0 := hid (And.intro hk0 (And.intro hg1 hg2))
  clear h0 h1 h2 hC0 hk0 hg1 hg2 HO
  go_upto_region 4 with fail
  have h2 := H2.out
  generalize hW : World.alloc _ _ = W2 at h2 ⊢
  generalize v1.heap.size = gp at h2 ⊢
  clear hW H2
  have p1 := h2.blk.some_ (i := 1) rfl
  obtain ⟨x, h3⟩ := (h2.pk3 [2, 0, 1]).refOpen
  have d0 := h3.blk.some_ (i := 0) rfl
  have d1 := h3.blk.some_ (i := 1) rfl
  have d2 := h3.blk.some_ (i := 2) rfl
  have d3 := h3.blk.some_ (i := 3) rfl
  have d4 := h3.blk.some_ (i := 4) rfl
  have d5 := h3.blk.some_ (i := 5) rfl
  have d6 := h3.blk.some_ (i := 6) rfl
  have d7 := h3.blk.some_ (i := 7) rfl
  have d8 := h3.blk.some_ (i := 8) rfl
  have d9 := h3.blk.some_ (i := 9) rfl
  have d10 := h3.blk.some_ (i := 10) rfl
  have d11 := h3.blk.some_ (i := 11) rfl
  have d12 := h3.blk.some_ (i := 12) rfl
  go_upto_region 5 with fail
  have h4 := h3.newBlk (t := 32) (cs := c.cells)
  have h5 : Hold w (World.alloc W2 (.cells c.cells 32)) (blkA 32 W2.heap.size c.cells * (refA r c C0 * (prA gp m r * (memA m C0 * Asr.emp)))) := h4.refShut2
  replace h5 := h5.pk4 [2, 0, 3, 1]
  have H5 := hid h5
  clear h2 h3 h4 h5 d0 d1 d2 d3 d4 d5 d6 d7 d8 d9 d10 d11 d12 p1
  have h5 := H5.out
  generalize hW : World.alloc _ _ = W5 at h5 ⊢
  generalize W2.heap.size = gc at h5 ⊢
  clear hW H5
  replace h5 : Hold w W5 (prA gp m r * (blkA 32 gc c.cells * (memA m C0 * (refA r c C0 * Asr.emp)))) := h5
  obtain ⟨a, ha⟩ : ∃ a, a = place a1 c.words := ⟨_, rfl⟩
  have a0 : 0 ≤ a := by rw [ha]; exact place_nonneg a1 _ (by omega)
  have a1' : a < c.words := by rw [ha]; exact place_lt a1 _ (by omega)
  obtain ⟨o, ho⟩ : ∃ o, o = a % c.orecs := ⟨_, rfl⟩
  have o0 : 0 ≤ o := by rw [ho]; exact Int.emod_nonneg _ (by omega)
  have o1 : o < c.orecs := by rw [ho]; exact Int.emod_lt_of_pos _ (by omega)
  have HA := hid (And.intro ha ho)
  clear ha ho
  have d0 := h5.drop.blk.some_ (i := 0) rfl
  go_wp2_with fail
  refine (place_any _ _ _ (by omega) (by omega)).mono ?_
  rintro e w' ⟨rfl, rfl⟩
  rw [← HA.out.1]
  go_wp2_with fail
  refine (place_any _ _ _ (by omega) (by omega)).mono ?_
  rintro e w' ⟨rfl, rfl⟩
  rw [← HN.out.1]
  go_wp2_with fail
  refine (place_any _ _ _ (by omega) (by omega)).mono ?_
  rintro e w' ⟨rfl, rfl⟩
  rw [← HN.out.2.2]
  go_wp2_with fail
  refine (rfree_any _ _ (by omega) (by omega)).mono ?_
  rintro e w' ⟨rfl, rfl⟩
  go_wp2_with fail
  refine (place_any _ _ _ (by omega) (by omega)).mono ?_
  rintro e w' ⟨rfl, rfl⟩
  rw [← HN.out.2.1]
  go_wp2_with fail
  refine (rheld_any _ _ _ (by omega) (by omega) (by omega) (by omega)).mono ?_
  rintro e w' ⟨rfl, rfl⟩
  rw [← HWD.out.1]
  clear d0
  go_upto_region 9 with fail
  replace h5 := h5.drew
  have ne0 : c.orecs ≠ 0 := by omega
  refine wp_region_brk [] (by kernel_rfl) ?_
  refine wpAnyB_now (fun w' => ∃ Z, Hold w w' (prA gp m r * (blkA 32 gc c.cells * Z))) (fun _ _ => trivial) _ _ _ _ ?_
  refine' wpAnyB_bulk [true, true, true, true, true, true] 131 (listed' := #[true, true, true, true, true, true, false, false, false, false, false, false, false, false, false]) rfl (by kernel_rfl) (by kernel_rfl) (by kernel_rfl) (by kernel_rfl) (by kernel_rfl) (by kernel_rfl) (by decide) (fun _ _ _ _ h => h) rfl ⟨_, h5⟩ (fun wq hq => ?_) ?_; rotate_left 1
  · simp only [maskL]
    obtain ⟨Z, hq⟩ := hq
    have q0 := hq.blk.some_ (i := 0) rfl
    have q1 := hq.blk.some_ (i := 1) rfl
    have d1 := hq.drop.blk.some_ (i := 1) rfl
    repeat (go_big_quiet_step (fail))
    exact wpQuiet_nil rfl
  refine wpAnyB_bar [false, false, false, false, false, false, true] (fuel := 8) (by rfl) (by rfl) (by kernel_rfl) (fun QB hQB hQX => ?_)
  simp only [maskL]
  go_wp2_with fail
  rw [← HA.out.2]
  refine (pair_set w _ _ m r c C0 2 o wd (h5.pk4 [2, 3, 0, 1]) HK0.out.1 (HK0.out.2.2 o o0 o1) (by omega)).mono ?_
  rintro e w6 ⟨rfl, h6⟩
  replace h6 : Hold w w6 (prA gp m r * (blkA 32 gc c.cells * (memA m (opC C0 2 o wd true) * (refA r c (opC C0 2 o wd true) * Asr.emp)))) := h6.pk4 [2, 3, 0, 1]
  clear h5
  go_wp2_with fail
  refine hQB.out _ _ ⟨_, h6⟩ ?_
  clear hQB hQX QB
  refine' wpAnyB_bulk [false, false, false, false, false, false, false, true, true, true, true, true] 131 (listed' := #[true, true, true, true, true, true, true, true, true, true, true, true, false, false, false]) rfl (by kernel_rfl) (by kernel_rfl) (by kernel_rfl) (by kernel_rfl) (by kernel_rfl) (by kernel_rfl) (by decide) (fun _ _ _ _ h => h) rfl ⟨_, h6⟩ (fun wq hq => ?_) ?_; rotate_left 1
  · simp only [maskL]
    obtain ⟨Z, hq⟩ := hq
    have q0 := hq.blk.some_ (i := 0) rfl
    have q1 := hq.blk.some_ (i := 1) rfl
    repeat (go_big_quiet_step (fail))
    exact wpQuiet_nil rfl
  refine wpAnyB_bar [false, false, false, false, false, false, false, false, false, false, false, false, true] (fuel := 2) (by rfl) (by rfl) (by kernel_rfl) (fun QB hQB hQX => ?_)
  simp only [maskL]
  go_wp2_with fail
  refine (pair_set w _ _ m r c (opC C0 2 o wd true) 1 a a2 (h6.pk4 [2, 3, 0, 1]) (HK0.out.1.opC _ _ _ _) (hasC_opC (HK0.out.2.1 a a0 a1')) (by omega)).mono ?_
  rintro e w7 ⟨rfl, h7⟩
  replace h7 : Hold w w7 (prA gp m r * (blkA 32 gc c.cells * (memA m (opC (opC C0 2 o wd true) 1 a a2 true) * (refA r c (opC (opC C0 2 o wd true) 1 a a2 true) * Asr.emp)))) := h7.pk4 [2, 3, 0, 1]
  clear h6
  go_wp2_with fail
  refine hQB.out _ _ ⟨_, h7⟩ ?_
  clear hQB hQX QB
  refine' wpAnyB_bulk [false, false, false, false, false, false, false, false, false, false, false, false, false, true, true] 131 (listed' := #[true, true, true, true, true, true, true, true, true, true, true, true, true, true, true]) rfl (by kernel_rfl) (by kernel_rfl) (by kernel_rfl) (by kernel_rfl) (by kernel_rfl) (by kernel_rfl) (by decide) (fun _ _ _ _ h => h) rfl ⟨_, h7⟩ (fun wq hq => ?_) ?_; rotate_left 1
  · simp only [maskL]
    repeat (go_big_quiet_step (fail))
    exact wpQuiet_nil rfl
  refine wpAnyB_done (by kernel_rfl) ?_ _
  obtain ⟨C1, hC1⟩ : ∃ C1, C1 = opC (opC C0 2 o wd true) 1 a a2 true := ⟨_, rfl⟩
  rw [← hC1] at h7
  have hk1 : COk C1 := by rw [hC1]; exact (HK0.out.1.opC _ _ _ _).opC _ _ _ _
  have hh1 : hasC C1 1 a := by rw [hC1]; exact hasC_opC (hasC_opC (HK0.out.2.1 a a0 a1'))
  have hh2 : hasC C1 2 o := by rw [hC1]; exact hasC_opC (hasC_opC (HK0.out.2.2 o o0 o1))
  have hv1 : valC C1 1 a = a2 := by rw [hC1]; exact valC_op_same (hasC_opC (HK0.out.2.1 a a0 a1'))
  have hv2 : valC C1 2 o = wd := by rw [hC1]; exact (valC_op_ne (by decide)).trans (valC_op_same (HK0.out.2.2 o o0 o1))
  have ho2 : opA C1 1 2 o (valC C1 2 o) true = ⟨1, 2, o, wd, wd, true⟩ := by rw [(op_yes hh2 1 _).1, hv2]
  have ho1 : opA C1 1 1 a (valC C1 1 a) true = ⟨1, 1, a, a2, a2, true⟩ := by rw [(op_yes hh1 1 _).1, hv1]
  have HK1 := hid (And.intro hk1 (And.intro ho2 ho1))
  clear hC1 hk1 hh1 hh2 hv1 hv2 ho1 ho2 HK0
  have d1 := h7.drop.blk.some_ (i := 1) rfl
  go_wp2_with fail
  rw [← HA.out.2]
  refine (rd_new w _ _ a o rv h7).mono ?_
  rintro e w8 ⟨g, rfl, h8⟩
  replace h8 : Hold w w8 (rdA g a o rv 0 0 0 false * (memA m C1 * (refA r c C1 * (prA gp m r * Asr.emp)))) := h8.pk5 [0, 3, 4, 1]
  clear h7 d1
  have p0 := h8.drop.drop.drop.blk.some_ (i := 0) rfl
  go_wp2_with fail
  refine wp_loop_rounds 2 ?_
  rw [rounds_succ]
  go_wp2_with fail
  refine (rd_done w _ _ g a o rv 0 0 0 false h8).mono ?_
  rintro e w' ⟨rfl, rfl⟩
  go_wp2_with fail
  refine (rd_step0_bad w _ _ g m C1 a o rv 0 0 false _ h8 HK1.out.1 (by omega) HK1.out.2.1 HWD.out.2.1 HWD.out.2.2).mono ?_
  rintro e w9 ⟨rfl, h9⟩
  clear h8 p0
  have h8 := h9
  clear h9
  have p0 := h8.drop.drop.drop.blk.some_ (i := 0) rfl
  go_wp2_with fail
  rw [rounds_succ]
  go_wp2_with fail
  refine (rd_done w _ _ g a o rv 3 wd 0 true h8).mono ?_
  rintro e w' ⟨rfl, rfl⟩
  go_wp2_with fail
  refine (rd_conflict w _ _ g a o rv 3 wd 0 true h8).mono ?_
  rintro e w' ⟨rfl, rfl⟩
  go_wp2_with fail
  refine (rd_value w _ _ g a o rv 3 wd 0 true h8).mono ?_
  rintro e w' ⟨rfl, rfl⟩
  rw [show rdVal 3 0 true = 0 from rfl]
  go_wp2_with fail
  refine (awake14_any w _ _ h8).mono ?_
  rintro e v3 ⟨rfl, h11⟩
  have H11 := hid h11.below
  clear h8 h11
  go_wp2_with fail
  go_ret
  exact ⟨rfl, H11.out⟩
set_option maxRecDepth 8000 in
set_option maxHeartbeats 4000000 in
theorem readerCalm_new (l0 l1 l2 l3 l4 : Int) (a1 a2 a3 a4 a5 : Int) (w : World) (hu : 0 ≤ a2 ∧ a2 < 18446744073709551616) (hlt : place a5 4 < place a3 4) :
    Calls Try.prog 11 #[.agg #[.int .i64 l0, .int .i64 l1, .int .i64 l2, .int .i64 l3, .int .i64 l4], .int .i64 a1, .int .u64 a2, .int .i64 a3, .int .i64 a4, .int .i64 a5, .bool false] w (fun e w' => e = .returned (.bool true) ∧ Below w.heap.size w w') := by
  obtain ⟨n, hn⟩ : ∃ n, n = place a3 4 := ⟨_, rfl⟩
  have n0 : 0 ≤ n ∧ n < 4 := by rw [hn]; exact ⟨place_nonneg _ 4 (by omega), place_lt _ 4 (by omega)⟩
  obtain ⟨t, ht⟩ : ∃ t, t = place a4 4 := ⟨_, rfl⟩
  have t0 : 0 ≤ t ∧ t < 4 := by rw [ht]; exact ⟨place_nonneg _ 4 (by omega), place_lt _ 4 (by omega)⟩
  obtain ⟨rv, hr⟩ : ∃ rv, rv = place a5 4 := ⟨_, rfl⟩
  have rv0 : 0 ≤ rv ∧ rv < 4 := by rw [hr]; exact ⟨place_nonneg _ 4 (by omega), place_lt _ 4 (by omega)⟩
  obtain ⟨wd, hwd⟩ : ∃ wd, wd = n * 64 := ⟨_, rfl⟩
  rw [← hn, ← hr] at hlt
  have eg : decide (rv < n) = true := decide_eq_true hlt
  have HWD : Hid (wd = n * 64 ∧ (0 ≤ wd ∧ wd < 18446744073709551616) ∧ (wd % 64 ≠ 0 ∨ rv < wd / 64)) := hid ⟨hwd, by omega, by omega⟩
  clear hwd
  have HN := hid (And.intro hn (And.intro ht hr))
  clear hn ht hr
  obtain ⟨c, hc⟩ : ∃ c, c = mkCfg l0 l1 l2 l3 l4 := ⟨_, rfl⟩
  have hok : cfgErr c = 0 := by rw [hc]; exact mkCfg_ok _ _ _ _ _
  have hcb : (4 ≤ c.words ∧ c.words ≤ 12) ∧ (1 ≤ c.orecs ∧ c.orecs ≤ 8) := by
    rw [hc]
    have := (mk_bd l0 l1 l2 l3 l4).1
    have := place_nonneg l1 8 (by omega); have := place_lt l1 8 (by omega)
    exact ⟨(mk_bd l0 l1 l2 l3 l4).1, by show 1 ≤ 1 + place l1 8; omega, by show 1 + place l1 8 ≤ 8; omega⟩
  have HF : Hid (∀ w, Calls Try.prog 61 #[.int .i64 l0, .int .i64 l1, .int .i64 l2, .int .i64 l3, .int .i64 l4] w (fun e w' => e = .returned c.val ∧ Chg [] w w')) := hid fun w => by rw [hc]; exact config_any w l0 l1 l2 l3 l4
  have HO := hid (new_ok4 hok)
  have HC := hid hok
  have h0 := hid ((Hold.start w).alloc (.cells #[.int .i64 l0, .int .i64 l1, .int .i64 l2, .int .i64 l3, .int .i64 l4] 57))
  clear hok hc
  go_enter Try.func11, Try.ntmps11
  go_wp2_with fail
  refine (lab_small w _ _ c l0 l1 l2 l3 l4 HF.out HC.out h0.out).mono ?_
  rintro e v1 ⟨m, r, rfl, h1⟩
  obtain ⟨C0, hC0⟩ : ∃ C0, C0 = newC c 4 (initL c.words.toNat) := ⟨_, rfl⟩
  have hk0 : COk C0 := by rw [hC0]; exact HO.out
  have hg1 : ∀ k : Int, 0 ≤ k → k < c.words → hasC C0 1 k := fun k k0 k1 => by
    obtain ⟨n, rfl⟩ : ∃ n : Nat, k = n := ⟨k.toNat, by omega⟩
    rw [hC0]
    refine has_new (j := 1) (k := n) (by decide) (by decide) ?_
    show n < (initL c.words.toNat ++ zerosN (nbl c)).length
    rw [List.length_append, initL_len]; omega
  have hg2 : ∀ k : Int, 0 ≤ k → k < c.orecs → hasC C0 2 k := fun k k0 k1 => by
    obtain ⟨n, rfl⟩ : ∃ n : Nat, k = n := ⟨k.toNat, by omega⟩
    rw [hC0]
    refine has_new (j := 2) (k := n) (by decide) (by decide) ?_
    show n < (zerosN c.orecs.toNat).length
    simp [zerosN]; omega
  rw [← hC0] at h1
  have h2 := h1.newBlk (t := 27) (cs := #[.pointer (some ⟨m, 0, none⟩), .pointer (some ⟨r, 0, none⟩)])
  have H2 := hid h2
  have HK0 := hid (And.intro hk0 (And.intro hg1 hg2))
  clear h0 h1 h2 hC0 hk0 hg1 hg2 HO
  go_upto_region 4 with fail
  have h2 := H2.out
  generalize hW : World.alloc _ _ = W2 at h2 ⊢
  generalize v1.heap.size = gp at h2 ⊢
  clear hW H2
  have p1 := h2.blk.some_ (i := 1) rfl
  obtain ⟨x, h3⟩ := (h2.pk3 [2, 0, 1]).refOpen
  have d0 := h3.blk.some_ (i := 0) rfl
  have d1 := h3.blk.some_ (i := 1) rfl
  have d2 := h3.blk.some_ (i := 2) rfl
  have d3 := h3.blk.some_ (i := 3) rfl
  have d4 := h3.blk.some_ (i := 4) rfl
  have d5 := h3.blk.some_ (i := 5) rfl
  have d6 := h3.blk.some_ (i := 6) rfl
  have d7 := h3.blk.some_ (i := 7) rfl
  have d8 := h3.blk.some_ (i := 8) rfl
  have d9 := h3.blk.some_ (i := 9) rfl
  have d10 := h3.blk.some_ (i := 10) rfl
  have d11 := h3.blk.some_ (i := 11) rfl
  have d12 := h3.blk.some_ (i := 12) rfl
  go_upto_region 5 with fail
  have h4 := h3.newBlk (t := 32) (cs := c.cells)
  have h5 : Hold w (World.alloc W2 (.cells c.cells 32)) (blkA 32 W2.heap.size c.cells * (refA r c C0 * (prA gp m r * (memA m C0 * Asr.emp)))) := h4.refShut2
  replace h5 := h5.pk4 [2, 0, 3, 1]
  have H5 := hid h5
  clear h2 h3 h4 h5 d0 d1 d2 d3 d4 d5 d6 d7 d8 d9 d10 d11 d12 p1
  have h5 := H5.out
  generalize hW : World.alloc _ _ = W5 at h5 ⊢
  generalize W2.heap.size = gc at h5 ⊢
  clear hW H5
  replace h5 : Hold w W5 (prA gp m r * (blkA 32 gc c.cells * (memA m C0 * (refA r c C0 * Asr.emp)))) := h5
  obtain ⟨a, ha⟩ : ∃ a, a = place a1 c.words := ⟨_, rfl⟩
  have a0 : 0 ≤ a := by rw [ha]; exact place_nonneg a1 _ (by omega)
  have a1' : a < c.words := by rw [ha]; exact place_lt a1 _ (by omega)
  obtain ⟨o, ho⟩ : ∃ o, o = a % c.orecs := ⟨_, rfl⟩
  have o0 : 0 ≤ o := by rw [ho]; exact Int.emod_nonneg _ (by omega)
  have o1 : o < c.orecs := by rw [ho]; exact Int.emod_lt_of_pos _ (by omega)
  have HA := hid (And.intro ha ho)
  clear ha ho
  have d0 := h5.drop.blk.some_ (i := 0) rfl
  go_wp2_with fail
  refine (place_any _ _ _ (by omega) (by omega)).mono ?_
  rintro e w' ⟨rfl, rfl⟩
  rw [← HA.out.1]
  go_wp2_with fail
  refine (place_any _ _ _ (by omega) (by omega)).mono ?_
  rintro e w' ⟨rfl, rfl⟩
  rw [← HN.out.1]
  go_wp2_with fail
  refine (place_any _ _ _ (by omega) (by omega)).mono ?_
  rintro e w' ⟨rfl, rfl⟩
  rw [← HN.out.2.2]
  go_wp2_with fail
  refine (rfree_any _ _ (by omega) (by omega)).mono ?_
  rintro e w' ⟨rfl, rfl⟩
  rw [← HWD.out.1]
  clear d0
  go_upto_region 9 with fail
  replace h5 := h5.drew
  have ne0 : c.orecs ≠ 0 := by omega
  refine wp_region_brk [] (by kernel_rfl) ?_
  refine wpAnyB_now (fun w' => ∃ Z, Hold w w' (prA gp m r * (blkA 32 gc c.cells * Z))) (fun _ _ => trivial) _ _ _ _ ?_
  refine' wpAnyB_bulk [true, true, true, true, true, true] 131 (listed' := #[true, true, true, true, true, true, false, false, false, false, false, false, false, false, false]) rfl (by kernel_rfl) (by kernel_rfl) (by kernel_rfl) (by kernel_rfl) (by kernel_rfl) (by kernel_rfl) (by decide) (fun _ _ _ _ h => h) rfl ⟨_, h5⟩ (fun wq hq => ?_) ?_; rotate_left 1
  · simp only [maskL]
    obtain ⟨Z, hq⟩ := hq
    have q0 := hq.blk.some_ (i := 0) rfl
    have q1 := hq.blk.some_ (i := 1) rfl
    have d1 := hq.drop.blk.some_ (i := 1) rfl
    repeat (go_big_quiet_step (fail))
    exact wpQuiet_nil rfl
  refine wpAnyB_bar [false, false, false, false, false, false, true] (fuel := 8) (by rfl) (by rfl) (by kernel_rfl) (fun QB hQB hQX => ?_)
  simp only [maskL]
  go_wp2_with fail
  rw [← HA.out.2]
  refine (pair_set w _ _ m r c C0 2 o wd (h5.pk4 [2, 3, 0, 1]) HK0.out.1 (HK0.out.2.2 o o0 o1) (by omega)).mono ?_
  rintro e w6 ⟨rfl, h6⟩
  replace h6 : Hold w w6 (prA gp m r * (blkA 32 gc c.cells * (memA m (opC C0 2 o wd true) * (refA r c (opC C0 2 o wd true) * Asr.emp)))) := h6.pk4 [2, 3, 0, 1]
  clear h5
  go_wp2_with fail
  refine hQB.out _ _ ⟨_, h6⟩ ?_
  clear hQB hQX QB
  refine' wpAnyB_bulk [false, false, false, false, false, false, false, true, true, true, true, true] 131 (listed' := #[true, true, true, true, true, true, true, true, true, true, true, true, false, false, false]) rfl (by kernel_rfl) (by kernel_rfl) (by kernel_rfl) (by kernel_rfl) (by kernel_rfl) (by kernel_rfl) (by decide) (fun _ _ _ _ h => h) rfl ⟨_, h6⟩ (fun wq hq => ?_) ?_; rotate_left 1
  · simp only [maskL]
    obtain ⟨Z, hq⟩ := hq
    have q0 := hq.blk.some_ (i := 0) rfl
    have q1 := hq.blk.some_ (i := 1) rfl
    repeat (go_big_quiet_step (fail))
    exact wpQuiet_nil rfl
  refine wpAnyB_bar [false, false, false, false, false, false, false, false, false, false, false, false, true] (fuel := 2) (by rfl) (by rfl) (by kernel_rfl) (fun QB hQB hQX => ?_)
  simp only [maskL]
  go_wp2_with fail
  refine (pair_set w _ _ m r c (opC C0 2 o wd true) 1 a a2 (h6.pk4 [2, 3, 0, 1]) (HK0.out.1.opC _ _ _ _) (hasC_opC (HK0.out.2.1 a a0 a1')) (by omega)).mono ?_
  rintro e w7 ⟨rfl, h7⟩
  replace h7 : Hold w w7 (prA gp m r * (blkA 32 gc c.cells * (memA m (opC (opC C0 2 o wd true) 1 a a2 true) * (refA r c (opC (opC C0 2 o wd true) 1 a a2 true) * Asr.emp)))) := h7.pk4 [2, 3, 0, 1]
  clear h6
  go_wp2_with fail
  refine hQB.out _ _ ⟨_, h7⟩ ?_
  clear hQB hQX QB
  refine' wpAnyB_bulk [false, false, false, false, false, false, false, false, false, false, false, false, false, true, true] 131 (listed' := #[true, true, true, true, true, true, true, true, true, true, true, true, true, true, true]) rfl (by kernel_rfl) (by kernel_rfl) (by kernel_rfl) (by kernel_rfl) (by kernel_rfl) (by kernel_rfl) (by decide) (fun _ _ _ _ h => h) rfl ⟨_, h7⟩ (fun wq hq => ?_) ?_; rotate_left 1
  · simp only [maskL]
    repeat (go_big_quiet_step (fail))
    exact wpQuiet_nil rfl
  refine wpAnyB_done (by kernel_rfl) ?_ _
  obtain ⟨C1, hC1⟩ : ∃ C1, C1 = opC (opC C0 2 o wd true) 1 a a2 true := ⟨_, rfl⟩
  rw [← hC1] at h7
  have hk1 : COk C1 := by rw [hC1]; exact (HK0.out.1.opC _ _ _ _).opC _ _ _ _
  have hh1 : hasC C1 1 a := by rw [hC1]; exact hasC_opC (hasC_opC (HK0.out.2.1 a a0 a1'))
  have hh2 : hasC C1 2 o := by rw [hC1]; exact hasC_opC (hasC_opC (HK0.out.2.2 o o0 o1))
  have hv1 : valC C1 1 a = a2 := by rw [hC1]; exact valC_op_same (hasC_opC (HK0.out.2.1 a a0 a1'))
  have hv2 : valC C1 2 o = wd := by rw [hC1]; exact (valC_op_ne (by decide)).trans (valC_op_same (HK0.out.2.2 o o0 o1))
  have ho2 : opA C1 1 2 o (valC C1 2 o) true = ⟨1, 2, o, wd, wd, true⟩ := by rw [(op_yes hh2 1 _).1, hv2]
  have ho1 : opA C1 1 1 a (valC C1 1 a) true = ⟨1, 1, a, a2, a2, true⟩ := by rw [(op_yes hh1 1 _).1, hv1]
  have HK1 := hid (And.intro hk1 (And.intro ho2 ho1))
  clear hC1 hk1 hh1 hh2 hv1 hv2 ho1 ho2 HK0
  have d1 := h7.drop.blk.some_ (i := 1) rfl
  go_wp2_with fail
  rw [← HA.out.2]
  refine (rd_new w _ _ a o rv h7).mono ?_
  rintro e w8 ⟨g, rfl, h8⟩
  replace h8 : Hold w w8 (rdA g a o rv 0 0 0 false * (memA m C1 * (refA r c C1 * (prA gp m r * Asr.emp)))) := h8.pk5 [0, 3, 4, 1]
  clear h7 d1
  have p0 := h8.drop.drop.drop.blk.some_ (i := 0) rfl
  go_wp2_with fail
  refine wp_loop_rounds 2 ?_
  rw [rounds_succ]
  go_wp2_with fail
  refine (rd_done w _ _ g a o rv 0 0 0 false h8).mono ?_
  rintro e w' ⟨rfl, rfl⟩
  go_wp2_with fail
  refine (rd_step0_bad w _ _ g m C1 a o rv 0 0 false _ h8 HK1.out.1 (by omega) HK1.out.2.1 HWD.out.2.1 HWD.out.2.2).mono ?_
  rintro e w9 ⟨rfl, h9⟩
  clear h8 p0
  have h8 := h9
  clear h9
  have p0 := h8.drop.drop.drop.blk.some_ (i := 0) rfl
  go_wp2_with fail
  rw [rounds_succ]
  go_wp2_with fail
  refine (rd_done w _ _ g a o rv 3 wd 0 true h8).mono ?_
  rintro e w' ⟨rfl, rfl⟩
  go_wp2_with fail
  refine (rd_conflict w _ _ g a o rv 3 wd 0 true h8).mono ?_
  rintro e w' ⟨rfl, rfl⟩
  go_wp2_with fail
  refine (rd_value w _ _ g a o rv 3 wd 0 true h8).mono ?_
  rintro e w' ⟨rfl, rfl⟩
  rw [show rdVal 3 0 true = 0 from rfl]
  go_wp2_with fail
  refine (awake14_any w _ _ h8).mono ?_
  rintro e v3 ⟨rfl, h11⟩
  have H11 := hid h11.below
  clear h8 h11
  go_wp2_with fail
  go_ret
  exact ⟨rfl, H11.out⟩
set_option maxRecDepth 8000 in
set_option maxHeartbeats 4000000 in
theorem readerCalm_ok (l0 l1 l2 l3 l4 : Int) (a1 a2 a3 a4 a5 : Int) (w : World) (hu : 0 ≤ a2 ∧ a2 < 18446744073709551616) (hlt : place a3 4 ≤ place a5 4) :
    Calls Try.prog 11 #[.agg #[.int .i64 l0, .int .i64 l1, .int .i64 l2, .int .i64 l3, .int .i64 l4], .int .i64 a1, .int .u64 a2, .int .i64 a3, .int .i64 a4, .int .i64 a5, .bool false] w (fun e w' => e = .returned (.bool true) ∧ Below w.heap.size w w') := by
  obtain ⟨n, hn⟩ : ∃ n, n = place a3 4 := ⟨_, rfl⟩
  have n0 : 0 ≤ n ∧ n < 4 := by rw [hn]; exact ⟨place_nonneg _ 4 (by omega), place_lt _ 4 (by omega)⟩
  obtain ⟨t, ht⟩ : ∃ t, t = place a4 4 := ⟨_, rfl⟩
  have t0 : 0 ≤ t ∧ t < 4 := by rw [ht]; exact ⟨place_nonneg _ 4 (by omega), place_lt _ 4 (by omega)⟩
  obtain ⟨rv, hr⟩ : ∃ rv, rv = place a5 4 := ⟨_, rfl⟩
  have rv0 : 0 ≤ rv ∧ rv < 4 := by rw [hr]; exact ⟨place_nonneg _ 4 (by omega), place_lt _ 4 (by omega)⟩
  obtain ⟨wd, hwd⟩ : ∃ wd, wd = n * 64 := ⟨_, rfl⟩
  rw [← hn, ← hr] at hlt
  have eg : decide (rv < n) = false := decide_eq_false (by omega)
  have HWD : Hid (wd = n * 64 ∧ (0 ≤ wd ∧ wd < 18446744073709551616) ∧ (wd % 64 = 0 ∧ wd / 64 ≤ rv)) := hid ⟨hwd, by omega, by omega⟩
  clear hwd
  have HN := hid (And.intro hn (And.intro ht hr))
  clear hn ht hr
  obtain ⟨c, hc⟩ : ∃ c, c = mkCfg l0 l1 l2 l3 l4 := ⟨_, rfl⟩
  have hok : cfgErr c = 0 := by rw [hc]; exact mkCfg_ok _ _ _ _ _
  have hcb : (4 ≤ c.words ∧ c.words ≤ 12) ∧ (1 ≤ c.orecs ∧ c.orecs ≤ 8) := by
    rw [hc]
    have := (mk_bd l0 l1 l2 l3 l4).1
    have := place_nonneg l1 8 (by omega); have := place_lt l1 8 (by omega)
    exact ⟨(mk_bd l0 l1 l2 l3 l4).1, by show 1 ≤ 1 + place l1 8; omega, by show 1 + place l1 8 ≤ 8; omega⟩
  have HF : Hid (∀ w, Calls Try.prog 61 #[.int .i64 l0, .int .i64 l1, .int .i64 l2, .int .i64 l3, .int .i64 l4] w (fun e w' => e = .returned c.val ∧ Chg [] w w')) := hid fun w => by rw [hc]; exact config_any w l0 l1 l2 l3 l4
  have HO := hid (new_ok4 hok)
  have HC := hid hok
  have h0 := hid ((Hold.start w).alloc (.cells #[.int .i64 l0, .int .i64 l1, .int .i64 l2, .int .i64 l3, .int .i64 l4] 57))
  clear hok hc
  go_enter Try.func11, Try.ntmps11
  go_wp2_with fail
  refine (lab_small w _ _ c l0 l1 l2 l3 l4 HF.out HC.out h0.out).mono ?_
  rintro e v1 ⟨m, r, rfl, h1⟩
  obtain ⟨C0, hC0⟩ : ∃ C0, C0 = newC c 4 (initL c.words.toNat) := ⟨_, rfl⟩
  have hk0 : COk C0 := by rw [hC0]; exact HO.out
  have hg1 : ∀ k : Int, 0 ≤ k → k < c.words → hasC C0 1 k := fun k k0 k1 => by
    obtain ⟨n, rfl⟩ : ∃ n : Nat, k = n := ⟨k.toNat, by omega⟩
    rw [hC0]
    refine has_new (j := 1) (k := n) (by decide) (by decide) ?_
    show n < (initL c.words.toNat ++ zerosN (nbl c)).length
    rw [List.length_append, initL_len]; omega
  have hg2 : ∀ k : Int, 0 ≤ k → k < c.orecs → hasC C0 2 k := fun k k0 k1 => by
    obtain ⟨n, rfl⟩ : ∃ n : Nat, k = n := ⟨k.toNat, by omega⟩
    rw [hC0]
    refine has_new (j := 2) (k := n) (by decide) (by decide) ?_
    show n < (zerosN c.orecs.toNat).length
    simp [zerosN]; omega
  rw [← hC0] at h1
  have h2 := h1.newBlk (t := 27) (cs := #[.pointer (some ⟨m, 0, none⟩), .pointer (some ⟨r, 0, none⟩)])
  have H2 := hid h2
  have HK0 := hid (And.intro hk0 (And.intro hg1 hg2))
  clear h0 h1 h2 hC0 hk0 hg1 hg2 HO
  go_upto_region 4 with fail
  have h2 := H2.out
  generalize hW : World.alloc _ _ = W2 at h2 ⊢
  generalize v1.heap.size = gp at h2 ⊢
  clear hW H2
  have p1 := h2.blk.some_ (i := 1) rfl
  obtain ⟨x, h3⟩ := (h2.pk3 [2, 0, 1]).refOpen
  have d0 := h3.blk.some_ (i := 0) rfl
  have d1 := h3.blk.some_ (i := 1) rfl
  have d2 := h3.blk.some_ (i := 2) rfl
  have d3 := h3.blk.some_ (i := 3) rfl
  have d4 := h3.blk.some_ (i := 4) rfl
  have d5 := h3.blk.some_ (i := 5) rfl
  have d6 := h3.blk.some_ (i := 6) rfl
  have d7 := h3.blk.some_ (i := 7) rfl
  have d8 := h3.blk.some_ (i := 8) rfl
  have d9 := h3.blk.some_ (i := 9) rfl
  have d10 := h3.blk.some_ (i := 10) rfl
  have d11 := h3.blk.some_ (i := 11) rfl
  have d12 := h3.blk.some_ (i := 12) rfl
  go_upto_region 5 with fail
  have h4 := h3.newBlk (t := 32) (cs := c.cells)
  have h5 : Hold w (World.alloc W2 (.cells c.cells 32)) (blkA 32 W2.heap.size c.cells * (refA r c C0 * (prA gp m r * (memA m C0 * Asr.emp)))) := h4.refShut2
  replace h5 := h5.pk4 [2, 0, 3, 1]
  have H5 := hid h5
  clear h2 h3 h4 h5 d0 d1 d2 d3 d4 d5 d6 d7 d8 d9 d10 d11 d12 p1
  have h5 := H5.out
  generalize hW : World.alloc _ _ = W5 at h5 ⊢
  generalize W2.heap.size = gc at h5 ⊢
  clear hW H5
  replace h5 : Hold w W5 (prA gp m r * (blkA 32 gc c.cells * (memA m C0 * (refA r c C0 * Asr.emp)))) := h5
  obtain ⟨a, ha⟩ : ∃ a, a = place a1 c.words := ⟨_, rfl⟩
  have a0 : 0 ≤ a := by rw [ha]; exact place_nonneg a1 _ (by omega)
  have a1' : a < c.words := by rw [ha]; exact place_lt a1 _ (by omega)
  obtain ⟨o, ho⟩ : ∃ o, o = a % c.orecs := ⟨_, rfl⟩
  have o0 : 0 ≤ o := by rw [ho]; exact Int.emod_nonneg _ (by omega)
  have o1 : o < c.orecs := by rw [ho]; exact Int.emod_lt_of_pos _ (by omega)
  have HA := hid (And.intro ha ho)
  clear ha ho
  have d0 := h5.drop.blk.some_ (i := 0) rfl
  go_wp2_with fail
  refine (place_any _ _ _ (by omega) (by omega)).mono ?_
  rintro e w' ⟨rfl, rfl⟩
  rw [← HA.out.1]
  go_wp2_with fail
  refine (place_any _ _ _ (by omega) (by omega)).mono ?_
  rintro e w' ⟨rfl, rfl⟩
  rw [← HN.out.1]
  go_wp2_with fail
  refine (place_any _ _ _ (by omega) (by omega)).mono ?_
  rintro e w' ⟨rfl, rfl⟩
  rw [← HN.out.2.2]
  go_wp2_with fail
  refine (rfree_any _ _ (by omega) (by omega)).mono ?_
  rintro e w' ⟨rfl, rfl⟩
  rw [← HWD.out.1]
  clear d0
  go_upto_region 9 with fail
  replace h5 := h5.drew
  have ne0 : c.orecs ≠ 0 := by omega
  refine wp_region_brk [] (by kernel_rfl) ?_
  refine wpAnyB_now (fun w' => ∃ Z, Hold w w' (prA gp m r * (blkA 32 gc c.cells * Z))) (fun _ _ => trivial) _ _ _ _ ?_
  refine' wpAnyB_bulk [true, true, true, true, true, true] 131 (listed' := #[true, true, true, true, true, true, false, false, false, false, false, false, false, false, false]) rfl (by kernel_rfl) (by kernel_rfl) (by kernel_rfl) (by kernel_rfl) (by kernel_rfl) (by kernel_rfl) (by decide) (fun _ _ _ _ h => h) rfl ⟨_, h5⟩ (fun wq hq => ?_) ?_; rotate_left 1
  · simp only [maskL]
    obtain ⟨Z, hq⟩ := hq
    have q0 := hq.blk.some_ (i := 0) rfl
    have q1 := hq.blk.some_ (i := 1) rfl
    have d1 := hq.drop.blk.some_ (i := 1) rfl
    repeat (go_big_quiet_step (fail))
    exact wpQuiet_nil rfl
  refine wpAnyB_bar [false, false, false, false, false, false, true] (fuel := 8) (by rfl) (by rfl) (by kernel_rfl) (fun QB hQB hQX => ?_)
  simp only [maskL]
  go_wp2_with fail
  rw [← HA.out.2]
  refine (pair_set w _ _ m r c C0 2 o wd (h5.pk4 [2, 3, 0, 1]) HK0.out.1 (HK0.out.2.2 o o0 o1) (by omega)).mono ?_
  rintro e w6 ⟨rfl, h6⟩
  replace h6 : Hold w w6 (prA gp m r * (blkA 32 gc c.cells * (memA m (opC C0 2 o wd true) * (refA r c (opC C0 2 o wd true) * Asr.emp)))) := h6.pk4 [2, 3, 0, 1]
  clear h5
  go_wp2_with fail
  refine hQB.out _ _ ⟨_, h6⟩ ?_
  clear hQB hQX QB
  refine' wpAnyB_bulk [false, false, false, false, false, false, false, true, true, true, true, true] 131 (listed' := #[true, true, true, true, true, true, true, true, true, true, true, true, false, false, false]) rfl (by kernel_rfl) (by kernel_rfl) (by kernel_rfl) (by kernel_rfl) (by kernel_rfl) (by kernel_rfl) (by decide) (fun _ _ _ _ h => h) rfl ⟨_, h6⟩ (fun wq hq => ?_) ?_; rotate_left 1
  · simp only [maskL]
    obtain ⟨Z, hq⟩ := hq
    have q0 := hq.blk.some_ (i := 0) rfl
    have q1 := hq.blk.some_ (i := 1) rfl
    repeat (go_big_quiet_step (fail))
    exact wpQuiet_nil rfl
  refine wpAnyB_bar [false, false, false, false, false, false, false, false, false, false, false, false, true] (fuel := 2) (by rfl) (by rfl) (by kernel_rfl) (fun QB hQB hQX => ?_)
  simp only [maskL]
  go_wp2_with fail
  refine (pair_set w _ _ m r c (opC C0 2 o wd true) 1 a a2 (h6.pk4 [2, 3, 0, 1]) (HK0.out.1.opC _ _ _ _) (hasC_opC (HK0.out.2.1 a a0 a1')) (by omega)).mono ?_
  rintro e w7 ⟨rfl, h7⟩
  replace h7 : Hold w w7 (prA gp m r * (blkA 32 gc c.cells * (memA m (opC (opC C0 2 o wd true) 1 a a2 true) * (refA r c (opC (opC C0 2 o wd true) 1 a a2 true) * Asr.emp)))) := h7.pk4 [2, 3, 0, 1]
  clear h6
  go_wp2_with fail
  refine hQB.out _ _ ⟨_, h7⟩ ?_
  clear hQB hQX QB
  refine' wpAnyB_bulk [false, false, false, false, false, false, false, false, false, false, false, false, false, true, true] 131 (listed' := #[true, true, true, true, true, true, true, true, true, true, true, true, true, true, true]) rfl (by kernel_rfl) (by kernel_rfl) (by kernel_rfl) (by kernel_rfl) (by kernel_rfl) (by kernel_rfl) (by decide) (fun _ _ _ _ h => h) rfl ⟨_, h7⟩ (fun wq hq => ?_) ?_; rotate_left 1
  · simp only [maskL]
    repeat (go_big_quiet_step (fail))
    exact wpQuiet_nil rfl
  refine wpAnyB_done (by kernel_rfl) ?_ _
  obtain ⟨C1, hC1⟩ : ∃ C1, C1 = opC (opC C0 2 o wd true) 1 a a2 true := ⟨_, rfl⟩
  rw [← hC1] at h7
  have hk1 : COk C1 := by rw [hC1]; exact (HK0.out.1.opC _ _ _ _).opC _ _ _ _
  have hh1 : hasC C1 1 a := by rw [hC1]; exact hasC_opC (hasC_opC (HK0.out.2.1 a a0 a1'))
  have hh2 : hasC C1 2 o := by rw [hC1]; exact hasC_opC (hasC_opC (HK0.out.2.2 o o0 o1))
  have hv1 : valC C1 1 a = a2 := by rw [hC1]; exact valC_op_same (hasC_opC (HK0.out.2.1 a a0 a1'))
  have hv2 : valC C1 2 o = wd := by rw [hC1]; exact (valC_op_ne (by decide)).trans (valC_op_same (HK0.out.2.2 o o0 o1))
  have ho2 : opA C1 1 2 o (valC C1 2 o) true = ⟨1, 2, o, wd, wd, true⟩ := by rw [(op_yes hh2 1 _).1, hv2]
  have ho1 : opA C1 1 1 a (valC C1 1 a) true = ⟨1, 1, a, a2, a2, true⟩ := by rw [(op_yes hh1 1 _).1, hv1]
  have HK1 := hid (And.intro hk1 (And.intro ho2 ho1))
  clear hC1 hk1 hh1 hh2 hv1 hv2 ho1 ho2 HK0
  have d1 := h7.drop.blk.some_ (i := 1) rfl
  go_wp2_with fail
  rw [← HA.out.2]
  refine (rd_new w _ _ a o rv h7).mono ?_
  rintro e w8 ⟨g, rfl, h8⟩
  replace h8 : Hold w w8 (rdA g a o rv 0 0 0 false * (memA m C1 * (refA r c C1 * (prA gp m r * Asr.emp)))) := h8.pk5 [0, 3, 4, 1]
  clear h7 d1
  have p0 := h8.drop.drop.drop.blk.some_ (i := 0) rfl
  go_wp2_with fail
  refine wp_loop_rounds 4 ?_
  rw [rounds_succ]
  go_wp2_with fail
  refine (rd_done w _ _ g a o rv 0 0 0 false h8).mono ?_
  rintro e w' ⟨rfl, rfl⟩
  go_wp2_with fail
  refine (rd_step0_ok w _ _ g m C1 a o rv 0 0 false _ h8 HK1.out.1 (by omega) HK1.out.2.1 HWD.out.2.1 HWD.out.2.2).mono ?_
  rintro e w9 ⟨rfl, h9⟩
  clear h8 p0
  have h8 := h9
  clear h9
  have p0 := h8.drop.drop.drop.blk.some_ (i := 0) rfl
  go_wp2_with fail
  rw [rounds_succ]
  go_wp2_with fail
  refine (rd_done w _ _ g a o rv 1 wd 0 false h8).mono ?_
  rintro e w' ⟨rfl, rfl⟩
  go_wp2_with fail
  refine (rd_step1 w _ _ g m C1 a o rv wd 0 false _ h8 HK1.out.1 (by omega) HK1.out.2.2).mono ?_
  rintro e w9 ⟨rfl, h9⟩
  clear h8 p0
  have h8 := h9
  clear h9
  have p0 := h8.drop.drop.drop.blk.some_ (i := 0) rfl
  go_wp2_with fail
  rw [rounds_succ]
  go_wp2_with fail
  refine (rd_done w _ _ g a o rv 2 wd a2 false h8).mono ?_
  rintro e w' ⟨rfl, rfl⟩
  go_wp2_with fail
  refine (rd_step2 w _ _ g m C1 a o rv wd a2 false _ h8 HK1.out.1 (by omega) HK1.out.2.1).mono ?_
  rintro e w9 ⟨rfl, h9⟩
  clear h8 p0
  have h8 : Hold w w9 (rdA g a o rv 3 wd a2 false * (memA m C1 * (refA r c C1 * (prA gp m r * Asr.emp)))) := by rw [show (wd != wd) = false from bne_self_eq_false wd] at h9; exact h9
  clear h9
  have p0 := h8.drop.drop.drop.blk.some_ (i := 0) rfl
  go_wp2_with fail
  rw [rounds_succ]
  go_wp2_with fail
  refine (rd_done w _ _ g a o rv 3 wd a2 false h8).mono ?_
  rintro e w' ⟨rfl, rfl⟩
  go_wp2_with fail
  refine (rd_conflict w _ _ g a o rv 3 wd a2 false h8).mono ?_
  rintro e w' ⟨rfl, rfl⟩
  go_wp2_with fail
  refine (rd_value w _ _ g a o rv 3 wd a2 false h8).mono ?_
  rintro e w' ⟨rfl, rfl⟩
  rw [show rdVal 3 a2 false = a2 from rfl]
  go_wp2_with fail
  refine (awake14_any w _ _ h8).mono ?_
  rintro e v3 ⟨rfl, h11⟩
  have H11 := hid h11.below
  clear h8 h11
  go_wp2_with fail
  go_ret
  exact ⟨rfl, H11.out⟩
theorem readerCalm_walk (l0 l1 l2 l3 l4 : Int) (a1 a2 a3 a4 a5 : Int) (a6 : Bool) (w : World) (_ : (Lit.int .i64 a1).wf = true) (u2 : (Lit.int .u64 a2).wf = true) (_ : (Lit.int .i64 a3).wf = true) (_ : (Lit.int .i64 a4).wf = true) (_ : (Lit.int .i64 a5).wf = true) :
    Calls Try.prog 11 #[.agg #[.int .i64 l0, .int .i64 l1, .int .i64 l2, .int .i64 l3, .int .i64 l4], .int .i64 a1, .int .u64 a2, .int .i64 a3, .int .i64 a4, .int .i64 a5, .bool a6] w (fun e w' => e = .returned (.bool true) ∧ Below w.heap.size w w') := by
  have hu : 0 ≤ a2 ∧ a2 < 18446744073709551616 := by
    simp [Lit.wf, IntKind.min, IntKind.max, IntKind.signed, IntKind.bits] at u2; omega
  cases a6
  · by_cases h : place a3 4 ≤ place a5 4
    · exact readerCalm_ok l0 l1 l2 l3 l4 a1 a2 a3 a4 a5 w hu h
    · exact readerCalm_new l0 l1 l2 l3 l4 a1 a2 a3 a4 a5 w hu (by omega)
  · exact readerCalm_held l0 l1 l2 l3 l4 a1 a2 a3 a4 a5 w hu
end Go.Proofs.Ytddghhddafeojaa
