/- CellsApart: the walk. -/
import Derived.Test.YtfmmphabfdpegaaStart
import Derived.Test.YtfmmphabfdpegaaAwake08
import Derived.Test.YtfmmphabfdpegaaImage
import Derived.Test.YtfmmphabfdpegaaRef08c
import Derived.Test.YtfmmphabfdpegaaArg
import Derived.Test.YtfmmphabfdpegaaLab
import Derived.Deep.DeepCutAuto
namespace Go.Proofs.Ytfmmphabfdpegaa
open Go.RowKit
set_option linter.unusedVariables false

theorem valC_apart {C : Nat → List Int} {cl idx v : Int} (hh : hasC C cl idx) {k i : Int} (hk : 1 ≤ k ∧ k ≤ 8) (hi : 0 ≤ i) : valC (opC C cl idx v true) k i = if k = cl ∧ i = idx then v else valC C k i := by
  have hc : 1 ≤ cl ∧ cl ≤ 8 := by
    by_cases h : 1 ≤ cl ∧ cl ≤ 8
    · exact h
    · have := hh.2
      unfold getC at this
      rw [if_neg h] at this
      have h0 := hh.1
      simp at this
      omega
  rw [(op_yes hh 2 v).2.1]
  have hg : ∀ D : Nat → List Int, getC D k = D k.toNat := fun D => if_pos hk
  by_cases h1 : k = cl
  · subst h1
    by_cases h2 : i = idx
    · subst h2
      rw [if_pos ⟨rfl, rfl⟩]
      exact (valC_setK hh).1
    · rw [if_neg (fun h => h2 h.2)]
      unfold valC
      rw [hg, hg]
      unfold setK
      rw [if_pos rfl]
      have hne : idx.toNat ≠ i.toNat := by have := hh.1; omega
      simp [List.getD, List.getElem?_set_ne hne]
  · rw [if_neg (fun h => h1 h.1)]
    unfold valC
    rw [hg, hg]
    unfold setK
    rw [if_neg (by omega)]
theorem hasC_apart {C : Nat → List Int} {cl idx v : Int} {k i : Int} (h : hasC C k i) : hasC (opC C cl idx v true) k i := by
  refine ⟨h.1, ?_⟩
  have h2 := h.2
  have key : ∀ j, (opC C cl idx v true j).length = (C j).length := fun j => by
    unfold opC
    split
    · exact setK_len _ _ _ _ _
    · rfl
  unfold getC at h2 ⊢
  split
  · rename_i hc
    rw [if_pos hc] at h2
    rw [key]; exact h2
  · rename_i hc
    rw [if_neg hc] at h2; exact h2
set_option maxRecDepth 8000 in
set_option maxHeartbeats 8000000 in
theorem cellsApart_any (w : World) (c : Cfg) (l0 l1 l2 l3 l4 kd x1 x2 od v : Int) (hcfg : ∀ w, Calls Try.prog 27 #[.int .i64 l0, .int .i64 l1, .int .i64 l2, .int .i64 l3, .int .i64 l4] w (fun e w' => e = .returned c.val ∧ Chg [] w w')) (hok : cfgErr c = 0) :
    Calls Try.prog 4 #[.agg #[.int .i64 l0, .int .i64 l1, .int .i64 l2, .int .i64 l3, .int .i64 l4], .agg #[.int .i64 kd, .int .i64 x1, .int .i64 x2, .int .u64 od, .int .u64 v]] w (fun e w' => e = .returned (.bool true) ∧ Below w.heap.size w w') := by
  have HC := hid hok
  have HF := hid hcfg
  have h0 := ((Hold.start w).alloc (.cells #[.int .i64 l0, .int .i64 l1, .int .i64 l2, .int .i64 l3, .int .i64 l4] 22)).newBlk (t := 46) (cs := #[.int .i64 kd, .int .i64 x1, .int .i64 x2, .int .u64 od, .int .u64 v])
  simp only [World.size_alloc] at h0
  have H0 := hid h0
  clear hok hcfg h0
  obtain ⟨cl, hcl⟩ : ∃ cl, cl = place x1 8 := ⟨_, rfl⟩
  have cl0 : 0 ≤ cl := by rw [hcl]; exact place_nonneg _ _ (by omega)
  have cl8 : cl < 8 := by rw [hcl]; exact place_lt _ _ (by omega)
  have Hcl := hid hcl
  clear hcl
  go_enter Try.func4, Try.ntmps4
  go_wp2_with fail
  have h0 := H0.out
  generalize hW : World.alloc _ _ = W at h0 ⊢
  generalize w.heap.size + 1 = gx at h0 ⊢
  clear hW H0
  refine (start_gen w _ _ c l0 l1 l2 l3 l4 x2 HF.out HC.out h0).mono ?_
  rintro e u1 ⟨g, r, rfl, h1⟩
  clear h0
  obtain ⟨C, hC⟩ : ∃ C, C = newC c (1 + (place x2 4).toNat) (initL c.words.toNat) := ⟨_, rfl⟩
  have hCO : COk C := by
    rw [hC]
    exact ⟨fun k => newC_len HC.out (by have := place_lt x2 4 (by omega); omega) (by rw [initL_len]; have := (cfgOk_of HC.out).w; omega) k, rfl, rfl, rfl⟩
  rw [← hC] at h1
  have HK := hid hCO
  clear hC hCO
  have p1 := h1.drop.drop.blk.some_ (i := 1) rfl
  go_wp2_with fail
  refine (place_any _ _ _ (by omega) (by omega)).mono ?_
  rintro e w' ⟨rfl, rfl⟩
  rw [← Hcl.out]
  clear p1
  go_wp2_with fail
  obtain ⟨k1, hk1⟩ : ∃ k1, k1 = 1 + cl := ⟨_, rfl⟩
  rw [← hk1]
  have k1b : 1 ≤ k1 ∧ k1 ≤ 8 := by omega
  clear hk1 cl0 cl8 Hcl
  refine (rsize_any w _ _ r c C k1 h1.swap HK.out).mono ?_
  rintro e w' ⟨rfl, rfl⟩
  obtain ⟨L, hL⟩ : ∃ L, L = (getC C k1).length := ⟨_, rfl⟩
  have L1 : L ≤ 1000 := by
    rw [hL, show getC C k1 = C k1.toNat from if_pos k1b]
    exact HK.out.len _
  rw [← hL]
  have HL := hid hL
  clear hL
  by_cases hL0 : L = 0
  · have e1 : ((L : Int) == 0) = true := by simp [hL0]
    go_wp2_with fail
    refine (awake_any w _ _ h1).mono ?_
    rintro e w1 ⟨rfl, h2⟩
    have H2 := hid h2.below
    clear h1 h2
    go_wp2_with fail
    go_ret
    exact ⟨rfl, H2.out⟩
  have e1 : ((L : Int) == 0) = false := by simp [hL0]
  obtain ⟨ix, hix⟩ : ∃ ix, ix = place x2 L := ⟨_, rfl⟩
  have ix0 : 0 ≤ ix := by rw [hix]; exact place_nonneg _ _ (by omega)
  have ix1 : ix < L := by rw [hix]; exact place_lt _ _ (by omega)
  have hh : hasC C k1 ix := ⟨ix0, by rw [← HL.out]; exact ix1⟩
  have HIX := hid hix
  have HH := hid hh
  clear hix hh
  go_upto_region 7 with fail
  replace h1 := h1.drew
  refine wp_region_brk [] (by kernel_rfl) ?_
  refine wpAnyB_now (fun w' => ∃ Y Z, Hold w w' (Y * (Z * (blkA 46 gx #[.int .i64 kd, .int .i64 x1, .int .i64 x2, .int .u64 od, .int .u64 v] * Asr.emp)))) (fun _ _ => trivial) _ _ _ _ ?_
  refine' wpAnyB_bulk [true, true, true, true] 101 (listed' := #[true, true, true, true, false, false, false]) rfl (by kernel_rfl) (by kernel_rfl) (by kernel_rfl) (by kernel_rfl) (by kernel_rfl) (by kernel_rfl) (by decide) (fun _ _ _ _ h => h) rfl ⟨_, _, h1⟩ (fun wq hq => ?_) ?_; rotate_left 1
  · simp only [maskL]
    obtain ⟨Y, Z, hq⟩ := hq
    have q2 := hq.drop.drop.blk.some_ (i := 2) rfl
    repeat (go_big_quiet_step (fail))
    exact wpQuiet_nil rfl
  refine wpAnyB_bar [false, false, false, false, true] (fuel := 2) (by rfl) (by rfl) (by kernel_rfl) (fun QB hQB hQX => ?_)
  simp only [maskL]
  go_wp2_with fail
  refine (rsize_any w _ _ r c C k1 h1.swap HK.out).mono ?_
  rintro e w' ⟨rfl, rfl⟩
  rw [← HL.out]
  go_wp2_with fail
  refine hQB.out _ _ ⟨_, _, h1⟩ ?_
  clear hQB hQX QB
  refine wpAnyB_bar [false, false, false, false, false, true] (fuel := 1) (by rfl) (by rfl) (by kernel_rfl) (fun QB hQB hQX => ?_)
  simp only [maskL]
  go_wp2_with fail
  refine (place_any _ _ _ (by omega) (by omega)).mono ?_
  rintro e w' ⟨rfl, rfl⟩
  rw [← HIX.out]
  go_wp2_with fail
  refine hQB.out _ _ ⟨_, _, h1⟩ ?_
  clear hQB hQX QB
  refine' wpAnyB_bulk [false, false, false, false, false, false, true] 101 (listed' := #[true, true, true, true, true, true, true]) rfl (by kernel_rfl) (by kernel_rfl) (by kernel_rfl) (by kernel_rfl) (by kernel_rfl) (by kernel_rfl) (by decide) (fun _ _ _ _ h => h) rfl ⟨_, _, h1⟩ (fun wq hq => ?_) ?_; rotate_left 1
  · simp only [maskL]
    repeat (go_big_quiet_step (fail))
    exact wpQuiet_nil rfl
  refine wpAnyB_done (by kernel_rfl) ?_ _
  have p4 := h1.drop.drop.blk.some_ (i := 4) rfl
  go_wp2_with fail
  refine (mem_store w _ _ g C k1 ix v h1 (by omega) HK.out.len).mono ?_
  rintro e w2 ⟨rfl, h2⟩
  rw [(op_yes HH.out 2 v).1, (op_yes HH.out 2 v).2.2]
  obtain ⟨C2, hC2⟩ : ∃ C2, C2 = opC C k1 ix v true := ⟨_, rfl⟩
  rw [← hC2] at h2
  obtain ⟨y, hy⟩ : ∃ y, y = valC C k1 ix := ⟨_, rfl⟩
  rw [← hy]
  have HV : Hid (∀ k i : Int, 1 ≤ k ∧ k ≤ 8 → hasC C k i → hasC C2 k i ∧ valC C2 k i = if k = k1 ∧ i = ix then v else valC C k i) := hid fun k i hk hi => by
    rw [hC2]; exact ⟨hasC_apart hi, valC_apart HH.out hk hi.1⟩
  have HL2 : Hid (∀ k, (C2 k).length ≤ 1000) := hid fun k => by
    rw [hC2]
    unfold opC
    split
    · rw [setK_len]; exact HK.out.len k
    · exact HK.out.len k
  have H3 := hid (h2.newBlk (t := 39) (cs := #[.int .i64 2, .int .i64 k1, .int .i64 ix, .int .u64 y, .int .u64 v, .bool true]))
  clear h1 h2 hC2 hy p4 e1
  go_upto_region 9 with fail
  have h3 := H3.out
  generalize hW : World.alloc _ _ = W3 at h3 ⊢
  generalize w2.heap.size = ga at h3 ⊢
  clear hW H3
  obtain ⟨⟨y0, y1, y2, y3, y4, y5⟩, _⟩ := blk_acc h3.blk
  have p4 := h3.drop.drop.drop.blk.some_ (i := 4) rfl
  have ev : (v != v) = false := bne_self_eq_false v
  have h4 := h3.drop
  clear h3
  go_wp2_with fail
  clear y0 y1 y2 y3 y4 y5 p4 ev
  go_loopw [12] (fun s wr => ∃ (k : Nat), 1 ≤ k ∧ k ≤ 9 ∧ s = .int .i64 k ∧ Hold w wr (memA g C2 * (refA r c C * (blkA 46 gx #[.int .i64 kd, .int .i64 x1, .int .i64 x2, .int .u64 od, .int .u64 v] * Asr.emp)))) (fun s _ => 9 - (intOf s).toNat)
  case atStart => exact ⟨1, by omega, by omega, rfl, h4⟩
  case round =>
    clear h4
    obtain ⟨k, hk1, hk9, rfl, h5⟩ := hrel
    by_cases hlt : k ≤ 8
    · have e1 : decide ((k : Int) ≤ 8) = true := decide_eq_true (by omega)
      have kb : 1 ≤ (k : Int) ∧ (k : Int) ≤ 8 := by omega
      obtain ⟨M, hM⟩ : ∃ M, M = (getC C k).length := ⟨_, rfl⟩
      have M1 : M ≤ 1000 := by
        rw [hM, show getC C k = C (k : Int).toNat from if_pos kb]
        exact HK.out.len _
      have HM := hid hM
      clear hM
      go_wp2_with fail
      go_loopw [13] (fun s wr => ∃ (i : Nat), i ≤ M ∧ s = .int .i64 i ∧ Hold w wr (memA g C2 * (refA r c C * (blkA 46 gx #[.int .i64 kd, .int .i64 x1, .int .i64 x2, .int .u64 od, .int .u64 v] * Asr.emp)))) (fun s _ => M - (intOf s).toNat)
      case atStart => exact ⟨0, by omega, rfl, h5⟩
      case round =>
        clear h5
        obtain ⟨i, hi, rfl, h6⟩ := hrel
        go_wp2_with fail
        refine (rsize_any w _ _ r c C k h6.swap HK.out).mono ?_
        rintro e w' ⟨rfl, rfl⟩
        rw [← HM.out]
        by_cases hlt2 : i < M
        · have e2 : decide ((i : Int) < (M : Int)) = true := decide_eq_true (by omega)
          have hki : hasC C k i := ⟨by omega, by rw [← HM.out]; omega⟩
          obtain ⟨hki2, hvi⟩ := HV.out k i kb hki
          obtain ⟨old, hold⟩ : ∃ old, old = valC C k i := ⟨_, rfl⟩
          rw [← hold] at hvi
          have HKI := hid (And.intro hki (And.intro hki2 (And.intro hold hvi)))
          clear hki hki2 hold hvi
          go_wp2_with fail
          refine (rget_any w _ _ r c C k i h6.swap HK.out HKI.out.1).mono ?_
          rintro e w' ⟨rfl, rfl⟩
          rw [← HKI.out.2.2.1]
          have p4 := h6.drop.drop.blk.some_ (i := 4) rfl
          by_cases hki : (k : Int) = k1 ∧ (i : Int) = ix
          · have e5 : ((k : Int) == k1) = true := by simp [hki.1]
            have e6 : ((i : Int) == ix) = true := by simp [hki.2]
            have hvi : valC C2 k i = v := HKI.out.2.2.2.trans (if_pos hki)
            clear hki
            go_wp2_with fail
            refine (mem_load w _ _ g C2 k i h6 (by omega) HL2.out).mono ?_
            rintro e w7 ⟨rfl, h7⟩
            rw [(op_yes HKI.out.2.1 1 (valC C2 k i)).1, (op_yes HKI.out.2.1 1 (valC C2 k i)).2.2, hvi]
            have H8 := hid (h7.newBlk (t := 39) (cs := #[.int .i64 1, .int .i64 k, .int .i64 i, .int .u64 v, .int .u64 v, .bool true]))
            clear h6 h7
            go_upto_region 21 with fail
            have h8 := H8.out
            generalize hW : World.alloc _ _ = W8 at h8 ⊢
            generalize w7.heap.size = gb at h8 ⊢
            clear hW H8
            obtain ⟨⟨y0, y1, y2, y3, y4, y5⟩, _⟩ := blk_acc h8.blk
            have ew : ((v : Int) != v) = false := bne_self_eq_false _
            have h9 := h8.drop
            clear h8
            go_wp2_with fail
            go_round
            case rel => exact ⟨i + 1, by omega, by go_num, h9⟩
            case measure => simp [intOf]; omega
          · have hvi : valC C2 k i = old := HKI.out.2.2.2.trans (if_neg hki)
            by_cases hk2 : (k : Int) = k1
            · have e5 : ((k : Int) == k1) = true := by simp [hk2]
              have e6 : ((i : Int) == ix) = false := by simpa [hk2] using hki
              clear hki hk2
              go_wp2_with fail
              refine (mem_load w _ _ g C2 k i h6 (by omega) HL2.out).mono ?_
              rintro e w7 ⟨rfl, h7⟩
              rw [(op_yes HKI.out.2.1 1 (valC C2 k i)).1, (op_yes HKI.out.2.1 1 (valC C2 k i)).2.2, hvi]
              have H8 := hid (h7.newBlk (t := 39) (cs := #[.int .i64 1, .int .i64 k, .int .i64 i, .int .u64 old, .int .u64 old, .bool true]))
              clear h6 h7
              go_upto_region 21 with fail
              have h8 := H8.out
              generalize hW : World.alloc _ _ = W8 at h8 ⊢
              generalize w7.heap.size = gb at h8 ⊢
              clear hW H8
              obtain ⟨⟨y0, y1, y2, y3, y4, y5⟩, _⟩ := blk_acc h8.blk
              have ew : ((old : Int) != old) = false := bne_self_eq_false _
              have h9 := h8.drop
              clear h8
              go_wp2_with fail
              go_round
              case rel => exact ⟨i + 1, by omega, by go_num, h9⟩
              case measure => simp [intOf]; omega
            · have e5 : ((k : Int) == k1) = false := by simp [hk2]
              clear hki hk2
              go_wp2_with fail
              refine (mem_load w _ _ g C2 k i h6 (by omega) HL2.out).mono ?_
              rintro e w7 ⟨rfl, h7⟩
              rw [(op_yes HKI.out.2.1 1 (valC C2 k i)).1, (op_yes HKI.out.2.1 1 (valC C2 k i)).2.2, hvi]
              have H8 := hid (h7.newBlk (t := 39) (cs := #[.int .i64 1, .int .i64 k, .int .i64 i, .int .u64 old, .int .u64 old, .bool true]))
              clear h6 h7
              go_upto_region 21 with fail
              have h8 := H8.out
              generalize hW : World.alloc _ _ = W8 at h8 ⊢
              generalize w7.heap.size = gb at h8 ⊢
              clear hW H8
              obtain ⟨⟨y0, y1, y2, y3, y4, y5⟩, _⟩ := blk_acc h8.blk
              have ew : ((old : Int) != old) = false := bne_self_eq_false _
              have h9 := h8.drop
              clear h8
              go_wp2_with fail
              go_round
              case rel => exact ⟨i + 1, by omega, by go_num, h9⟩
              case measure => simp [intOf]; omega
        · obtain rfl : i = M := by omega
          have e2 : decide ((i : Int) < (i : Int)) = false := by simp
          go_wp2_with fail
          go_round
          case rel => exact ⟨k + 1, by omega, by omega, by go_num, h6⟩
          case measure => simp [intOf]; omega
    · obtain rfl : k = 9 := by omega
      have e1 : decide (((9 : Nat) : Int) ≤ 8) = false := rfl
      go_wp2_with fail
      refine (awake_any w _ _ h5).mono ?_
      rintro e w1 ⟨rfl, h2⟩
      have H2 := hid h2.below
      clear h5 h2
      go_wp2_with fail
      go_ret
      exact ⟨rfl, H2.out⟩
end Go.Proofs.Ytfmmphabfdpegaa
