/- strongtxlaw09: EpochIdle. -/
import Derived.Test.YtigjpfhjddkckaaEp3
import Derived.Test.YtigjpfhjddkckaaReg4
namespace Go.Proofs.Ytigjpfhjddkckaa
open Go.RowKit
set_option linter.unusedVariables false

set_option maxRecDepth 8000 in
set_option maxHeartbeats 8000000 in
theorem epochIdle_walk (l0 l1 l2 l3 l4 : Int) (a1 : Int) (w : World) (u2 : (Lit.int .u64 a1).wf = true) :
    Calls Try.prog 9 #[.agg #[.int .i64 l0, .int .i64 l1, .int .i64 l2, .int .i64 l3, .int .i64 l4], .int .u64 a1] w (fun e w' => e = .returned (.bool true) ∧ Below w.heap.size w w') := by
  have hu : 0 ≤ a1 ∧ a1 < 18446744073709551616 := by
    simp [Lit.wf, IntKind.min, IntKind.max, IntKind.signed, IntKind.bits] at u2; omega
  clear u2
  obtain ⟨c, hc⟩ : ∃ c, c = mkCfg l0 l1 l2 l3 l4 := ⟨_, rfl⟩
  have hok : cfgErr c = 0 := by rw [hc]; exact mkCfg_ok _ _ _ _ _
  have HF : Hid (∀ w, Calls Try.prog 73 #[.int .i64 l0, .int .i64 l1, .int .i64 l2, .int .i64 l3, .int .i64 l4] w (fun e w' => e = .returned c.val ∧ Chg [] w w')) := hid fun w => by rw [hc]; exact config_any w l0 l1 l2 l3 l4
  have HS := hid (SL.init hok)
  have HC := hid hok
  have h0 := hid ((Hold.start w).alloc (.cells #[.int .i64 l0, .int .i64 l1, .int .i64 l2, .int .i64 l3, .int .i64 l4] 72))
  clear hok hc
  go_enter Try.func9, Try.ntmps9
  go_wp2_with fail
  refine (lab_small w _ _ c l0 l1 l2 l3 l4 HF.out HC.out h0.out).mono ?_
  rintro e v1 ⟨m, r, rfl, h1⟩
  obtain ⟨C0, hC0⟩ : ∃ C0, C0 = newC c 4 (initL c.words.toNat) := ⟨_, rfl⟩
  rw [← hC0] at h1
  have HS0 : Hid (SL C0 0 (fun _ => 0)) := hid (by rw [hC0]; exact HS.out)
  have H1 := hid (h1.newBlk (t := 27) (cs := #[.pointer (some ⟨m, 0, none⟩), .pointer (some ⟨r, 0, none⟩)]))
  clear h0 h1 hC0 HS HC HF
  obtain ⟨ck, hck⟩ : ∃ ck, ck = a1 % 1099511627777 := ⟨_, rfl⟩
  have ck0 : 0 ≤ ck ∧ ck ≤ 1099511627776 := by omega
  have Hck := hid hck
  clear hck
  go_upto_region 2 with fail
  have h1 := H1.out
  generalize hW : World.alloc _ _ = W1 at h1 ⊢
  generalize v1.heap.size = gp at h1 ⊢
  clear hW H1
  have p0 := h1.blk.some_ (i := 0) rfl
  have p1 := h1.blk.some_ (i := 1) rfl
  go_wp2_with fail
  rw [← Hck.out]
  refine (pair_set w _ _ m r c C0 3 0 ck (h1.pk3 [1, 2, 0]) HS0.out.ok HS0.out.has3 (by omega)).mono ?_
  rintro e v2 ⟨rfl, h2⟩
  obtain ⟨C1, hC1⟩ : ∃ C1, C1 = opC C0 3 0 ck true := ⟨_, rfl⟩
  rw [← hC1] at h2
  have HS1 : Hid (SL C1 ck (fun _ => 0)) := hid (by rw [hC1]; exact HS0.out.clock ck)
  clear h1 p0 p1 hC1 HS0
  go_wp2_with fail
  refine (fe_new w _ _ 0 1 h2).mono ?_
  rintro e v3 ⟨f, rfl, h3⟩
  clear h2
  go_wp2_with fail
  refine (en_new w _ _ 0 h3).mono ?_
  rintro e v4 ⟨a, rfl, h4⟩
  have h5 : Hold w v4 (feA f 0 1 false 0 0 * (memA m C1 * (enA a 0 0 0 * (prA gp m r * Asr.emp)))) := h4.pk5 [1, 2, 0, 4]
  clear h3 h4
  go_wp2_with fail
  refine (fe_done w _ _ f 0 1 false 0 0 h5).mono ?_
  rintro e v5 ⟨rfl, h6⟩
  rw [Bool.false_and]
  clear h5
  go_wp2_with fail
  refine (fe_limit w _ _ f 0 1 false 0 0 h6 (by decide)).mono ?_
  rintro e w' ⟨rfl, rfl⟩
  rw [if_neg (by decide)]
  go_wp2_with fail
  refine (en_snap w _ _ a 0 0 0 (h6.pk3 [2, 0, 1]) (by decide)).mono ?_
  rintro e w' ⟨rfl, rfl⟩
  rw [show enSnap 0 0 = -1 from rfl]
  have p0 := h6.drop.drop.drop.blk.some_ (i := 0) rfl
  go_wp2_with fail
  refine (fe_step_load w _ _ f m C1 0 1 0 0 _ h6 HS1.out.ok (by decide) HS1.out.op3).mono ?_
  rintro e v6 ⟨rfl, h7⟩
  replace h7 : Hold w v6 (feA f 0 1 true ck 1 * (memA m C1 * (enA a 0 0 0 * (prA gp m r * Asr.emp)))) := h7
  have h8 : Hold w v6 (enA a (0 : Nat) (0 : Nat) (cE ck 0) * (memA m C1 * (feA f 0 1 true ck 1 * (prA gp m r * Asr.emp)))) := h7.pk3 [2, 1, 0]
  have H9 := hid ((Hold.newBlk (t := 50) (cs := #[.int .i64 1, .int .i64 3, .int .i64 0, .int .u64 ck, .int .u64 ck, .bool true]) h8).pk5 [1, 2, 3, 4, 0])
  clear h6 h7 h8 p0
  go_upto_region 9 with fail
  have h9 := H9.out
  generalize hW : World.alloc _ _ = W9 at h9 ⊢
  generalize v6.heap.size = gx at h9 ⊢
  clear hW H9
  replace h9 : Hold w W9 (enA a (0 : Nat) (0 : Nat) (cE ck 0) * (memA m C1 * (feA f 0 1 true ck 1 * (prA gp m r * (blkA 50 gx #[.int .i64 1, .int .i64 3, .int .i64 0, .int .u64 ck, .int .u64 ck, .bool true] * Asr.emp))))) := h9
  go_wp2_with fail
  go_loopw [11] (fun s wr => ∃ (i : Nat) (C : Nat → List Int), i ≤ 3 ∧ s = .int .i64 i ∧ SL C ck (slt 0 ck i) ∧ Hold w wr (enA a (0 : Nat) i (cE ck i) * (memA m C * (feA f 0 1 true ck 1 * (prA gp m r * (blkA 50 gx #[.int .i64 1, .int .i64 3, .int .i64 0, .int .u64 ck, .int .u64 ck, .bool true] * Asr.emp)))))) (fun s _ => 3 - (intOf s).toNat)
  case atStart => exact ⟨0, C1, by omega, rfl, HS1.out.eq fun k hk => by unfold slt; by_cases hkt : k = 0 <;> simp [hkt], h9⟩
  case round =>
    clear h9 HS1
    obtain ⟨i, C, hi, rfl, hs, h5⟩ := hrel
    have HS := hid hs
    clear hs
    by_cases hlt : i < 3
    · have e1 : decide ((i : Int) < 3) = true := decide_eq_true (by omega)
      have p0 := h5.drop.drop.drop.blk.some_ (i := 0) rfl
      go_wp2_with fail
      refine (en_step_any w _ _ a m 0 C ck i h5 HS.out (by decide) hlt ck0).mono ?_
      rintro e v4 ⟨ac, C2, rfl, h6, hs⟩
      have HS2 := hid hs
      clear h5 p0 HS hs
      go_wp2_with fail
      go_round
      case rel => exact ⟨i + 1, C2, by omega, by go_num, HS2.out, h6⟩
      case measure => simp [intOf]; omega
    · obtain rfl : i = 3 := by omega
      have e1 : decide (((3 : Nat) : Int) < 3) = false := rfl
      have HK := hid HS.out.ok
      have p0 := h5.drop.drop.drop.blk.some_ (i := 0) rfl
      go_wp2_with fail
      refine (image_any w _ _ m C h5.swap HK.out).mono ?_
      rintro e v5 ⟨y, rfl, h7⟩
      have h8 : Hold w v5 (sepR (refL C y) Asr.emp * (memA m C * (enA a (0 : Nat) (3 : Nat) ck * (feA f 0 1 true ck 1 * (prA gp m r * (blkA 50 gx #[.int .i64 1, .int .i64 3, .int .i64 0, .int .u64 ck, .int .u64 ck, .bool true] * Asr.emp)))))) := h7.imp (Imp.fold _ _)
      have H9 := hid ((Hold.newBlk (t := 61) (cs := #[slV C y 1, slV C y 2, .int .u64 (w1 C 3), .int .u64 (w1 C 4), .int .u64 (w1 C 5), slV C y 6, slV C y 7, slV C y 8]) h8).pk7 [4, 2, 3, 5, 6, 0, 1])
      clear h5 h7 h8 p0 HS
      go_upto_region 14 with fail
      have h9 := H9.out
      generalize hW : World.alloc _ _ = W9 at h9 ⊢
      generalize v5.heap.size = gi at h9 ⊢
      clear hW H9
      obtain ⟨R0, hR0⟩ : ∃ R0, R0 = blkA 50 gx #[.int .i64 1, .int .i64 3, .int .i64 0, .int .u64 ck, .int .u64 ck, .bool true] * (blkA 61 gi #[slV C y 1, slV C y 2, .int .u64 (w1 C 3), .int .u64 (w1 C 4), .int .u64 (w1 C 5), slV C y 6, slV C y 7, slV C y 8] * (sepR (refL C y) Asr.emp * Asr.emp)) := ⟨_, rfl⟩
      have h : Hold w W9 (prA gp m r * (feA f 0 1 true ck 1 * (memA m C * (enA a (0 : Nat) (3 : Nat) ck * (R0))))) := by rw [hR0]; exact Hold.pk7 h9 [3, 0, 1, 2, 4, 5, 6]
      have HR0 := hid hR0
      clear h9 hR0
      go_cut [7, 8, 9, 10, 12, 13, 14] (fun s7 s8 s9 s10 s12 s13 s14 wx => s7 = .int .u64 ck ∧ s8 = .pointer (some ⟨f, 0, none⟩) ∧ s9 = .pointer (some ⟨a, 0, none⟩) ∧ s10 = .pointer (some ⟨gx, 0, none⟩) ∧ s12 = .pointer (some ⟨gi, 0, none⟩) ∧ ∃ b13 b14, s13 = .pointer (some ⟨b13, 0, none⟩) ∧ s14 = .pointer (some ⟨b14, 0, none⟩) ∧ Hold w wx (prA gp m r * (feA f 0 1 true ck 1 * (memA m C * (enA a (0 : Nat) (3 : Nat) ck * (blkA 50 b13 #[.int .i64 0, .int .i64 0, .int .i64 0, .int .u64 0, .int .u64 0, .bool false] * (blkA 50 b14 #[.int .i64 0, .int .i64 0, .int .i64 0, .int .u64 0, .int .u64 0, .bool false] * R0)))))))
      case first =>
        replace h := h.drew
        refine wp_region_brk [] (by kernel_rfl) ?_
        obtain ⟨wc, hwc⟩ : ∃ wc, wc = W9.drew := ⟨_, rfl⟩
        rw [← hwc] at h ⊢
        clear hwc
        refine wpAnyB_now (fun w' => ∃ Z, Hold w w' (prA gp m r * Z)) (fun _ _ => trivial) _ _ _ _ ?_
        refine' wpAnyB_bulk [true, true, true, false, true, true, true] 108 (listed' := #[true, true, true, false, true, true, true, false, false, false, false, false]) rfl (by kernel_rfl) (by kernel_rfl) (by kernel_rfl) (by kernel_rfl) (by kernel_rfl) (by kernel_rfl) (by decide) (fun _ _ _ _ h => h) rfl ⟨_, h⟩ (fun wq hq => ?_) ?_; rotate_left 1
        · simp only [maskL]
          obtain ⟨Z, hq⟩ := hq
          have q0 := hq.blk.some_ (i := 0) rfl
          repeat (go_big_quiet_step (fail))
          exact wpQuiet_nil rfl
        refine wpAnyB_three [false, false, false, true] [false, false, false, false, false, false, false, false, true] [false, false, false, false, false, false, false, false, false, true] (fuel := 5) (by rfl) (by rfl) (by rfl) (by rfl) (by rfl) (by rfl) (by kernel_rfl) (fun QB hQB hQX => ?_) (fun QB hQB hQX => ?_) (fun QB hQB hQX => ?_)
        · simp only [maskL]
          go_wp2_with fail
          refine (fe_step_done w _ _ f _ 0 1 ck 1 (h.pk2 [1, 0]) (by decide)).mono ?_
          rintro e wn ⟨rfl, h'⟩
          have h2 : Hold w wn (prA gp m r * (feA f 0 1 true ck 1 * (memA m C * (enA a (0 : Nat) (3 : Nat) ck * (_))))) := Hold.pk2 h' [1, 0]
          clear h h'
          have h := h2
          clear h2
          obtain ⟨wc, rfl⟩ : ∃ x, x = wn := ⟨_, rfl⟩
          unfold acc0
          go_wp2_with fail
          refine hQB.out _ _ ⟨_, h⟩ ?_
          clear hQB hQX QB
          refine wpAnyB_three [false, false, false, false, false, false, false, true] [false, false, false, false, false, false, false, false, true] [false, false, false, false, false, false, false, false, false, true] (fuel := 4) (by rfl) (by rfl) (by rfl) (by rfl) (by rfl) (by rfl) (by kernel_rfl) (fun QB hQB hQX => ?_) (fun QB hQB hQX => ?_) (fun QB hQB hQX => ?_)
          · simp only [maskL]
            go_wp2_with fail
            refine (en_step3 w _ _ a _ (0 : Nat) ck (h.pk4 [3, 0, 1, 2])).mono ?_
            rintro e wn ⟨rfl, h'⟩
            have h2 : Hold w wn (prA gp m r * (feA f 0 1 true ck 1 * (memA m C * (enA a (0 : Nat) (3 : Nat) ck * (_))))) := Hold.pk4 h' [1, 2, 3, 0]
            clear h h'
            have h := h2
            clear h2
            obtain ⟨wc, rfl⟩ : ∃ x, x = wn := ⟨_, rfl⟩
            unfold acc0
            go_wp2_with fail
            refine hQB.out _ _ ⟨_, h⟩ ?_
            clear hQB hQX QB
            refine wpAnyB_two [false, false, false, false, false, false, false, false, true] [false, false, false, false, false, false, false, false, false, true] (fuel := 3) (by rfl) (by rfl) (by rfl) (by rfl) (by kernel_rfl) (fun QB hQB hQX => ?_) (fun QB hQB hQX => ?_)
            · simp only [maskL]
              have H2 := hid ((Hold.newBlk (t := 50) (cs := #[.int .i64 0, .int .i64 0, .int .i64 0, .int .u64 0, .int .u64 0, .bool false]) h).pk5 [1, 2, 3, 4, 0])
              clear h
              go_wp2_with fail
              refine hQB.out _ _ ⟨_, H2.out⟩ ?_
              clear hQB hQX QB
              have h : Hold w _ (prA gp m r * (feA f 0 1 true ck 1 * (memA m C * (enA a (0 : Nat) (3 : Nat) ck * (_))))) := H2.out
              clear H2
              generalize hW : World.alloc _ _ = wn at h ⊢
              generalize wc.heap.size = b13 at h ⊢
              clear hW
              obtain ⟨wc, rfl⟩ : ∃ x, x = wn := ⟨_, rfl⟩
              refine wpAnyB_bar [false, false, false, false, false, false, false, false, false, true] (fuel := 2) (by rfl) (by rfl) (by kernel_rfl) (fun QB hQB hQX => ?_)
              simp only [maskL]
              have H2 := hid ((Hold.newBlk (t := 50) (cs := #[.int .i64 0, .int .i64 0, .int .i64 0, .int .u64 0, .int .u64 0, .bool false]) h).pk5 [1, 2, 3, 4, 0])
              clear h
              go_wp2_with fail
              refine hQB.out _ _ ⟨_, H2.out⟩ ?_
              clear hQB hQX QB
              have h : Hold w _ (prA gp m r * (feA f 0 1 true ck 1 * (memA m C * (enA a (0 : Nat) (3 : Nat) ck * (_))))) := H2.out
              clear H2
              generalize hW : World.alloc _ _ = wn at h ⊢
              generalize wc.heap.size = b14 at h ⊢
              clear hW
              obtain ⟨wc, rfl⟩ : ∃ x, x = wn := ⟨_, rfl⟩
              refine wpAnyB_bar [false, false, false, false, false, false, false, false, false, false, true] (fuel := 1) (by rfl) (by rfl) (by kernel_rfl) (fun QB hQB hQX => ?_)
              simp only [maskL]
              have hn : Hold w wc (blkA 50 b13 #[.int .i64 0, .int .i64 0, .int .i64 0, .int .u64 0, .int .u64 0, .bool false] * (prA gp m r * (feA f 0 1 true ck 1 * (memA m C * (enA a (0 : Nat) (3 : Nat) ck * (blkA 50 b14 #[.int .i64 0, .int .i64 0, .int .i64 0, .int .u64 0, .int .u64 0, .bool false] * R0)))))) := by first | exact Hold.pk6 h [4, 0, 1, 2, 3, 5] | exact Hold.pk6 h [5, 0, 1, 2, 3, 4]
              obtain ⟨⟨x0, x1, x2, x3, x4, x5⟩, z0, z1, z2, z3, z4, z5⟩ := blk_acc hn.blk
              have H2 := hid (Hold.pk6 (hn.setAcc (.int .i64 0) (.int .i64 0) (.int .i64 0) (.int .u64 0) (.int .u64 0) (.bool false)) [1, 2, 3, 4, 0, 5])
              clear h hn
              go_wp2_with fail
              refine hQB.out _ _ ⟨_, H2.out⟩ ?_
              clear hQB hQX QB
              have h : Hold w _ (prA gp m r * (feA f 0 1 true ck 1 * (memA m C * (enA a (0 : Nat) (3 : Nat) ck * (blkA 50 b13 #[.int .i64 0, .int .i64 0, .int .i64 0, .int .u64 0, .int .u64 0, .bool false] * (blkA 50 b14 #[.int .i64 0, .int .i64 0, .int .i64 0, .int .u64 0, .int .u64 0, .bool false] * R0)))))) := H2.out
              clear H2 x0 x1 x2 x3 x4 x5 z0 z1 z2 z3 z4 z5
              generalize hW : World.setCell _ _ _ = wn at h ⊢
              clear hW
              obtain ⟨wc, rfl⟩ : ∃ x, x = wn := ⟨_, rfl⟩
              refine wpAnyB_bar [false, false, false, false, false, false, false, false, false, false, false, true] (fuel := 0) (by rfl) (by rfl) (by kernel_rfl) (fun QB hQB hQX => ?_)
              simp only [maskL]
              have hn : Hold w wc (blkA 50 b14 #[.int .i64 0, .int .i64 0, .int .i64 0, .int .u64 0, .int .u64 0, .bool false] * (prA gp m r * (feA f 0 1 true ck 1 * (memA m C * (enA a (0 : Nat) (3 : Nat) ck * (blkA 50 b13 #[.int .i64 0, .int .i64 0, .int .i64 0, .int .u64 0, .int .u64 0, .bool false] * R0)))))) := Hold.pk6 h [5, 0, 1, 2, 3, 4]
              obtain ⟨⟨x0, x1, x2, x3, x4, x5⟩, z0, z1, z2, z3, z4, z5⟩ := blk_acc hn.blk
              have H2 := hid (Hold.pk6 (hn.setAcc (.int .i64 0) (.int .i64 0) (.int .i64 0) (.int .u64 0) (.int .u64 0) (.bool false)) [1, 2, 3, 4, 5, 0])
              clear h hn
              go_wp2_with fail
              refine hQB.out _ _ ⟨_, H2.out⟩ ?_
              clear hQB hQX QB
              have h : Hold w _ (prA gp m r * (feA f 0 1 true ck 1 * (memA m C * (enA a (0 : Nat) (3 : Nat) ck * (blkA 50 b13 #[.int .i64 0, .int .i64 0, .int .i64 0, .int .u64 0, .int .u64 0, .bool false] * (blkA 50 b14 #[.int .i64 0, .int .i64 0, .int .i64 0, .int .u64 0, .int .u64 0, .bool false] * R0)))))) := H2.out
              clear H2 x0 x1 x2 x3 x4 x5 z0 z1 z2 z3 z4 z5
              refine wpAnyB_done (by kernel_rfl) ?_ _
              -- END
              have H3 := hid h
              clear h
              go_wp2_with fail
              go_meet
              exact ⟨rfl, rfl, rfl, rfl, rfl, b13, b14, rfl, rfl, H3.out⟩
            · simp only [maskL]
              have H2 := hid ((Hold.newBlk (t := 50) (cs := #[.int .i64 0, .int .i64 0, .int .i64 0, .int .u64 0, .int .u64 0, .bool false]) h).pk5 [1, 2, 3, 4, 0])
              clear h
              go_wp2_with fail
              refine hQB.out _ _ ⟨_, H2.out⟩ ?_
              clear hQB hQX QB
              have h : Hold w _ (prA gp m r * (feA f 0 1 true ck 1 * (memA m C * (enA a (0 : Nat) (3 : Nat) ck * (_))))) := H2.out
              clear H2
              generalize hW : World.alloc _ _ = wn at h ⊢
              generalize wc.heap.size = b14 at h ⊢
              clear hW
              obtain ⟨wc, rfl⟩ : ∃ x, x = wn := ⟨_, rfl⟩
              refine wpAnyB_bar [false, false, false, false, false, false, false, false, true] (fuel := 2) (by rfl) (by rfl) (by kernel_rfl) (fun QB hQB hQX => ?_)
              simp only [maskL]
              have H2 := hid ((Hold.newBlk (t := 50) (cs := #[.int .i64 0, .int .i64 0, .int .i64 0, .int .u64 0, .int .u64 0, .bool false]) h).pk5 [1, 2, 3, 4, 0])
              clear h
              go_wp2_with fail
              refine hQB.out _ _ ⟨_, H2.out⟩ ?_
              clear hQB hQX QB
              have h : Hold w _ (prA gp m r * (feA f 0 1 true ck 1 * (memA m C * (enA a (0 : Nat) (3 : Nat) ck * (_))))) := H2.out
              clear H2
              generalize hW : World.alloc _ _ = wn at h ⊢
              generalize wc.heap.size = b13 at h ⊢
              clear hW
              obtain ⟨wc, rfl⟩ : ∃ x, x = wn := ⟨_, rfl⟩
              refine wpAnyB_bar [false, false, false, false, false, false, false, false, false, false, true] (fuel := 1) (by rfl) (by rfl) (by kernel_rfl) (fun QB hQB hQX => ?_)
              simp only [maskL]
              have hn : Hold w wc (blkA 50 b13 #[.int .i64 0, .int .i64 0, .int .i64 0, .int .u64 0, .int .u64 0, .bool false] * (prA gp m r * (feA f 0 1 true ck 1 * (memA m C * (enA a (0 : Nat) (3 : Nat) ck * (blkA 50 b14 #[.int .i64 0, .int .i64 0, .int .i64 0, .int .u64 0, .int .u64 0, .bool false] * R0)))))) := by first | exact Hold.pk6 h [4, 0, 1, 2, 3, 5] | exact Hold.pk6 h [5, 0, 1, 2, 3, 4]
              obtain ⟨⟨x0, x1, x2, x3, x4, x5⟩, z0, z1, z2, z3, z4, z5⟩ := blk_acc hn.blk
              have H2 := hid (Hold.pk6 (hn.setAcc (.int .i64 0) (.int .i64 0) (.int .i64 0) (.int .u64 0) (.int .u64 0) (.bool false)) [1, 2, 3, 4, 0, 5])
              clear h hn
              go_wp2_with fail
              refine hQB.out _ _ ⟨_, H2.out⟩ ?_
              clear hQB hQX QB
              have h : Hold w _ (prA gp m r * (feA f 0 1 true ck 1 * (memA m C * (enA a (0 : Nat) (3 : Nat) ck * (blkA 50 b13 #[.int .i64 0, .int .i64 0, .int .i64 0, .int .u64 0, .int .u64 0, .bool false] * (blkA 50 b14 #[.int .i64 0, .int .i64 0, .int .i64 0, .int .u64 0, .int .u64 0, .bool false] * R0)))))) := H2.out
              clear H2 x0 x1 x2 x3 x4 x5 z0 z1 z2 z3 z4 z5
              generalize hW : World.setCell _ _ _ = wn at h ⊢
              clear hW
              obtain ⟨wc, rfl⟩ : ∃ x, x = wn := ⟨_, rfl⟩
              refine wpAnyB_bar [false, false, false, false, false, false, false, false, false, false, false, true] (fuel := 0) (by rfl) (by rfl) (by kernel_rfl) (fun QB hQB hQX => ?_)
              simp only [maskL]
              have hn : Hold w wc (blkA 50 b14 #[.int .i64 0, .int .i64 0, .int .i64 0, .int .u64 0, .int .u64 0, .bool false] * (prA gp m r * (feA f 0 1 true ck 1 * (memA m C * (enA a (0 : Nat) (3 : Nat) ck * (blkA 50 b13 #[.int .i64 0, .int .i64 0, .int .i64 0, .int .u64 0, .int .u64 0, .bool false] * R0)))))) := Hold.pk6 h [5, 0, 1, 2, 3, 4]
              obtain ⟨⟨x0, x1, x2, x3, x4, x5⟩, z0, z1, z2, z3, z4, z5⟩ := blk_acc hn.blk
              have H2 := hid (Hold.pk6 (hn.setAcc (.int .i64 0) (.int .i64 0) (.int .i64 0) (.int .u64 0) (.int .u64 0) (.bool false)) [1, 2, 3, 4, 5, 0])
              clear h hn
              go_wp2_with fail
              refine hQB.out _ _ ⟨_, H2.out⟩ ?_
              clear hQB hQX QB
              have h : Hold w _ (prA gp m r * (feA f 0 1 true ck 1 * (memA m C * (enA a (0 : Nat) (3 : Nat) ck * (blkA 50 b13 #[.int .i64 0, .int .i64 0, .int .i64 0, .int .u64 0, .int .u64 0, .bool false] * (blkA 50 b14 #[.int .i64 0, .int .i64 0, .int .i64 0, .int .u64 0, .int .u64 0, .bool false] * R0)))))) := H2.out
              clear H2 x0 x1 x2 x3 x4 x5 z0 z1 z2 z3 z4 z5
              refine wpAnyB_done (by kernel_rfl) ?_ _
              -- END
              have H3 := hid h
              clear h
              go_wp2_with fail
              go_meet
              exact ⟨rfl, rfl, rfl, rfl, rfl, b13, b14, rfl, rfl, H3.out⟩
          · simp only [maskL]
            have H2 := hid ((Hold.newBlk (t := 50) (cs := #[.int .i64 0, .int .i64 0, .int .i64 0, .int .u64 0, .int .u64 0, .bool false]) h).pk5 [1, 2, 3, 4, 0])
            clear h
            go_wp2_with fail
            refine hQB.out _ _ ⟨_, H2.out⟩ ?_
            clear hQB hQX QB
            have h : Hold w _ (prA gp m r * (feA f 0 1 true ck 1 * (memA m C * (enA a (0 : Nat) (3 : Nat) ck * (_))))) := H2.out
            clear H2
            generalize hW : World.alloc _ _ = wn at h ⊢
            generalize wc.heap.size = b13 at h ⊢
            clear hW
            obtain ⟨wc, rfl⟩ : ∃ x, x = wn := ⟨_, rfl⟩
            refine wpAnyB_two [false, false, false, false, false, false, false, true] [false, false, false, false, false, false, false, false, false, true] (fuel := 3) (by rfl) (by rfl) (by rfl) (by rfl) (by kernel_rfl) (fun QB hQB hQX => ?_) (fun QB hQB hQX => ?_)
            · simp only [maskL]
              go_wp2_with fail
              refine (en_step3 w _ _ a _ (0 : Nat) ck (h.pk4 [3, 0, 1, 2])).mono ?_
              rintro e wn ⟨rfl, h'⟩
              have h2 : Hold w wn (prA gp m r * (feA f 0 1 true ck 1 * (memA m C * (enA a (0 : Nat) (3 : Nat) ck * (_))))) := Hold.pk4 h' [1, 2, 3, 0]
              clear h h'
              have h := h2
              clear h2
              obtain ⟨wc, rfl⟩ : ∃ x, x = wn := ⟨_, rfl⟩
              unfold acc0
              go_wp2_with fail
              refine hQB.out _ _ ⟨_, h⟩ ?_
              clear hQB hQX QB
              refine wpAnyB_bar [false, false, false, false, false, false, false, false, false, true] (fuel := 2) (by rfl) (by rfl) (by kernel_rfl) (fun QB hQB hQX => ?_)
              simp only [maskL]
              have H2 := hid ((Hold.newBlk (t := 50) (cs := #[.int .i64 0, .int .i64 0, .int .i64 0, .int .u64 0, .int .u64 0, .bool false]) h).pk5 [1, 2, 3, 4, 0])
              clear h
              go_wp2_with fail
              refine hQB.out _ _ ⟨_, H2.out⟩ ?_
              clear hQB hQX QB
              have h : Hold w _ (prA gp m r * (feA f 0 1 true ck 1 * (memA m C * (enA a (0 : Nat) (3 : Nat) ck * (_))))) := H2.out
              clear H2
              generalize hW : World.alloc _ _ = wn at h ⊢
              generalize wc.heap.size = b14 at h ⊢
              clear hW
              obtain ⟨wc, rfl⟩ : ∃ x, x = wn := ⟨_, rfl⟩
              refine wpAnyB_bar [false, false, false, false, false, false, false, false, false, false, true] (fuel := 1) (by rfl) (by rfl) (by kernel_rfl) (fun QB hQB hQX => ?_)
              simp only [maskL]
              have hn : Hold w wc (blkA 50 b13 #[.int .i64 0, .int .i64 0, .int .i64 0, .int .u64 0, .int .u64 0, .bool false] * (prA gp m r * (feA f 0 1 true ck 1 * (memA m C * (enA a (0 : Nat) (3 : Nat) ck * (blkA 50 b14 #[.int .i64 0, .int .i64 0, .int .i64 0, .int .u64 0, .int .u64 0, .bool false] * R0)))))) := by first | exact Hold.pk6 h [4, 0, 1, 2, 3, 5] | exact Hold.pk6 h [5, 0, 1, 2, 3, 4]
              obtain ⟨⟨x0, x1, x2, x3, x4, x5⟩, z0, z1, z2, z3, z4, z5⟩ := blk_acc hn.blk
              have H2 := hid (Hold.pk6 (hn.setAcc (.int .i64 0) (.int .i64 0) (.int .i64 0) (.int .u64 0) (.int .u64 0) (.bool false)) [1, 2, 3, 4, 0, 5])
              clear h hn
              go_wp2_with fail
              refine hQB.out _ _ ⟨_, H2.out⟩ ?_
              clear hQB hQX QB
              have h : Hold w _ (prA gp m r * (feA f 0 1 true ck 1 * (memA m C * (enA a (0 : Nat) (3 : Nat) ck * (blkA 50 b13 #[.int .i64 0, .int .i64 0, .int .i64 0, .int .u64 0, .int .u64 0, .bool false] * (blkA 50 b14 #[.int .i64 0, .int .i64 0, .int .i64 0, .int .u64 0, .int .u64 0, .bool false] * R0)))))) := H2.out
              clear H2 x0 x1 x2 x3 x4 x5 z0 z1 z2 z3 z4 z5
              generalize hW : World.setCell _ _ _ = wn at h ⊢
              clear hW
              obtain ⟨wc, rfl⟩ : ∃ x, x = wn := ⟨_, rfl⟩
              refine wpAnyB_bar [false, false, false, false, false, false, false, false, false, false, false, true] (fuel := 0) (by rfl) (by rfl) (by kernel_rfl) (fun QB hQB hQX => ?_)
              simp only [maskL]
              have hn : Hold w wc (blkA 50 b14 #[.int .i64 0, .int .i64 0, .int .i64 0, .int .u64 0, .int .u64 0, .bool false] * (prA gp m r * (feA f 0 1 true ck 1 * (memA m C * (enA a (0 : Nat) (3 : Nat) ck * (blkA 50 b13 #[.int .i64 0, .int .i64 0, .int .i64 0, .int .u64 0, .int .u64 0, .bool false] * R0)))))) := Hold.pk6 h [5, 0, 1, 2, 3, 4]
              obtain ⟨⟨x0, x1, x2, x3, x4, x5⟩, z0, z1, z2, z3, z4, z5⟩ := blk_acc hn.blk
              have H2 := hid (Hold.pk6 (hn.setAcc (.int .i64 0) (.int .i64 0) (.int .i64 0) (.int .u64 0) (.int .u64 0) (.bool false)) [1, 2, 3, 4, 5, 0])
              clear h hn
              go_wp2_with fail
              refine hQB.out _ _ ⟨_, H2.out⟩ ?_
              clear hQB hQX QB
              have h : Hold w _ (prA gp m r * (feA f 0 1 true ck 1 * (memA m C * (enA a (0 : Nat) (3 : Nat) ck * (blkA 50 b13 #[.int .i64 0, .int .i64 0, .int .i64 0, .int .u64 0, .int .u64 0, .bool false] * (blkA 50 b14 #[.int .i64 0, .int .i64 0, .int .i64 0, .int .u64 0, .int .u64 0, .bool false] * R0)))))) := H2.out
              clear H2 x0 x1 x2 x3 x4 x5 z0 z1 z2 z3 z4 z5
              refine wpAnyB_done (by kernel_rfl) ?_ _
              -- END
              have H3 := hid h
              clear h
              go_wp2_with fail
              go_meet
              exact ⟨rfl, rfl, rfl, rfl, rfl, b13, b14, rfl, rfl, H3.out⟩
            · simp only [maskL]
              have H2 := hid ((Hold.newBlk (t := 50) (cs := #[.int .i64 0, .int .i64 0, .int .i64 0, .int .u64 0, .int .u64 0, .bool false]) h).pk5 [1, 2, 3, 4, 0])
              clear h
              go_wp2_with fail
              refine hQB.out _ _ ⟨_, H2.out⟩ ?_
              clear hQB hQX QB
              have h : Hold w _ (prA gp m r * (feA f 0 1 true ck 1 * (memA m C * (enA a (0 : Nat) (3 : Nat) ck * (_))))) := H2.out
              clear H2
              generalize hW : World.alloc _ _ = wn at h ⊢
              generalize wc.heap.size = b14 at h ⊢
              clear hW
              obtain ⟨wc, rfl⟩ : ∃ x, x = wn := ⟨_, rfl⟩
              refine wpAnyB_bar [false, false, false, false, false, false, false, true] (fuel := 2) (by rfl) (by rfl) (by kernel_rfl) (fun QB hQB hQX => ?_)
              simp only [maskL]
              go_wp2_with fail
              refine (en_step3 w _ _ a _ (0 : Nat) ck (h.pk4 [3, 0, 1, 2])).mono ?_
              rintro e wn ⟨rfl, h'⟩
              have h2 : Hold w wn (prA gp m r * (feA f 0 1 true ck 1 * (memA m C * (enA a (0 : Nat) (3 : Nat) ck * (_))))) := Hold.pk4 h' [1, 2, 3, 0]
              clear h h'
              have h := h2
              clear h2
              obtain ⟨wc, rfl⟩ : ∃ x, x = wn := ⟨_, rfl⟩
              unfold acc0
              go_wp2_with fail
              refine hQB.out _ _ ⟨_, h⟩ ?_
              clear hQB hQX QB
              refine wpAnyB_bar [false, false, false, false, false, false, false, false, false, false, true] (fuel := 1) (by rfl) (by rfl) (by kernel_rfl) (fun QB hQB hQX => ?_)
              simp only [maskL]
              have hn : Hold w wc (blkA 50 b13 #[.int .i64 0, .int .i64 0, .int .i64 0, .int .u64 0, .int .u64 0, .bool false] * (prA gp m r * (feA f 0 1 true ck 1 * (memA m C * (enA a (0 : Nat) (3 : Nat) ck * (blkA 50 b14 #[.int .i64 0, .int .i64 0, .int .i64 0, .int .u64 0, .int .u64 0, .bool false] * R0)))))) := by first | exact Hold.pk6 h [4, 0, 1, 2, 3, 5] | exact Hold.pk6 h [5, 0, 1, 2, 3, 4]
              obtain ⟨⟨x0, x1, x2, x3, x4, x5⟩, z0, z1, z2, z3, z4, z5⟩ := blk_acc hn.blk
              have H2 := hid (Hold.pk6 (hn.setAcc (.int .i64 0) (.int .i64 0) (.int .i64 0) (.int .u64 0) (.int .u64 0) (.bool false)) [1, 2, 3, 4, 0, 5])
              clear h hn
              go_wp2_with fail
              refine hQB.out _ _ ⟨_, H2.out⟩ ?_
              clear hQB hQX QB
              have h : Hold w _ (prA gp m r * (feA f 0 1 true ck 1 * (memA m C * (enA a (0 : Nat) (3 : Nat) ck * (blkA 50 b13 #[.int .i64 0, .int .i64 0, .int .i64 0, .int .u64 0, .int .u64 0, .bool false] * (blkA 50 b14 #[.int .i64 0, .int .i64 0, .int .i64 0, .int .u64 0, .int .u64 0, .bool false] * R0)))))) := H2.out
              clear H2 x0 x1 x2 x3 x4 x5 z0 z1 z2 z3 z4 z5
              generalize hW : World.setCell _ _ _ = wn at h ⊢
              clear hW
              obtain ⟨wc, rfl⟩ : ∃ x, x = wn := ⟨_, rfl⟩
              refine wpAnyB_bar [false, false, false, false, false, false, false, false, false, false, false, true] (fuel := 0) (by rfl) (by rfl) (by kernel_rfl) (fun QB hQB hQX => ?_)
              simp only [maskL]
              have hn : Hold w wc (blkA 50 b14 #[.int .i64 0, .int .i64 0, .int .i64 0, .int .u64 0, .int .u64 0, .bool false] * (prA gp m r * (feA f 0 1 true ck 1 * (memA m C * (enA a (0 : Nat) (3 : Nat) ck * (blkA 50 b13 #[.int .i64 0, .int .i64 0, .int .i64 0, .int .u64 0, .int .u64 0, .bool false] * R0)))))) := Hold.pk6 h [5, 0, 1, 2, 3, 4]
              obtain ⟨⟨x0, x1, x2, x3, x4, x5⟩, z0, z1, z2, z3, z4, z5⟩ := blk_acc hn.blk
              have H2 := hid (Hold.pk6 (hn.setAcc (.int .i64 0) (.int .i64 0) (.int .i64 0) (.int .u64 0) (.int .u64 0) (.bool false)) [1, 2, 3, 4, 5, 0])
              clear h hn
              go_wp2_with fail
              refine hQB.out _ _ ⟨_, H2.out⟩ ?_
              clear hQB hQX QB
              have h : Hold w _ (prA gp m r * (feA f 0 1 true ck 1 * (memA m C * (enA a (0 : Nat) (3 : Nat) ck * (blkA 50 b13 #[.int .i64 0, .int .i64 0, .int .i64 0, .int .u64 0, .int .u64 0, .bool false] * (blkA 50 b14 #[.int .i64 0, .int .i64 0, .int .i64 0, .int .u64 0, .int .u64 0, .bool false] * R0)))))) := H2.out
              clear H2 x0 x1 x2 x3 x4 x5 z0 z1 z2 z3 z4 z5
              refine wpAnyB_done (by kernel_rfl) ?_ _
              -- END
              have H3 := hid h
              clear h
              go_wp2_with fail
              go_meet
              exact ⟨rfl, rfl, rfl, rfl, rfl, b13, b14, rfl, rfl, H3.out⟩
          · simp only [maskL]
            have H2 := hid ((Hold.newBlk (t := 50) (cs := #[.int .i64 0, .int .i64 0, .int .i64 0, .int .u64 0, .int .u64 0, .bool false]) h).pk5 [1, 2, 3, 4, 0])
            clear h
            go_wp2_with fail
            refine hQB.out _ _ ⟨_, H2.out⟩ ?_
            clear hQB hQX QB
            have h : Hold w _ (prA gp m r * (feA f 0 1 true ck 1 * (memA m C * (enA a (0 : Nat) (3 : Nat) ck * (_))))) := H2.out
            clear H2
            generalize hW : World.alloc _ _ = wn at h ⊢
            generalize wc.heap.size = b14 at h ⊢
            clear hW
            obtain ⟨wc, rfl⟩ : ∃ x, x = wn := ⟨_, rfl⟩
            refine wpAnyB_two [false, false, false, false, false, false, false, true] [false, false, false, false, false, false, false, false, true] (fuel := 3) (by rfl) (by rfl) (by rfl) (by rfl) (by kernel_rfl) (fun QB hQB hQX => ?_) (fun QB hQB hQX => ?_)
            · simp only [maskL]
              go_wp2_with fail
              refine (en_step3 w _ _ a _ (0 : Nat) ck (h.pk4 [3, 0, 1, 2])).mono ?_
              rintro e wn ⟨rfl, h'⟩
              have h2 : Hold w wn (prA gp m r * (feA f 0 1 true ck 1 * (memA m C * (enA a (0 : Nat) (3 : Nat) ck * (_))))) := Hold.pk4 h' [1, 2, 3, 0]
              clear h h'
              have h := h2
              clear h2
              obtain ⟨wc, rfl⟩ : ∃ x, x = wn := ⟨_, rfl⟩
              unfold acc0
              go_wp2_with fail
              refine hQB.out _ _ ⟨_, h⟩ ?_
              clear hQB hQX QB
              refine wpAnyB_bar [false, false, false, false, false, false, false, false, true] (fuel := 2) (by rfl) (by rfl) (by kernel_rfl) (fun QB hQB hQX => ?_)
              simp only [maskL]
              have H2 := hid ((Hold.newBlk (t := 50) (cs := #[.int .i64 0, .int .i64 0, .int .i64 0, .int .u64 0, .int .u64 0, .bool false]) h).pk5 [1, 2, 3, 4, 0])
              clear h
              go_wp2_with fail
              refine hQB.out _ _ ⟨_, H2.out⟩ ?_
              clear hQB hQX QB
              have h : Hold w _ (prA gp m r * (feA f 0 1 true ck 1 * (memA m C * (enA a (0 : Nat) (3 : Nat) ck * (_))))) := H2.out
              clear H2
              generalize hW : World.alloc _ _ = wn at h ⊢
              generalize wc.heap.size = b13 at h ⊢
              clear hW
              obtain ⟨wc, rfl⟩ : ∃ x, x = wn := ⟨_, rfl⟩
              refine wpAnyB_bar [false, false, false, false, false, false, false, false, false, false, true] (fuel := 1) (by rfl) (by rfl) (by kernel_rfl) (fun QB hQB hQX => ?_)
              simp only [maskL]
              have hn : Hold w wc (blkA 50 b13 #[.int .i64 0, .int .i64 0, .int .i64 0, .int .u64 0, .int .u64 0, .bool false] * (prA gp m r * (feA f 0 1 true ck 1 * (memA m C * (enA a (0 : Nat) (3 : Nat) ck * (blkA 50 b14 #[.int .i64 0, .int .i64 0, .int .i64 0, .int .u64 0, .int .u64 0, .bool false] * R0)))))) := by first | exact Hold.pk6 h [4, 0, 1, 2, 3, 5] | exact Hold.pk6 h [5, 0, 1, 2, 3, 4]
              obtain ⟨⟨x0, x1, x2, x3, x4, x5⟩, z0, z1, z2, z3, z4, z5⟩ := blk_acc hn.blk
              have H2 := hid (Hold.pk6 (hn.setAcc (.int .i64 0) (.int .i64 0) (.int .i64 0) (.int .u64 0) (.int .u64 0) (.bool false)) [1, 2, 3, 4, 0, 5])
              clear h hn
              go_wp2_with fail
              refine hQB.out _ _ ⟨_, H2.out⟩ ?_
              clear hQB hQX QB
              have h : Hold w _ (prA gp m r * (feA f 0 1 true ck 1 * (memA m C * (enA a (0 : Nat) (3 : Nat) ck * (blkA 50 b13 #[.int .i64 0, .int .i64 0, .int .i64 0, .int .u64 0, .int .u64 0, .bool false] * (blkA 50 b14 #[.int .i64 0, .int .i64 0, .int .i64 0, .int .u64 0, .int .u64 0, .bool false] * R0)))))) := H2.out
              clear H2 x0 x1 x2 x3 x4 x5 z0 z1 z2 z3 z4 z5
              generalize hW : World.setCell _ _ _ = wn at h ⊢
              clear hW
              obtain ⟨wc, rfl⟩ : ∃ x, x = wn := ⟨_, rfl⟩
              refine wpAnyB_bar [false, false, false, false, false, false, false, false, false, false, false, true] (fuel := 0) (by rfl) (by rfl) (by kernel_rfl) (fun QB hQB hQX => ?_)
              simp only [maskL]
              have hn : Hold w wc (blkA 50 b14 #[.int .i64 0, .int .i64 0, .int .i64 0, .int .u64 0, .int .u64 0, .bool false] * (prA gp m r * (feA f 0 1 true ck 1 * (memA m C * (enA a (0 : Nat) (3 : Nat) ck * (blkA 50 b13 #[.int .i64 0, .int .i64 0, .int .i64 0, .int .u64 0, .int .u64 0, .bool false] * R0)))))) := Hold.pk6 h [5, 0, 1, 2, 3, 4]
              obtain ⟨⟨x0, x1, x2, x3, x4, x5⟩, z0, z1, z2, z3, z4, z5⟩ := blk_acc hn.blk
              have H2 := hid (Hold.pk6 (hn.setAcc (.int .i64 0) (.int .i64 0) (.int .i64 0) (.int .u64 0) (.int .u64 0) (.bool false)) [1, 2, 3, 4, 5, 0])
              clear h hn
              go_wp2_with fail
              refine hQB.out _ _ ⟨_, H2.out⟩ ?_
              clear hQB hQX QB
              have h : Hold w _ (prA gp m r * (feA f 0 1 true ck 1 * (memA m C * (enA a (0 : Nat) (3 : Nat) ck * (blkA 50 b13 #[.int .i64 0, .int .i64 0, .int .i64 0, .int .u64 0, .int .u64 0, .bool false] * (blkA 50 b14 #[.int .i64 0, .int .i64 0, .int .i64 0, .int .u64 0, .int .u64 0, .bool false] * R0)))))) := H2.out
              clear H2 x0 x1 x2 x3 x4 x5 z0 z1 z2 z3 z4 z5
              refine wpAnyB_done (by kernel_rfl) ?_ _
              -- END
              have H3 := hid h
              clear h
              go_wp2_with fail
              go_meet
              exact ⟨rfl, rfl, rfl, rfl, rfl, b13, b14, rfl, rfl, H3.out⟩
            · simp only [maskL]
              have H2 := hid ((Hold.newBlk (t := 50) (cs := #[.int .i64 0, .int .i64 0, .int .i64 0, .int .u64 0, .int .u64 0, .bool false]) h).pk5 [1, 2, 3, 4, 0])
              clear h
              go_wp2_with fail
              refine hQB.out _ _ ⟨_, H2.out⟩ ?_
              clear hQB hQX QB
              have h : Hold w _ (prA gp m r * (feA f 0 1 true ck 1 * (memA m C * (enA a (0 : Nat) (3 : Nat) ck * (_))))) := H2.out
              clear H2
              generalize hW : World.alloc _ _ = wn at h ⊢
              generalize wc.heap.size = b13 at h ⊢
              clear hW
              obtain ⟨wc, rfl⟩ : ∃ x, x = wn := ⟨_, rfl⟩
              refine wpAnyB_bar [false, false, false, false, false, false, false, true] (fuel := 2) (by rfl) (by rfl) (by kernel_rfl) (fun QB hQB hQX => ?_)
              simp only [maskL]
              go_wp2_with fail
              refine (en_step3 w _ _ a _ (0 : Nat) ck (h.pk4 [3, 0, 1, 2])).mono ?_
              rintro e wn ⟨rfl, h'⟩
              have h2 : Hold w wn (prA gp m r * (feA f 0 1 true ck 1 * (memA m C * (enA a (0 : Nat) (3 : Nat) ck * (_))))) := Hold.pk4 h' [1, 2, 3, 0]
              clear h h'
              have h := h2
              clear h2
              obtain ⟨wc, rfl⟩ : ∃ x, x = wn := ⟨_, rfl⟩
              unfold acc0
              go_wp2_with fail
              refine hQB.out _ _ ⟨_, h⟩ ?_
              clear hQB hQX QB
              refine wpAnyB_bar [false, false, false, false, false, false, false, false, false, false, true] (fuel := 1) (by rfl) (by rfl) (by kernel_rfl) (fun QB hQB hQX => ?_)
              simp only [maskL]
              have hn : Hold w wc (blkA 50 b13 #[.int .i64 0, .int .i64 0, .int .i64 0, .int .u64 0, .int .u64 0, .bool false] * (prA gp m r * (feA f 0 1 true ck 1 * (memA m C * (enA a (0 : Nat) (3 : Nat) ck * (blkA 50 b14 #[.int .i64 0, .int .i64 0, .int .i64 0, .int .u64 0, .int .u64 0, .bool false] * R0)))))) := by first | exact Hold.pk6 h [4, 0, 1, 2, 3, 5] | exact Hold.pk6 h [5, 0, 1, 2, 3, 4]
              obtain ⟨⟨x0, x1, x2, x3, x4, x5⟩, z0, z1, z2, z3, z4, z5⟩ := blk_acc hn.blk
              have H2 := hid (Hold.pk6 (hn.setAcc (.int .i64 0) (.int .i64 0) (.int .i64 0) (.int .u64 0) (.int .u64 0) (.bool false)) [1, 2, 3, 4, 0, 5])
              clear h hn
              go_wp2_with fail
              refine hQB.out _ _ ⟨_, H2.out⟩ ?_
              clear hQB hQX QB
              have h : Hold w _ (prA gp m r * (feA f 0 1 true ck 1 * (memA m C * (enA a (0 : Nat) (3 : Nat) ck * (blkA 50 b13 #[.int .i64 0, .int .i64 0, .int .i64 0, .int .u64 0, .int .u64 0, .bool false] * (blkA 50 b14 #[.int .i64 0, .int .i64 0, .int .i64 0, .int .u64 0, .int .u64 0, .bool false] * R0)))))) := H2.out
              clear H2 x0 x1 x2 x3 x4 x5 z0 z1 z2 z3 z4 z5
              generalize hW : World.setCell _ _ _ = wn at h ⊢
              clear hW
              obtain ⟨wc, rfl⟩ : ∃ x, x = wn := ⟨_, rfl⟩
              refine wpAnyB_bar [false, false, false, false, false, false, false, false, false, false, false, true] (fuel := 0) (by rfl) (by rfl) (by kernel_rfl) (fun QB hQB hQX => ?_)
              simp only [maskL]
              have hn : Hold w wc (blkA 50 b14 #[.int .i64 0, .int .i64 0, .int .i64 0, .int .u64 0, .int .u64 0, .bool false] * (prA gp m r * (feA f 0 1 true ck 1 * (memA m C * (enA a (0 : Nat) (3 : Nat) ck * (blkA 50 b13 #[.int .i64 0, .int .i64 0, .int .i64 0, .int .u64 0, .int .u64 0, .bool false] * R0)))))) := Hold.pk6 h [5, 0, 1, 2, 3, 4]
              obtain ⟨⟨x0, x1, x2, x3, x4, x5⟩, z0, z1, z2, z3, z4, z5⟩ := blk_acc hn.blk
              have H2 := hid (Hold.pk6 (hn.setAcc (.int .i64 0) (.int .i64 0) (.int .i64 0) (.int .u64 0) (.int .u64 0) (.bool false)) [1, 2, 3, 4, 5, 0])
              clear h hn
              go_wp2_with fail
              refine hQB.out _ _ ⟨_, H2.out⟩ ?_
              clear hQB hQX QB
              have h : Hold w _ (prA gp m r * (feA f 0 1 true ck 1 * (memA m C * (enA a (0 : Nat) (3 : Nat) ck * (blkA 50 b13 #[.int .i64 0, .int .i64 0, .int .i64 0, .int .u64 0, .int .u64 0, .bool false] * (blkA 50 b14 #[.int .i64 0, .int .i64 0, .int .i64 0, .int .u64 0, .int .u64 0, .bool false] * R0)))))) := H2.out
              clear H2 x0 x1 x2 x3 x4 x5 z0 z1 z2 z3 z4 z5
              refine wpAnyB_done (by kernel_rfl) ?_ _
              -- END
              have H3 := hid h
              clear h
              go_wp2_with fail
              go_meet
              exact ⟨rfl, rfl, rfl, rfl, rfl, b13, b14, rfl, rfl, H3.out⟩
        · simp only [maskL]
          have H2 := hid ((Hold.newBlk (t := 50) (cs := #[.int .i64 0, .int .i64 0, .int .i64 0, .int .u64 0, .int .u64 0, .bool false]) h).pk5 [1, 2, 3, 4, 0])
          clear h
          go_wp2_with fail
          refine hQB.out _ _ ⟨_, H2.out⟩ ?_
          clear hQB hQX QB
          have h : Hold w _ (prA gp m r * (feA f 0 1 true ck 1 * (memA m C * (enA a (0 : Nat) (3 : Nat) ck * (_))))) := H2.out
          clear H2
          generalize hW : World.alloc _ _ = wn at h ⊢
          generalize wc.heap.size = b13 at h ⊢
          clear hW
          obtain ⟨wc, rfl⟩ : ∃ x, x = wn := ⟨_, rfl⟩
          refine wpAnyB_two [false, false, false, true] [false, false, false, false, false, false, false, false, false, true] (fuel := 4) (by rfl) (by rfl) (by rfl) (by rfl) (by kernel_rfl) (fun QB hQB hQX => ?_) (fun QB hQB hQX => ?_)
          · simp only [maskL]
            go_wp2_with fail
            refine (fe_step_done w _ _ f _ 0 1 ck 1 (h.pk2 [1, 0]) (by decide)).mono ?_
            rintro e wn ⟨rfl, h'⟩
            have h2 : Hold w wn (prA gp m r * (feA f 0 1 true ck 1 * (memA m C * (enA a (0 : Nat) (3 : Nat) ck * (_))))) := Hold.pk2 h' [1, 0]
            clear h h'
            have h := h2
            clear h2
            obtain ⟨wc, rfl⟩ : ∃ x, x = wn := ⟨_, rfl⟩
            unfold acc0
            go_wp2_with fail
            refine hQB.out _ _ ⟨_, h⟩ ?_
            clear hQB hQX QB
            refine wpAnyB_two [false, false, false, false, false, false, false, true] [false, false, false, false, false, false, false, false, false, true] (fuel := 3) (by rfl) (by rfl) (by rfl) (by rfl) (by kernel_rfl) (fun QB hQB hQX => ?_) (fun QB hQB hQX => ?_)
            · simp only [maskL]
              go_wp2_with fail
              refine (en_step3 w _ _ a _ (0 : Nat) ck (h.pk4 [3, 0, 1, 2])).mono ?_
              rintro e wn ⟨rfl, h'⟩
              have h2 : Hold w wn (prA gp m r * (feA f 0 1 true ck 1 * (memA m C * (enA a (0 : Nat) (3 : Nat) ck * (_))))) := Hold.pk4 h' [1, 2, 3, 0]
              clear h h'
              have h := h2
              clear h2
              obtain ⟨wc, rfl⟩ : ∃ x, x = wn := ⟨_, rfl⟩
              unfold acc0
              go_wp2_with fail
              refine hQB.out _ _ ⟨_, h⟩ ?_
              clear hQB hQX QB
              refine wpAnyB_bar [false, false, false, false, false, false, false, false, false, true] (fuel := 2) (by rfl) (by rfl) (by kernel_rfl) (fun QB hQB hQX => ?_)
              simp only [maskL]
              have H2 := hid ((Hold.newBlk (t := 50) (cs := #[.int .i64 0, .int .i64 0, .int .i64 0, .int .u64 0, .int .u64 0, .bool false]) h).pk5 [1, 2, 3, 4, 0])
              clear h
              go_wp2_with fail
              refine hQB.out _ _ ⟨_, H2.out⟩ ?_
              clear hQB hQX QB
              have h : Hold w _ (prA gp m r * (feA f 0 1 true ck 1 * (memA m C * (enA a (0 : Nat) (3 : Nat) ck * (_))))) := H2.out
              clear H2
              generalize hW : World.alloc _ _ = wn at h ⊢
              generalize wc.heap.size = b14 at h ⊢
              clear hW
              obtain ⟨wc, rfl⟩ : ∃ x, x = wn := ⟨_, rfl⟩
              refine wpAnyB_bar [false, false, false, false, false, false, false, false, false, false, true] (fuel := 1) (by rfl) (by rfl) (by kernel_rfl) (fun QB hQB hQX => ?_)
              simp only [maskL]
              have hn : Hold w wc (blkA 50 b13 #[.int .i64 0, .int .i64 0, .int .i64 0, .int .u64 0, .int .u64 0, .bool false] * (prA gp m r * (feA f 0 1 true ck 1 * (memA m C * (enA a (0 : Nat) (3 : Nat) ck * (blkA 50 b14 #[.int .i64 0, .int .i64 0, .int .i64 0, .int .u64 0, .int .u64 0, .bool false] * R0)))))) := by first | exact Hold.pk6 h [4, 0, 1, 2, 3, 5] | exact Hold.pk6 h [5, 0, 1, 2, 3, 4]
              obtain ⟨⟨x0, x1, x2, x3, x4, x5⟩, z0, z1, z2, z3, z4, z5⟩ := blk_acc hn.blk
              have H2 := hid (Hold.pk6 (hn.setAcc (.int .i64 0) (.int .i64 0) (.int .i64 0) (.int .u64 0) (.int .u64 0) (.bool false)) [1, 2, 3, 4, 0, 5])
              clear h hn
              go_wp2_with fail
              refine hQB.out _ _ ⟨_, H2.out⟩ ?_
              clear hQB hQX QB
              have h : Hold w _ (prA gp m r * (feA f 0 1 true ck 1 * (memA m C * (enA a (0 : Nat) (3 : Nat) ck * (blkA 50 b13 #[.int .i64 0, .int .i64 0, .int .i64 0, .int .u64 0, .int .u64 0, .bool false] * (blkA 50 b14 #[.int .i64 0, .int .i64 0, .int .i64 0, .int .u64 0, .int .u64 0, .bool false] * R0)))))) := H2.out
              clear H2 x0 x1 x2 x3 x4 x5 z0 z1 z2 z3 z4 z5
              generalize hW : World.setCell _ _ _ = wn at h ⊢
              clear hW
              obtain ⟨wc, rfl⟩ : ∃ x, x = wn := ⟨_, rfl⟩
              refine wpAnyB_bar [false, false, false, false, false, false, false, false, false, false, false, true] (fuel := 0) (by rfl) (by rfl) (by kernel_rfl) (fun QB hQB hQX => ?_)
              simp only [maskL]
              have hn : Hold w wc (blkA 50 b14 #[.int .i64 0, .int .i64 0, .int .i64 0, .int .u64 0, .int .u64 0, .bool false] * (prA gp m r * (feA f 0 1 true ck 1 * (memA m C * (enA a (0 : Nat) (3 : Nat) ck * (blkA 50 b13 #[.int .i64 0, .int .i64 0, .int .i64 0, .int .u64 0, .int .u64 0, .bool false] * R0)))))) := Hold.pk6 h [5, 0, 1, 2, 3, 4]
              obtain ⟨⟨x0, x1, x2, x3, x4, x5⟩, z0, z1, z2, z3, z4, z5⟩ := blk_acc hn.blk
              have H2 := hid (Hold.pk6 (hn.setAcc (.int .i64 0) (.int .i64 0) (.int .i64 0) (.int .u64 0) (.int .u64 0) (.bool false)) [1, 2, 3, 4, 5, 0])
              clear h hn
              go_wp2_with fail
              refine hQB.out _ _ ⟨_, H2.out⟩ ?_
              clear hQB hQX QB
              have h : Hold w _ (prA gp m r * (feA f 0 1 true ck 1 * (memA m C * (enA a (0 : Nat) (3 : Nat) ck * (blkA 50 b13 #[.int .i64 0, .int .i64 0, .int .i64 0, .int .u64 0, .int .u64 0, .bool false] * (blkA 50 b14 #[.int .i64 0, .int .i64 0, .int .i64 0, .int .u64 0, .int .u64 0, .bool false] * R0)))))) := H2.out
              clear H2 x0 x1 x2 x3 x4 x5 z0 z1 z2 z3 z4 z5
              refine wpAnyB_done (by kernel_rfl) ?_ _
              -- END
              have H3 := hid h
              clear h
              go_wp2_with fail
              go_meet
              exact ⟨rfl, rfl, rfl, rfl, rfl, b13, b14, rfl, rfl, H3.out⟩
            · simp only [maskL]
              have H2 := hid ((Hold.newBlk (t := 50) (cs := #[.int .i64 0, .int .i64 0, .int .i64 0, .int .u64 0, .int .u64 0, .bool false]) h).pk5 [1, 2, 3, 4, 0])
              clear h
              go_wp2_with fail
              refine hQB.out _ _ ⟨_, H2.out⟩ ?_
              clear hQB hQX QB
              have h : Hold w _ (prA gp m r * (feA f 0 1 true ck 1 * (memA m C * (enA a (0 : Nat) (3 : Nat) ck * (_))))) := H2.out
              clear H2
              generalize hW : World.alloc _ _ = wn at h ⊢
              generalize wc.heap.size = b14 at h ⊢
              clear hW
              obtain ⟨wc, rfl⟩ : ∃ x, x = wn := ⟨_, rfl⟩
              refine wpAnyB_bar [false, false, false, false, false, false, false, true] (fuel := 2) (by rfl) (by rfl) (by kernel_rfl) (fun QB hQB hQX => ?_)
              simp only [maskL]
              go_wp2_with fail
              refine (en_step3 w _ _ a _ (0 : Nat) ck (h.pk4 [3, 0, 1, 2])).mono ?_
              rintro e wn ⟨rfl, h'⟩
              have h2 : Hold w wn (prA gp m r * (feA f 0 1 true ck 1 * (memA m C * (enA a (0 : Nat) (3 : Nat) ck * (_))))) := Hold.pk4 h' [1, 2, 3, 0]
              clear h h'
              have h := h2
              clear h2
              obtain ⟨wc, rfl⟩ : ∃ x, x = wn := ⟨_, rfl⟩
              unfold acc0
              go_wp2_with fail
              refine hQB.out _ _ ⟨_, h⟩ ?_
              clear hQB hQX QB
              refine wpAnyB_bar [false, false, false, false, false, false, false, false, false, false, true] (fuel := 1) (by rfl) (by rfl) (by kernel_rfl) (fun QB hQB hQX => ?_)
              simp only [maskL]
              have hn : Hold w wc (blkA 50 b13 #[.int .i64 0, .int .i64 0, .int .i64 0, .int .u64 0, .int .u64 0, .bool false] * (prA gp m r * (feA f 0 1 true ck 1 * (memA m C * (enA a (0 : Nat) (3 : Nat) ck * (blkA 50 b14 #[.int .i64 0, .int .i64 0, .int .i64 0, .int .u64 0, .int .u64 0, .bool false] * R0)))))) := by first | exact Hold.pk6 h [4, 0, 1, 2, 3, 5] | exact Hold.pk6 h [5, 0, 1, 2, 3, 4]
              obtain ⟨⟨x0, x1, x2, x3, x4, x5⟩, z0, z1, z2, z3, z4, z5⟩ := blk_acc hn.blk
              have H2 := hid (Hold.pk6 (hn.setAcc (.int .i64 0) (.int .i64 0) (.int .i64 0) (.int .u64 0) (.int .u64 0) (.bool false)) [1, 2, 3, 4, 0, 5])
              clear h hn
              go_wp2_with fail
              refine hQB.out _ _ ⟨_, H2.out⟩ ?_
              clear hQB hQX QB
              have h : Hold w _ (prA gp m r * (feA f 0 1 true ck 1 * (memA m C * (enA a (0 : Nat) (3 : Nat) ck * (blkA 50 b13 #[.int .i64 0, .int .i64 0, .int .i64 0, .int .u64 0, .int .u64 0, .bool false] * (blkA 50 b14 #[.int .i64 0, .int .i64 0, .int .i64 0, .int .u64 0, .int .u64 0, .bool false] * R0)))))) := H2.out
              clear H2 x0 x1 x2 x3 x4 x5 z0 z1 z2 z3 z4 z5
              generalize hW : World.setCell _ _ _ = wn at h ⊢
              clear hW
              obtain ⟨wc, rfl⟩ : ∃ x, x = wn := ⟨_, rfl⟩
              refine wpAnyB_bar [false, false, false, false, false, false, false, false, false, false, false, true] (fuel := 0) (by rfl) (by rfl) (by kernel_rfl) (fun QB hQB hQX => ?_)
              simp only [maskL]
              have hn : Hold w wc (blkA 50 b14 #[.int .i64 0, .int .i64 0, .int .i64 0, .int .u64 0, .int .u64 0, .bool false] * (prA gp m r * (feA f 0 1 true ck 1 * (memA m C * (enA a (0 : Nat) (3 : Nat) ck * (blkA 50 b13 #[.int .i64 0, .int .i64 0, .int .i64 0, .int .u64 0, .int .u64 0, .bool false] * R0)))))) := Hold.pk6 h [5, 0, 1, 2, 3, 4]
              obtain ⟨⟨x0, x1, x2, x3, x4, x5⟩, z0, z1, z2, z3, z4, z5⟩ := blk_acc hn.blk
              have H2 := hid (Hold.pk6 (hn.setAcc (.int .i64 0) (.int .i64 0) (.int .i64 0) (.int .u64 0) (.int .u64 0) (.bool false)) [1, 2, 3, 4, 5, 0])
              clear h hn
              go_wp2_with fail
              refine hQB.out _ _ ⟨_, H2.out⟩ ?_
              clear hQB hQX QB
              have h : Hold w _ (prA gp m r * (feA f 0 1 true ck 1 * (memA m C * (enA a (0 : Nat) (3 : Nat) ck * (blkA 50 b13 #[.int .i64 0, .int .i64 0, .int .i64 0, .int .u64 0, .int .u64 0, .bool false] * (blkA 50 b14 #[.int .i64 0, .int .i64 0, .int .i64 0, .int .u64 0, .int .u64 0, .bool false] * R0)))))) := H2.out
              clear H2 x0 x1 x2 x3 x4 x5 z0 z1 z2 z3 z4 z5
              refine wpAnyB_done (by kernel_rfl) ?_ _
              -- END
              have H3 := hid h
              clear h
              go_wp2_with fail
              go_meet
              exact ⟨rfl, rfl, rfl, rfl, rfl, b13, b14, rfl, rfl, H3.out⟩
          · simp only [maskL]
            have H2 := hid ((Hold.newBlk (t := 50) (cs := #[.int .i64 0, .int .i64 0, .int .i64 0, .int .u64 0, .int .u64 0, .bool false]) h).pk5 [1, 2, 3, 4, 0])
            clear h
            go_wp2_with fail
            refine hQB.out _ _ ⟨_, H2.out⟩ ?_
            clear hQB hQX QB
            have h : Hold w _ (prA gp m r * (feA f 0 1 true ck 1 * (memA m C * (enA a (0 : Nat) (3 : Nat) ck * (_))))) := H2.out
            clear H2
            generalize hW : World.alloc _ _ = wn at h ⊢
            generalize wc.heap.size = b14 at h ⊢
            clear hW
            obtain ⟨wc, rfl⟩ : ∃ x, x = wn := ⟨_, rfl⟩
            refine wpAnyB_bar [false, false, false, true] (fuel := 3) (by rfl) (by rfl) (by kernel_rfl) (fun QB hQB hQX => ?_)
            simp only [maskL]
            go_wp2_with fail
            refine (fe_step_done w _ _ f _ 0 1 ck 1 (h.pk2 [1, 0]) (by decide)).mono ?_
            rintro e wn ⟨rfl, h'⟩
            have h2 : Hold w wn (prA gp m r * (feA f 0 1 true ck 1 * (memA m C * (enA a (0 : Nat) (3 : Nat) ck * (_))))) := Hold.pk2 h' [1, 0]
            clear h h'
            have h := h2
            clear h2
            obtain ⟨wc, rfl⟩ : ∃ x, x = wn := ⟨_, rfl⟩
            unfold acc0
            go_wp2_with fail
            refine hQB.out _ _ ⟨_, h⟩ ?_
            clear hQB hQX QB
            refine wpAnyB_bar [false, false, false, false, false, false, false, true] (fuel := 2) (by rfl) (by rfl) (by kernel_rfl) (fun QB hQB hQX => ?_)
            simp only [maskL]
            go_wp2_with fail
            refine (en_step3 w _ _ a _ (0 : Nat) ck (h.pk4 [3, 0, 1, 2])).mono ?_
            rintro e wn ⟨rfl, h'⟩
            have h2 : Hold w wn (prA gp m r * (feA f 0 1 true ck 1 * (memA m C * (enA a (0 : Nat) (3 : Nat) ck * (_))))) := Hold.pk4 h' [1, 2, 3, 0]
            clear h h'
            have h := h2
            clear h2
            obtain ⟨wc, rfl⟩ : ∃ x, x = wn := ⟨_, rfl⟩
            unfold acc0
            go_wp2_with fail
            refine hQB.out _ _ ⟨_, h⟩ ?_
            clear hQB hQX QB
            refine wpAnyB_bar [false, false, false, false, false, false, false, false, false, false, true] (fuel := 1) (by rfl) (by rfl) (by kernel_rfl) (fun QB hQB hQX => ?_)
            simp only [maskL]
            have hn : Hold w wc (blkA 50 b13 #[.int .i64 0, .int .i64 0, .int .i64 0, .int .u64 0, .int .u64 0, .bool false] * (prA gp m r * (feA f 0 1 true ck 1 * (memA m C * (enA a (0 : Nat) (3 : Nat) ck * (blkA 50 b14 #[.int .i64 0, .int .i64 0, .int .i64 0, .int .u64 0, .int .u64 0, .bool false] * R0)))))) := by first | exact Hold.pk6 h [4, 0, 1, 2, 3, 5] | exact Hold.pk6 h [5, 0, 1, 2, 3, 4]
            obtain ⟨⟨x0, x1, x2, x3, x4, x5⟩, z0, z1, z2, z3, z4, z5⟩ := blk_acc hn.blk
            have H2 := hid (Hold.pk6 (hn.setAcc (.int .i64 0) (.int .i64 0) (.int .i64 0) (.int .u64 0) (.int .u64 0) (.bool false)) [1, 2, 3, 4, 0, 5])
            clear h hn
            go_wp2_with fail
            refine hQB.out _ _ ⟨_, H2.out⟩ ?_
            clear hQB hQX QB
            have h : Hold w _ (prA gp m r * (feA f 0 1 true ck 1 * (memA m C * (enA a (0 : Nat) (3 : Nat) ck * (blkA 50 b13 #[.int .i64 0, .int .i64 0, .int .i64 0, .int .u64 0, .int .u64 0, .bool false] * (blkA 50 b14 #[.int .i64 0, .int .i64 0, .int .i64 0, .int .u64 0, .int .u64 0, .bool false] * R0)))))) := H2.out
            clear H2 x0 x1 x2 x3 x4 x5 z0 z1 z2 z3 z4 z5
            generalize hW : World.setCell _ _ _ = wn at h ⊢
            clear hW
            obtain ⟨wc, rfl⟩ : ∃ x, x = wn := ⟨_, rfl⟩
            refine wpAnyB_bar [false, false, false, false, false, false, false, false, false, false, false, true] (fuel := 0) (by rfl) (by rfl) (by kernel_rfl) (fun QB hQB hQX => ?_)
            simp only [maskL]
            have hn : Hold w wc (blkA 50 b14 #[.int .i64 0, .int .i64 0, .int .i64 0, .int .u64 0, .int .u64 0, .bool false] * (prA gp m r * (feA f 0 1 true ck 1 * (memA m C * (enA a (0 : Nat) (3 : Nat) ck * (blkA 50 b13 #[.int .i64 0, .int .i64 0, .int .i64 0, .int .u64 0, .int .u64 0, .bool false] * R0)))))) := Hold.pk6 h [5, 0, 1, 2, 3, 4]
            obtain ⟨⟨x0, x1, x2, x3, x4, x5⟩, z0, z1, z2, z3, z4, z5⟩ := blk_acc hn.blk
            have H2 := hid (Hold.pk6 (hn.setAcc (.int .i64 0) (.int .i64 0) (.int .i64 0) (.int .u64 0) (.int .u64 0) (.bool false)) [1, 2, 3, 4, 5, 0])
            clear h hn
            go_wp2_with fail
            refine hQB.out _ _ ⟨_, H2.out⟩ ?_
            clear hQB hQX QB
            have h : Hold w _ (prA gp m r * (feA f 0 1 true ck 1 * (memA m C * (enA a (0 : Nat) (3 : Nat) ck * (blkA 50 b13 #[.int .i64 0, .int .i64 0, .int .i64 0, .int .u64 0, .int .u64 0, .bool false] * (blkA 50 b14 #[.int .i64 0, .int .i64 0, .int .i64 0, .int .u64 0, .int .u64 0, .bool false] * R0)))))) := H2.out
            clear H2 x0 x1 x2 x3 x4 x5 z0 z1 z2 z3 z4 z5
            refine wpAnyB_done (by kernel_rfl) ?_ _
            -- END
            have H3 := hid h
            clear h
            go_wp2_with fail
            go_meet
            exact ⟨rfl, rfl, rfl, rfl, rfl, b13, b14, rfl, rfl, H3.out⟩
        · simp only [maskL]
          have H2 := hid ((Hold.newBlk (t := 50) (cs := #[.int .i64 0, .int .i64 0, .int .i64 0, .int .u64 0, .int .u64 0, .bool false]) h).pk5 [1, 2, 3, 4, 0])
          clear h
          go_wp2_with fail
          refine hQB.out _ _ ⟨_, H2.out⟩ ?_
          clear hQB hQX QB
          have h : Hold w _ (prA gp m r * (feA f 0 1 true ck 1 * (memA m C * (enA a (0 : Nat) (3 : Nat) ck * (_))))) := H2.out
          clear H2
          generalize hW : World.alloc _ _ = wn at h ⊢
          generalize wc.heap.size = b14 at h ⊢
          clear hW
          obtain ⟨wc, rfl⟩ : ∃ x, x = wn := ⟨_, rfl⟩
          refine wpAnyB_two [false, false, false, true] [false, false, false, false, false, false, false, false, true] (fuel := 4) (by rfl) (by rfl) (by rfl) (by rfl) (by kernel_rfl) (fun QB hQB hQX => ?_) (fun QB hQB hQX => ?_)
          · simp only [maskL]
            go_wp2_with fail
            refine (fe_step_done w _ _ f _ 0 1 ck 1 (h.pk2 [1, 0]) (by decide)).mono ?_
            rintro e wn ⟨rfl, h'⟩
            have h2 : Hold w wn (prA gp m r * (feA f 0 1 true ck 1 * (memA m C * (enA a (0 : Nat) (3 : Nat) ck * (_))))) := Hold.pk2 h' [1, 0]
            clear h h'
            have h := h2
            clear h2
            obtain ⟨wc, rfl⟩ : ∃ x, x = wn := ⟨_, rfl⟩
            unfold acc0
            go_wp2_with fail
            refine hQB.out _ _ ⟨_, h⟩ ?_
            clear hQB hQX QB
            refine wpAnyB_two [false, false, false, false, false, false, false, true] [false, false, false, false, false, false, false, false, true] (fuel := 3) (by rfl) (by rfl) (by rfl) (by rfl) (by kernel_rfl) (fun QB hQB hQX => ?_) (fun QB hQB hQX => ?_)
            · simp only [maskL]
              go_wp2_with fail
              refine (en_step3 w _ _ a _ (0 : Nat) ck (h.pk4 [3, 0, 1, 2])).mono ?_
              rintro e wn ⟨rfl, h'⟩
              have h2 : Hold w wn (prA gp m r * (feA f 0 1 true ck 1 * (memA m C * (enA a (0 : Nat) (3 : Nat) ck * (_))))) := Hold.pk4 h' [1, 2, 3, 0]
              clear h h'
              have h := h2
              clear h2
              obtain ⟨wc, rfl⟩ : ∃ x, x = wn := ⟨_, rfl⟩
              unfold acc0
              go_wp2_with fail
              refine hQB.out _ _ ⟨_, h⟩ ?_
              clear hQB hQX QB
              refine wpAnyB_bar [false, false, false, false, false, false, false, false, true] (fuel := 2) (by rfl) (by rfl) (by kernel_rfl) (fun QB hQB hQX => ?_)
              simp only [maskL]
              have H2 := hid ((Hold.newBlk (t := 50) (cs := #[.int .i64 0, .int .i64 0, .int .i64 0, .int .u64 0, .int .u64 0, .bool false]) h).pk5 [1, 2, 3, 4, 0])
              clear h
              go_wp2_with fail
              refine hQB.out _ _ ⟨_, H2.out⟩ ?_
              clear hQB hQX QB
              have h : Hold w _ (prA gp m r * (feA f 0 1 true ck 1 * (memA m C * (enA a (0 : Nat) (3 : Nat) ck * (_))))) := H2.out
              clear H2
              generalize hW : World.alloc _ _ = wn at h ⊢
              generalize wc.heap.size = b13 at h ⊢
              clear hW
              obtain ⟨wc, rfl⟩ : ∃ x, x = wn := ⟨_, rfl⟩
              refine wpAnyB_bar [false, false, false, false, false, false, false, false, false, false, true] (fuel := 1) (by rfl) (by rfl) (by kernel_rfl) (fun QB hQB hQX => ?_)
              simp only [maskL]
              have hn : Hold w wc (blkA 50 b13 #[.int .i64 0, .int .i64 0, .int .i64 0, .int .u64 0, .int .u64 0, .bool false] * (prA gp m r * (feA f 0 1 true ck 1 * (memA m C * (enA a (0 : Nat) (3 : Nat) ck * (blkA 50 b14 #[.int .i64 0, .int .i64 0, .int .i64 0, .int .u64 0, .int .u64 0, .bool false] * R0)))))) := by first | exact Hold.pk6 h [4, 0, 1, 2, 3, 5] | exact Hold.pk6 h [5, 0, 1, 2, 3, 4]
              obtain ⟨⟨x0, x1, x2, x3, x4, x5⟩, z0, z1, z2, z3, z4, z5⟩ := blk_acc hn.blk
              have H2 := hid (Hold.pk6 (hn.setAcc (.int .i64 0) (.int .i64 0) (.int .i64 0) (.int .u64 0) (.int .u64 0) (.bool false)) [1, 2, 3, 4, 0, 5])
              clear h hn
              go_wp2_with fail
              refine hQB.out _ _ ⟨_, H2.out⟩ ?_
              clear hQB hQX QB
              have h : Hold w _ (prA gp m r * (feA f 0 1 true ck 1 * (memA m C * (enA a (0 : Nat) (3 : Nat) ck * (blkA 50 b13 #[.int .i64 0, .int .i64 0, .int .i64 0, .int .u64 0, .int .u64 0, .bool false] * (blkA 50 b14 #[.int .i64 0, .int .i64 0, .int .i64 0, .int .u64 0, .int .u64 0, .bool false] * R0)))))) := H2.out
              clear H2 x0 x1 x2 x3 x4 x5 z0 z1 z2 z3 z4 z5
              generalize hW : World.setCell _ _ _ = wn at h ⊢
              clear hW
              obtain ⟨wc, rfl⟩ : ∃ x, x = wn := ⟨_, rfl⟩
              refine wpAnyB_bar [false, false, false, false, false, false, false, false, false, false, false, true] (fuel := 0) (by rfl) (by rfl) (by kernel_rfl) (fun QB hQB hQX => ?_)
              simp only [maskL]
              have hn : Hold w wc (blkA 50 b14 #[.int .i64 0, .int .i64 0, .int .i64 0, .int .u64 0, .int .u64 0, .bool false] * (prA gp m r * (feA f 0 1 true ck 1 * (memA m C * (enA a (0 : Nat) (3 : Nat) ck * (blkA 50 b13 #[.int .i64 0, .int .i64 0, .int .i64 0, .int .u64 0, .int .u64 0, .bool false] * R0)))))) := Hold.pk6 h [5, 0, 1, 2, 3, 4]
              obtain ⟨⟨x0, x1, x2, x3, x4, x5⟩, z0, z1, z2, z3, z4, z5⟩ := blk_acc hn.blk
              have H2 := hid (Hold.pk6 (hn.setAcc (.int .i64 0) (.int .i64 0) (.int .i64 0) (.int .u64 0) (.int .u64 0) (.bool false)) [1, 2, 3, 4, 5, 0])
              clear h hn
              go_wp2_with fail
              refine hQB.out _ _ ⟨_, H2.out⟩ ?_
              clear hQB hQX QB
              have h : Hold w _ (prA gp m r * (feA f 0 1 true ck 1 * (memA m C * (enA a (0 : Nat) (3 : Nat) ck * (blkA 50 b13 #[.int .i64 0, .int .i64 0, .int .i64 0, .int .u64 0, .int .u64 0, .bool false] * (blkA 50 b14 #[.int .i64 0, .int .i64 0, .int .i64 0, .int .u64 0, .int .u64 0, .bool false] * R0)))))) := H2.out
              clear H2 x0 x1 x2 x3 x4 x5 z0 z1 z2 z3 z4 z5
              refine wpAnyB_done (by kernel_rfl) ?_ _
              -- END
              have H3 := hid h
              clear h
              go_wp2_with fail
              go_meet
              exact ⟨rfl, rfl, rfl, rfl, rfl, b13, b14, rfl, rfl, H3.out⟩
            · simp only [maskL]
              have H2 := hid ((Hold.newBlk (t := 50) (cs := #[.int .i64 0, .int .i64 0, .int .i64 0, .int .u64 0, .int .u64 0, .bool false]) h).pk5 [1, 2, 3, 4, 0])
              clear h
              go_wp2_with fail
              refine hQB.out _ _ ⟨_, H2.out⟩ ?_
              clear hQB hQX QB
              have h : Hold w _ (prA gp m r * (feA f 0 1 true ck 1 * (memA m C * (enA a (0 : Nat) (3 : Nat) ck * (_))))) := H2.out
              clear H2
              generalize hW : World.alloc _ _ = wn at h ⊢
              generalize wc.heap.size = b13 at h ⊢
              clear hW
              obtain ⟨wc, rfl⟩ : ∃ x, x = wn := ⟨_, rfl⟩
              refine wpAnyB_bar [false, false, false, false, false, false, false, true] (fuel := 2) (by rfl) (by rfl) (by kernel_rfl) (fun QB hQB hQX => ?_)
              simp only [maskL]
              go_wp2_with fail
              refine (en_step3 w _ _ a _ (0 : Nat) ck (h.pk4 [3, 0, 1, 2])).mono ?_
              rintro e wn ⟨rfl, h'⟩
              have h2 : Hold w wn (prA gp m r * (feA f 0 1 true ck 1 * (memA m C * (enA a (0 : Nat) (3 : Nat) ck * (_))))) := Hold.pk4 h' [1, 2, 3, 0]
              clear h h'
              have h := h2
              clear h2
              obtain ⟨wc, rfl⟩ : ∃ x, x = wn := ⟨_, rfl⟩
              unfold acc0
              go_wp2_with fail
              refine hQB.out _ _ ⟨_, h⟩ ?_
              clear hQB hQX QB
              refine wpAnyB_bar [false, false, false, false, false, false, false, false, false, false, true] (fuel := 1) (by rfl) (by rfl) (by kernel_rfl) (fun QB hQB hQX => ?_)
              simp only [maskL]
              have hn : Hold w wc (blkA 50 b13 #[.int .i64 0, .int .i64 0, .int .i64 0, .int .u64 0, .int .u64 0, .bool false] * (prA gp m r * (feA f 0 1 true ck 1 * (memA m C * (enA a (0 : Nat) (3 : Nat) ck * (blkA 50 b14 #[.int .i64 0, .int .i64 0, .int .i64 0, .int .u64 0, .int .u64 0, .bool false] * R0)))))) := by first | exact Hold.pk6 h [4, 0, 1, 2, 3, 5] | exact Hold.pk6 h [5, 0, 1, 2, 3, 4]
              obtain ⟨⟨x0, x1, x2, x3, x4, x5⟩, z0, z1, z2, z3, z4, z5⟩ := blk_acc hn.blk
              have H2 := hid (Hold.pk6 (hn.setAcc (.int .i64 0) (.int .i64 0) (.int .i64 0) (.int .u64 0) (.int .u64 0) (.bool false)) [1, 2, 3, 4, 0, 5])
              clear h hn
              go_wp2_with fail
              refine hQB.out _ _ ⟨_, H2.out⟩ ?_
              clear hQB hQX QB
              have h : Hold w _ (prA gp m r * (feA f 0 1 true ck 1 * (memA m C * (enA a (0 : Nat) (3 : Nat) ck * (blkA 50 b13 #[.int .i64 0, .int .i64 0, .int .i64 0, .int .u64 0, .int .u64 0, .bool false] * (blkA 50 b14 #[.int .i64 0, .int .i64 0, .int .i64 0, .int .u64 0, .int .u64 0, .bool false] * R0)))))) := H2.out
              clear H2 x0 x1 x2 x3 x4 x5 z0 z1 z2 z3 z4 z5
              generalize hW : World.setCell _ _ _ = wn at h ⊢
              clear hW
              obtain ⟨wc, rfl⟩ : ∃ x, x = wn := ⟨_, rfl⟩
              refine wpAnyB_bar [false, false, false, false, false, false, false, false, false, false, false, true] (fuel := 0) (by rfl) (by rfl) (by kernel_rfl) (fun QB hQB hQX => ?_)
              simp only [maskL]
              have hn : Hold w wc (blkA 50 b14 #[.int .i64 0, .int .i64 0, .int .i64 0, .int .u64 0, .int .u64 0, .bool false] * (prA gp m r * (feA f 0 1 true ck 1 * (memA m C * (enA a (0 : Nat) (3 : Nat) ck * (blkA 50 b13 #[.int .i64 0, .int .i64 0, .int .i64 0, .int .u64 0, .int .u64 0, .bool false] * R0)))))) := Hold.pk6 h [5, 0, 1, 2, 3, 4]
              obtain ⟨⟨x0, x1, x2, x3, x4, x5⟩, z0, z1, z2, z3, z4, z5⟩ := blk_acc hn.blk
              have H2 := hid (Hold.pk6 (hn.setAcc (.int .i64 0) (.int .i64 0) (.int .i64 0) (.int .u64 0) (.int .u64 0) (.bool false)) [1, 2, 3, 4, 5, 0])
              clear h hn
              go_wp2_with fail
              refine hQB.out _ _ ⟨_, H2.out⟩ ?_
              clear hQB hQX QB
              have h : Hold w _ (prA gp m r * (feA f 0 1 true ck 1 * (memA m C * (enA a (0 : Nat) (3 : Nat) ck * (blkA 50 b13 #[.int .i64 0, .int .i64 0, .int .i64 0, .int .u64 0, .int .u64 0, .bool false] * (blkA 50 b14 #[.int .i64 0, .int .i64 0, .int .i64 0, .int .u64 0, .int .u64 0, .bool false] * R0)))))) := H2.out
              clear H2 x0 x1 x2 x3 x4 x5 z0 z1 z2 z3 z4 z5
              refine wpAnyB_done (by kernel_rfl) ?_ _
              -- END
              have H3 := hid h
              clear h
              go_wp2_with fail
              go_meet
              exact ⟨rfl, rfl, rfl, rfl, rfl, b13, b14, rfl, rfl, H3.out⟩
          · simp only [maskL]
            have H2 := hid ((Hold.newBlk (t := 50) (cs := #[.int .i64 0, .int .i64 0, .int .i64 0, .int .u64 0, .int .u64 0, .bool false]) h).pk5 [1, 2, 3, 4, 0])
            clear h
            go_wp2_with fail
            refine hQB.out _ _ ⟨_, H2.out⟩ ?_
            clear hQB hQX QB
            have h : Hold w _ (prA gp m r * (feA f 0 1 true ck 1 * (memA m C * (enA a (0 : Nat) (3 : Nat) ck * (_))))) := H2.out
            clear H2
            generalize hW : World.alloc _ _ = wn at h ⊢
            generalize wc.heap.size = b13 at h ⊢
            clear hW
            obtain ⟨wc, rfl⟩ : ∃ x, x = wn := ⟨_, rfl⟩
            refine wpAnyB_bar [false, false, false, true] (fuel := 3) (by rfl) (by rfl) (by kernel_rfl) (fun QB hQB hQX => ?_)
            simp only [maskL]
            go_wp2_with fail
            refine (fe_step_done w _ _ f _ 0 1 ck 1 (h.pk2 [1, 0]) (by decide)).mono ?_
            rintro e wn ⟨rfl, h'⟩
            have h2 : Hold w wn (prA gp m r * (feA f 0 1 true ck 1 * (memA m C * (enA a (0 : Nat) (3 : Nat) ck * (_))))) := Hold.pk2 h' [1, 0]
            clear h h'
            have h := h2
            clear h2
            obtain ⟨wc, rfl⟩ : ∃ x, x = wn := ⟨_, rfl⟩
            unfold acc0
            go_wp2_with fail
            refine hQB.out _ _ ⟨_, h⟩ ?_
            clear hQB hQX QB
            refine wpAnyB_bar [false, false, false, false, false, false, false, true] (fuel := 2) (by rfl) (by rfl) (by kernel_rfl) (fun QB hQB hQX => ?_)
            simp only [maskL]
            go_wp2_with fail
            refine (en_step3 w _ _ a _ (0 : Nat) ck (h.pk4 [3, 0, 1, 2])).mono ?_
            rintro e wn ⟨rfl, h'⟩
            have h2 : Hold w wn (prA gp m r * (feA f 0 1 true ck 1 * (memA m C * (enA a (0 : Nat) (3 : Nat) ck * (_))))) := Hold.pk4 h' [1, 2, 3, 0]
            clear h h'
            have h := h2
            clear h2
            obtain ⟨wc, rfl⟩ : ∃ x, x = wn := ⟨_, rfl⟩
            unfold acc0
            go_wp2_with fail
            refine hQB.out _ _ ⟨_, h⟩ ?_
            clear hQB hQX QB
            refine wpAnyB_bar [false, false, false, false, false, false, false, false, false, false, true] (fuel := 1) (by rfl) (by rfl) (by kernel_rfl) (fun QB hQB hQX => ?_)
            simp only [maskL]
            have hn : Hold w wc (blkA 50 b13 #[.int .i64 0, .int .i64 0, .int .i64 0, .int .u64 0, .int .u64 0, .bool false] * (prA gp m r * (feA f 0 1 true ck 1 * (memA m C * (enA a (0 : Nat) (3 : Nat) ck * (blkA 50 b14 #[.int .i64 0, .int .i64 0, .int .i64 0, .int .u64 0, .int .u64 0, .bool false] * R0)))))) := by first | exact Hold.pk6 h [4, 0, 1, 2, 3, 5] | exact Hold.pk6 h [5, 0, 1, 2, 3, 4]
            obtain ⟨⟨x0, x1, x2, x3, x4, x5⟩, z0, z1, z2, z3, z4, z5⟩ := blk_acc hn.blk
            have H2 := hid (Hold.pk6 (hn.setAcc (.int .i64 0) (.int .i64 0) (.int .i64 0) (.int .u64 0) (.int .u64 0) (.bool false)) [1, 2, 3, 4, 0, 5])
            clear h hn
            go_wp2_with fail
            refine hQB.out _ _ ⟨_, H2.out⟩ ?_
            clear hQB hQX QB
            have h : Hold w _ (prA gp m r * (feA f 0 1 true ck 1 * (memA m C * (enA a (0 : Nat) (3 : Nat) ck * (blkA 50 b13 #[.int .i64 0, .int .i64 0, .int .i64 0, .int .u64 0, .int .u64 0, .bool false] * (blkA 50 b14 #[.int .i64 0, .int .i64 0, .int .i64 0, .int .u64 0, .int .u64 0, .bool false] * R0)))))) := H2.out
            clear H2 x0 x1 x2 x3 x4 x5 z0 z1 z2 z3 z4 z5
            generalize hW : World.setCell _ _ _ = wn at h ⊢
            clear hW
            obtain ⟨wc, rfl⟩ : ∃ x, x = wn := ⟨_, rfl⟩
            refine wpAnyB_bar [false, false, false, false, false, false, false, false, false, false, false, true] (fuel := 0) (by rfl) (by rfl) (by kernel_rfl) (fun QB hQB hQX => ?_)
            simp only [maskL]
            have hn : Hold w wc (blkA 50 b14 #[.int .i64 0, .int .i64 0, .int .i64 0, .int .u64 0, .int .u64 0, .bool false] * (prA gp m r * (feA f 0 1 true ck 1 * (memA m C * (enA a (0 : Nat) (3 : Nat) ck * (blkA 50 b13 #[.int .i64 0, .int .i64 0, .int .i64 0, .int .u64 0, .int .u64 0, .bool false] * R0)))))) := Hold.pk6 h [5, 0, 1, 2, 3, 4]
            obtain ⟨⟨x0, x1, x2, x3, x4, x5⟩, z0, z1, z2, z3, z4, z5⟩ := blk_acc hn.blk
            have H2 := hid (Hold.pk6 (hn.setAcc (.int .i64 0) (.int .i64 0) (.int .i64 0) (.int .u64 0) (.int .u64 0) (.bool false)) [1, 2, 3, 4, 5, 0])
            clear h hn
            go_wp2_with fail
            refine hQB.out _ _ ⟨_, H2.out⟩ ?_
            clear hQB hQX QB
            have h : Hold w _ (prA gp m r * (feA f 0 1 true ck 1 * (memA m C * (enA a (0 : Nat) (3 : Nat) ck * (blkA 50 b13 #[.int .i64 0, .int .i64 0, .int .i64 0, .int .u64 0, .int .u64 0, .bool false] * (blkA 50 b14 #[.int .i64 0, .int .i64 0, .int .i64 0, .int .u64 0, .int .u64 0, .bool false] * R0)))))) := H2.out
            clear H2 x0 x1 x2 x3 x4 x5 z0 z1 z2 z3 z4 z5
            refine wpAnyB_done (by kernel_rfl) ?_ _
            -- END
            have H3 := hid h
            clear h
            go_wp2_with fail
            go_meet
            exact ⟨rfl, rfl, rfl, rfl, rfl, b13, b14, rfl, rfl, H3.out⟩
      case rest =>
      clear h
      obtain ⟨rfl, rfl, rfl, rfl, rfl, b13, b14, rfl, rfl, h⟩ := hcut
      rw [HR0.out] at h
      have h2 : Hold w _ (feA f 0 1 true ck 1 * (memA m C * (enA a (0 : Nat) (3 : Nat) ck * (prA gp m r * (blkA 50 b13 #[.int .i64 0, .int .i64 0, .int .i64 0, .int .u64 0, .int .u64 0, .bool false] * (blkA 50 b14 #[.int .i64 0, .int .i64 0, .int .i64 0, .int .u64 0, .int .u64 0, .bool false] * (blkA 50 gx #[.int .i64 1, .int .i64 3, .int .i64 0, .int .u64 ck, .int .u64 ck, .bool true] * (blkA 61 gi #[slV C y 1, slV C y 2, .int .u64 (w1 C 3), .int .u64 (w1 C 4), .int .u64 (w1 C 5), slV C y 6, slV C y 7, slV C y 8] * (sepR (refL C y) Asr.emp * Asr.emp))))))))) := Hold.pk9 h [1, 2, 3, 0, 4, 5, 6, 7, 8]
      clear h
      have h := h2.drew
      clear h2
      have e5 : (ck == ck) = true := by simp
      go_upto_region 15 with fail
      refine wp_region_brk [] (by kernel_rfl) ?_
      refine wpAnyB_now (fun w' => ∃ Z, Hold w w' (prA gp m r * (blkA 50 b13 #[.int .i64 0, .int .i64 0, .int .i64 0, .int .u64 0, .int .u64 0, .bool false] * (blkA 50 b14 #[.int .i64 0, .int .i64 0, .int .i64 0, .int .u64 0, .int .u64 0, .bool false] * (blkA 50 gx #[.int .i64 1, .int .i64 3, .int .i64 0, .int .u64 ck, .int .u64 ck, .bool true] * (blkA 61 gi #[slV C y 1, slV C y 2, .int .u64 (w1 C 3), .int .u64 (w1 C 4), .int .u64 (w1 C 5), slV C y 6, slV C y 7, slV C y 8] * Z)))))) (fun _ _ => trivial) _ _ _ _ ?_
      refine' wpAnyB_bulk [true] 108 (listed' := #[true, false, false, false, false, false, false, false, false, false, false, false, false, false, false, false, false, false, false, false, false, false, false, false, false, false, false, false, false, false, false, false, false, false]) rfl (by kernel_rfl) (by kernel_rfl) (by kernel_rfl) (by kernel_rfl) (by kernel_rfl) (by kernel_rfl) (by decide) (fun _ _ _ _ h => h) rfl ⟨_, Hold.pk9 h [3, 4, 5, 6, 7, 0, 1, 2, 8]⟩ (fun wq hq => ?_) ?_; rotate_left 1
      · simp only [maskL]
        repeat (go_big_quiet_step (fail))
        exact wpQuiet_nil rfl
      refine wpAnyB_bar [false, true] (fuel := 32) (by rfl) (by rfl) (by kernel_rfl) (fun QB hQB hQX => ?_)
      simp only [maskL]
      go_wp2_with fail
      refine (fe_done w _ _ f 0 1 true ck 1 h).mono ?_
      rintro e w2 ⟨rfl, h2⟩
      rw [show (true && decide ((1 : Int) ≤ 1)) = true from rfl]
      clear h
      go_wp2_with fail
      refine hQB.out _ _ ⟨_, Hold.pk9 h2 [3, 4, 5, 6, 7, 0, 1, 2, 8]⟩ ?_
      clear hQB hQX QB
      refine' wpAnyB_bulk [false, false, true, true, true, true, true, true, true, true, true, true, true, true, true, true, true, true, true, true, true, true, true, true, true, true, true] 108 (listed' := #[true, true, true, true, true, true, true, true, true, true, true, true, true, true, true, true, true, true, true, true, true, true, true, true, true, true, true, false, false, false, false, false, false, false]) rfl (by kernel_rfl) (by kernel_rfl) (by kernel_rfl) (by kernel_rfl) (by kernel_rfl) (by kernel_rfl) (by decide) (fun _ _ _ _ h => h) rfl ⟨_, Hold.pk9 h2 [3, 4, 5, 6, 7, 0, 1, 2, 8]⟩ (fun wq hq => ?_) ?_; rotate_left 1
      · simp only [maskL]
        obtain ⟨Z, hq⟩ := hq
        have q0 := hq.blk.some_ (i := 0) rfl
        obtain ⟨⟨x0, x1, x2, x3, x4, x5⟩, _⟩ := blk_acc hq.drop.blk
        obtain ⟨⟨y0, y1, y2, y3, y4, y5⟩, _⟩ := blk_acc hq.drop.drop.blk
        have u0 := hq.drop.drop.drop.blk.some_ (i := 0) rfl
        have u3 := hq.drop.drop.drop.blk.some_ (i := 3) rfl
        have g0 := hq.drop.drop.drop.drop.blk.some_ (i := 0) rfl
        have g1 := hq.drop.drop.drop.drop.blk.some_ (i := 1) rfl
        have g2 := hq.drop.drop.drop.drop.blk.some_ (i := 2) rfl
        have g3 := hq.drop.drop.drop.drop.blk.some_ (i := 3) rfl
        have g4 := hq.drop.drop.drop.drop.blk.some_ (i := 4) rfl
        have g5 := hq.drop.drop.drop.drop.blk.some_ (i := 5) rfl
        have g6 := hq.drop.drop.drop.drop.blk.some_ (i := 6) rfl
        have g7 := hq.drop.drop.drop.drop.blk.some_ (i := 7) rfl
        repeat (go_big_quiet_step (fail))
        exact wpQuiet_nil rfl
      refine wpAnyB_bar [false, false, false, false, false, false, false, false, false, false, false, false, false, false, false, false, false, false, false, false, false, false, false, false, false, false, false, true] (fuel := 6) (by rfl) (by rfl) (by kernel_rfl) (fun QB hQB hQX => ?_)
      simp only [maskL]
      go_wp2_with fail
      refine (image_any w _ _ m C (Hold.pk9 h2 [1, 0, 2, 3, 4, 5, 6, 7, 8]) HK.out).mono ?_
      rintro e w3 ⟨y2, rfl, h3⟩
      clear h2
      go_wp2_with fail
      refine hQB.out _ _ ⟨_, Hold.pk9 h3.rest [3, 4, 5, 6, 7, 0, 1, 2, 8]⟩ ?_
      clear hQB hQX QB
      refine wpAnyB_bar [false, false, false, false, false, false, false, false, false, false, false, false, false, false, false, false, false, false, false, false, false, false, false, false, false, false, false, false, true] (fuel := 5) (by rfl) (by rfl) (by kernel_rfl) (fun QB hQB hQX => ?_)
      simp only [maskL]
      go_wp2_with fail
      have hold : Hold w _ (sepR (refL C y) Asr.emp) := Hold.imp (Hold.pk9 h3.rest [8]) (Imp.flat _ _)
      refine (kimage_true _ C y y2 hold.imgR h3.imgR HK.out).mono ?_
      rintro e w4 ⟨rfl, hc⟩
      have h5 := h3.rest.chg0 hc
      clear h3 hc hold
      go_wp2_with fail
      refine hQB.out _ _ ⟨_, Hold.pk9 h5 [3, 4, 5, 6, 7, 0, 1, 2, 8]⟩ ?_
      clear hQB hQX QB
      refine' wpAnyB_bulk [false, false, false, false, false, false, false, false, false, false, false, false, false, false, false, false, false, false, false, false, false, false, false, false, false, false, false, false, false, true, true] 108 (listed' := #[true, true, true, true, true, true, true, true, true, true, true, true, true, true, true, true, true, true, true, true, true, true, true, true, true, true, true, true, true, true, true, false, false, false]) rfl (by kernel_rfl) (by kernel_rfl) (by kernel_rfl) (by kernel_rfl) (by kernel_rfl) (by kernel_rfl) (by decide) (fun _ _ _ _ h => h) rfl ⟨_, Hold.pk9 h5 [3, 4, 5, 6, 7, 0, 1, 2, 8]⟩ (fun wq hq => ?_) ?_; rotate_left 1
      · simp only [maskL]
        repeat (go_big_quiet_step (fail))
        exact wpQuiet_nil rfl
      refine wpAnyB_bar [false, false, false, false, false, false, false, false, false, false, false, false, false, false, false, false, false, false, false, false, false, false, false, false, false, false, false, false, false, false, false, true] (fuel := 2) (by rfl) (by rfl) (by kernel_rfl) (fun QB hQB hQX => ?_)
      simp only [maskL]
      go_wp2_with fail
      refine (awake09_any w _ _ h5).mono ?_
      rintro e w6 ⟨rfl, h6⟩
      clear h5
      go_wp2_with fail
      refine hQB.out _ _ ⟨_, Hold.pk9 h6 [3, 4, 5, 6, 7, 0, 1, 2, 8]⟩ ?_
      clear hQB hQX QB
      refine' wpAnyB_bulk [false, false, false, false, false, false, false, false, false, false, false, false, false, false, false, false, false, false, false, false, false, false, false, false, false, false, false, false, false, false, false, false, true, true] 108 (listed' := #[true, true, true, true, true, true, true, true, true, true, true, true, true, true, true, true, true, true, true, true, true, true, true, true, true, true, true, true, true, true, true, true, true, true]) rfl (by kernel_rfl) (by kernel_rfl) (by kernel_rfl) (by kernel_rfl) (by kernel_rfl) (by kernel_rfl) (by decide) (fun _ _ _ _ h => h) rfl ⟨_, Hold.pk9 h6 [3, 4, 5, 6, 7, 0, 1, 2, 8]⟩ (fun wq hq => ?_) ?_; rotate_left 1
      · simp only [maskL]
        repeat (go_big_quiet_step (fail))
        exact wpQuiet_nil rfl
      refine wpAnyB_done (by kernel_rfl) ?_ _
      have H7 := hid h6.below
      clear h6
      go_wp2_with fail
      go_ret
      exact ⟨rfl, H7.out⟩
end Go.Proofs.Ytigjpfhjddkckaa
