/- The reference's Pop and Push (strongtxref09): contracts. -/
import Derived.Test.YtopcnaakdldkpaaFl
namespace Go.Proofs.Ytopcnaakdldkpaa
open Go.RowKit
set_option linter.unusedVariables false

abbrev quA (g : Nat) (cl bk at_ hd : Int) : Asr := blkA 92 g #[.int .i64 cl, .int .i64 bk, .int .i64 at_, .int .u64 hd]
theorem qu_new (w0 w : World) (R : Asr) (cl bk : Int) (h : Hold w0 w R) : Calls Try.prog 57 #[.int .i64 cl, .int .i64 bk] w fun e w' => ∃ g, e = .returned (.pointer (some ⟨g, 0, none⟩)) ∧ Hold w0 w' (quA g cl bk 0 0 * R) := by
  have H := hid (h.newBlk (t := 92) (cs := #[.int .i64 cl, .int .i64 bk, .int .i64 0, .int .u64 0]))
  clear h
  go_enter Try.func57, Try.ntmps57
  go_wp2
  go_ret
  exact ⟨_, rfl, H.out⟩
set_option maxRecDepth 8000 in
set_option maxHeartbeats 4000000 in
theorem qu_step0 (w0 w : World) (R : Asr) (g m : Nat) (c : Cfg) (C : Nat → List Int) (cl bk hd : Int) (a : Acc) (h : Hold w0 w (quA g cl bk 0 hd * (refA m c C * R))) (hC : COk C) (ha : opA C 1 7 cl (valC C 7 cl) true = a) :
    Calls Try.prog 41 #[.pointer (some ⟨g, 0, none⟩), .pointer (some ⟨m, 0, none⟩)] w (RAccPost w0 (quA g cl bk 1 a.got * (refA m c C * R)) a) := by
  have HA := hid ha
  have HK := hid hC
  have H1 := hid (h.newBlk (t := 55) (cs := #[.int .i64 0, .int .i64 0, .int .i64 0, .int .u64 0, .int .u64 0, .bool false]))
  clear h ha hC
  go_enter Try.func41, Try.ntmps41
  go_upto_region 1 with fail
  have h1 := H1.out
  generalize hW : World.alloc _ _ = W at h1 ⊢
  generalize w.heap.size = gr at h1 ⊢
  clear hW H1
  have h2 : Hold w0 W (quA g cl bk 0 hd * (blkA 55 gr #[.int .i64 0, .int .i64 0, .int .i64 0, .int .u64 0, .int .u64 0, .bool false] * (refA m c C * R))) := h1.swap
  clear h1
  have p0 := h2.blk.some_ (i := 0) rfl
  have p1 := h2.blk.some_ (i := 2) rfl
  go_wp2_with fail
  refine (ref_load w0 _ _ m c C 7 cl (h2.pk3 [2, 0, 1]) HK.out).mono ?_
  rintro e w4 ⟨rfl, h4⟩
  rw [HA.out]
  clear h2 p0 p1
  have H5 := hid (h4.newBlk (t := 55) (cs := #[.int .i64 a.kind, .int .i64 a.cell, .int .i64 a.index, .int .u64 a.got, .int .u64 a.put, .bool a.done]))
  clear h4
  go_upto_region 4 with fail
  have h5 := H5.out
  generalize hW : World.alloc _ _ = W5 at h5 ⊢
  generalize w4.heap.size = ga at h5 ⊢
  clear hW H5
  have h6 : Hold w0 W5 (quA g cl bk 0 hd * (blkA 55 ga #[.int .i64 a.kind, .int .i64 a.cell, .int .i64 a.index, .int .u64 a.got, .int .u64 a.put, .bool a.done] * (blkA 55 gr #[.int .i64 0, .int .i64 0, .int .i64 0, .int .u64 0, .int .u64 0, .bool false] * (refA m c C * R)))) := h5.pk4 [2, 0, 3, 1]
  clear h5
  have y3 := h6.drop.blk.some_ (i := 3) rfl
  have q3 := h6.blk.some_ (i := 3) (u := .int .u64 hd) rfl
  have s3 := h6.blk.frozen 3
  have q2 := h6.blk.some_ (i := 2) (u := .int .i64 0) rfl
  have s2 := h6.blk.frozen 2
  have H7 := hid ((h6.setBlk 3 (.int .u64 a.got)).setBlk 2 (.int .i64 1))
  clear h6
  go_upto_region 6 with fail
  have h6 := H7.out
  generalize hW : World.setCell _ _ _ = W7 at h6 ⊢
  clear hW H7 q3 s3 q2 s2
  replace h6 : Hold w0 W7 (quA g cl bk 1 a.got * (blkA 55 ga #[.int .i64 a.kind, .int .i64 a.cell, .int .i64 a.index, .int .u64 a.got, .int .u64 a.put, .bool a.done] * (blkA 55 gr #[.int .i64 0, .int .i64 0, .int .i64 0, .int .u64 0, .int .u64 0, .bool false] * (refA m c C * R)))) := h6
  clear y3
  have h7 := h6
  clear h6
  obtain ⟨⟨x0, x1, x2, x3, x4, x5⟩, z0, z1, z2, z3, z4, z5⟩ := blk_acc (h7.pk3 [2, 0, 1]).blk
  obtain ⟨⟨y0, y1, y2, y3, y4, y5⟩, _⟩ := blk_acc (h7.pk2 [1, 0]).blk
  have H8 := hid ((h7.pk3 [2, 0, 1]).setAcc (.int .i64 a.kind) (.int .i64 a.cell) (.int .i64 a.index) (.int .u64 a.got) (.int .u64 a.put) (.bool a.done))
  clear h7
  go_wp2_with fail
  have h8 := H8.out
  generalize hW : World.setCell _ _ _ = W8 at h8 ⊢
  clear hW H8 x0 x1 x2 x3 x4 x5 z0 z1 z2 z3 z4 z5 y0 y1 y2 y3 y4 y5
  obtain ⟨⟨y0, y1, y2, y3, y4, y5⟩, _⟩ := blk_acc h8.blk
  have hfin : Hid (RAccPost w0 (quA g cl bk 1 a.got * (refA m c C * R)) a (.returned a.val) W8) := hid ⟨rfl, h8.pk4 [1, 3]⟩
  exact bodyPost_ret (v := a.val) (by simp [results, Try.results41, go_sem, y0, y1, y2, y3, y4, y5]) rfl hfin.out
set_option maxRecDepth 8000 in
set_option maxHeartbeats 4000000 in
theorem qu_step1 (w0 w : World) (R : Asr) (g m : Nat) (c : Cfg) (C : Nat → List Int) (C2 : Nat → List Int) (cl bk hd : Int) (a : Acc) (h : Hold w0 w (quA g cl bk 1 hd * (refA m c C * R))) (hC : COk C) (hh : 0 ≤ hd ∧ hd < 18446744073709551616) (ha : opA C 2 8 bk (hd % 65536) true = a) (hC2 : opC C 8 bk (hd % 65536) true = C2) :
    Calls Try.prog 41 #[.pointer (some ⟨g, 0, none⟩), .pointer (some ⟨m, 0, none⟩)] w (RAccPost w0 (quA g cl bk 2 hd * (refA m c C2 * R)) a) := by
  have HA := hid ha
  have HK := hid hC
  obtain ⟨tp, htp⟩ : ∃ tp, tp = hd % 65536 - 1 := ⟨_, rfl⟩
  have tp0 : -1 ≤ tp ∧ tp ≤ 65535 := by omega
  have htq : hd % 65536 = tp + 1 := by omega
  rw [htq] at ha hC2
  have HTP := hid htp
  replace HA := hid ha
  have HC2 := hid hC2
  have H1 := hid (h.newBlk (t := 55) (cs := #[.int .i64 0, .int .i64 0, .int .i64 0, .int .u64 0, .int .u64 0, .bool false]))
  clear h ha hC hC2 htp htq
  go_enter Try.func41, Try.ntmps41
  go_upto_region 1 with fail
  have h1 := H1.out
  generalize hW : World.alloc _ _ = W at h1 ⊢
  generalize w.heap.size = gr at h1 ⊢
  clear hW H1
  have h2 : Hold w0 W (quA g cl bk 1 hd * (blkA 55 gr #[.int .i64 0, .int .i64 0, .int .i64 0, .int .u64 0, .int .u64 0, .bool false] * (refA m c C * R))) := h1.swap
  clear h1
  have p1 := h2.blk.some_ (i := 2) rfl
  have s1 := h2.blk.frozen 2
  have H3 := hid (h2.setBlk 2 (.int .i64 2))
  clear h2
  go_upto_region 9 with fail
  have h3 := H3.out
  generalize hW : World.setCell _ _ _ = W3 at h3 ⊢
  clear hW H3 p1 s1
  replace h3 : Hold w0 W3 (quA g cl bk 2 hd * (blkA 55 gr #[.int .i64 0, .int .i64 0, .int .i64 0, .int .u64 0, .int .u64 0, .bool false] * (refA m c C * R))) := h3
  replace h3 := h3.drew
  refine wp_region_brk [13] (by kernel_rfl) ?_
  refine wpAnyB_now (fun w' => ∃ Z, Hold w0 w' (quA g cl bk 2 hd * Z)) (fun _ _ => trivial) _ _ _ _ ?_
  refine' wpAnyB_bulk [true, true, true, true, true, true, true, true, true] 83 (listed' := #[true, true, true, true, true, true, true, true, true, false, false, false, false, false]) rfl (by kernel_rfl) (by kernel_rfl) (by kernel_rfl) (by kernel_rfl) (by kernel_rfl) (by kernel_rfl) (by decide) (fun _ _ _ _ h => h) rfl ⟨_, h3⟩ (fun wq hq => ?_) ?_; rotate_left 1
  · simp only [maskL]
    obtain ⟨Z, hq⟩ := hq
    have q1 := hq.blk.some_ (i := 1) rfl
    have q3 := hq.blk.some_ (i := 3) rfl
    repeat (go_big_quiet_step (fail))
    exact wpQuiet_nil rfl
  refine wpAnyB_bar [false, false, false, false, false, false, false, false, false, true] (fuel := 4) (by rfl) (by rfl) (by kernel_rfl) (fun QB hQB hQX => ?_)
  simp only [maskL]
  go_wp2_with fail
  refine (Go.Proofs.Ytopcnaakdldkpaa.W.rtop_any _ hd hh.1 hh.2).mono ?_
  rintro e w' ⟨rfl, rfl⟩
  rw [← HTP.out]
  go_wp2_with fail
  refine hQB.out _ _ ⟨_, h3⟩ ?_
  clear hQB hQX QB
  refine' wpAnyB_bulk [false, false, false, false, false, false, false, false, false, false, true, true] 83 (listed' := #[true, true, true, true, true, true, true, true, true, true, true, true, false, false]) rfl (by kernel_rfl) (by kernel_rfl) (by kernel_rfl) (by kernel_rfl) (by kernel_rfl) (by kernel_rfl) (by decide) (fun _ _ _ _ h => h) rfl ⟨_, h3⟩ (fun wq hq => ?_) ?_; rotate_left 1
  · simp only [maskL]
    repeat (go_big_quiet_step (fail))
    exact wpQuiet_nil rfl
  refine wpAnyB_bar [false, false, false, false, false, false, false, false, false, false, false, false, true] (fuel := 1) (by rfl) (by rfl) (by kernel_rfl) (fun QB hQB hQX => ?_)
  simp only [maskL]
  go_wp2_with fail
  refine (ref_store w0 _ _ m c C 8 bk (tp + 1) (h3.pk3 [2, 0, 1]) HK.out).mono ?_
  rintro e w2 ⟨rfl, h5⟩
  rw [HA.out]
  rw [HC2.out] at h5
  clear h3
  go_wp2_with fail
  refine hQB.out _ _ ⟨_, h5.pk3 [1, 2, 0]⟩ ?_
  clear hQB hQX QB
  refine wpAnyB_brk [false, false, false, false, false, false, false, false, false, false, false, false, false, true] (fuel := 0) (by rfl) (by rfl) (by kernel_rfl) (by kernel_rfl) (fun QB hQB hQX => ?_)
  simp only [maskL]
  have hf : Hold w0 w2 (blkA 55 gr #[.int .i64 0, .int .i64 0, .int .i64 0, .int .u64 0, .int .u64 0, .bool false] * (quA g cl bk 2 hd * (refA m c C2 * R))) := h5.pk3 [2, 1, 0]
  obtain ⟨⟨x0, x1, x2, x3, x4, x5⟩, z0, z1, z2, z3, z4, z5⟩ := blk_acc hf.blk
  have H8 := hid (hf.setAcc (.int .i64 a.kind) (.int .i64 a.cell) (.int .i64 a.index) (.int .u64 a.got) (.int .u64 a.put) (.bool a.done))
  clear hf h5
  go_wp2_with fail
  refine hQB.out _ _ ?_
  clear hQB hQX QB
  refine wpAnyB_forget (by kernel_rfl) ?_
  refine wpAnyB_done (by kernel_rfl) ?_ _
  clear x0 x1 x2 x3 x4 x5 z0 z1 z2 z3 z4 z5
  have h8 := H8.out
  generalize hW : World.setCell _ _ _ = W8 at h8 ⊢
  clear hW H8
  go_wp2_with fail
  obtain ⟨⟨y0, y1, y2, y3, y4, y5⟩, _⟩ := blk_acc h8.blk
  have hfin : Hid (RAccPost w0 (quA g cl bk 2 hd * (refA m c C2 * R)) a (.returned a.val) W8) := hid ⟨rfl, h8.drop⟩
  exact bodyPost_ret (v := a.val) (by simp [results, Try.results41, go_sem, y0, y1, y2, y3, y4, y5]) rfl hfin.out
set_option maxRecDepth 8000 in
set_option maxHeartbeats 4000000 in
theorem qu_step2_yes (w0 w : World) (R : Asr) (g m : Nat) (c : Cfg) (C : Nat → List Int) (C2 : Nat → List Int) (cl bk hd : Int) (a : Acc) (h : Hold w0 w (quA g cl bk 2 hd * (refA m c C * R))) (hC : COk C) (hh : 0 ≤ hd ∧ hd < 18446744073709551616) (hdn : a.done = true) (ha : opA C 3 7 cl (bumpV hd bk) (valC C 7 cl == hd) = a) (hC2 : opC C 7 cl (bumpV hd bk) (valC C 7 cl == hd) = C2) :
    Calls Try.prog 41 #[.pointer (some ⟨g, 0, none⟩), .pointer (some ⟨m, 0, none⟩)] w (RAccPost w0 (quA g cl bk 3 hd * (refA m c C2 * R)) a) := by
  have HA := hid ha
  have HK := hid hC
  obtain ⟨bv, hbv⟩ : ∃ bv, bv = bumpV hd (bk) := ⟨_, rfl⟩
  rw [← hbv] at ha hC2
  have HB := hid hbv
  have HC2 := hid hC2
  have HDN := hid hdn
  replace HA := hid ha
  have H1 := hid (h.newBlk (t := 55) (cs := #[.int .i64 0, .int .i64 0, .int .i64 0, .int .u64 0, .int .u64 0, .bool false]))
  clear h ha hC hbv hC2 hdn
  go_enter Try.func41, Try.ntmps41
  go_upto_region 1 with fail
  have h1 := H1.out
  generalize hW : World.alloc _ _ = W at h1 ⊢
  generalize w.heap.size = gr at h1 ⊢
  clear hW H1
  have h2 : Hold w0 W (quA g cl bk 2 hd * (blkA 55 gr #[.int .i64 0, .int .i64 0, .int .i64 0, .int .u64 0, .int .u64 0, .bool false] * (refA m c C * R))) := h1.swap
  clear h1
  have p1 := h2.blk.some_ (i := 2) rfl
  go_upto_region 11 with fail
  clear p1
  replace h2 := h2.drew
  refine wp_region_brk [] (by kernel_rfl) ?_
  refine wpAnyB_now (fun w' => ∃ Z, Hold w0 w' (quA g cl bk 2 hd * Z)) (fun _ _ => trivial) _ _ _ _ ?_
  refine' wpAnyB_bulk [true, true, true, true, true, true, true, true] 83 (listed' := #[true, true, true, true, true, true, true, true, false, false, false, false, false, false]) rfl (by kernel_rfl) (by kernel_rfl) (by kernel_rfl) (by kernel_rfl) (by kernel_rfl) (by kernel_rfl) (by decide) (fun _ _ _ _ h => h) rfl ⟨_, h2⟩ (fun wq hq => ?_) ?_; rotate_left 1
  · simp only [maskL]
    obtain ⟨Z, hq⟩ := hq
    have q1 := hq.blk.some_ (i := 1) rfl
    have q3 := hq.blk.some_ (i := 3) rfl
    repeat (go_big_quiet_step (fail))
    exact wpQuiet_nil rfl
  refine wpAnyB_bar [false, false, false, false, false, false, false, false, true] (fuel := 5) (by rfl) (by rfl) (by kernel_rfl) (fun QB hQB hQX => ?_)
  simp only [maskL]
  go_wp2_with fail
  refine (Go.Proofs.Ytopcnaakdldkpaa.W.rbump_any _ hd (bk) hh.1 hh.2).mono ?_
  rintro e w' ⟨rfl, rfl⟩
  rw [show Go.Proofs.Ytopcnaakdldkpaa.W.headW ((hd / 65536 + 1) % 281474976710656) (bk) = bv from HB.out.symm]
  generalize Go.Proofs.Ytopcnaakdldkpaa.W.errIf _ = er
  go_wp2_with fail
  refine hQB.out _ _ ⟨_, h2⟩ ?_
  clear hQB hQX QB
  refine' wpAnyB_bulk [false, false, false, false, false, false, false, false, false, true, true, true, true, true] 83 (listed' := #[true, true, true, true, true, true, true, true, true, true, true, true, true, true]) rfl (by kernel_rfl) (by kernel_rfl) (by kernel_rfl) (by kernel_rfl) (by kernel_rfl) (by kernel_rfl) (by decide) (fun _ _ _ _ h => h) rfl ⟨_, h2⟩ (fun wq hq => ?_) ?_; rotate_left 1
  · simp only [maskL]
    repeat (go_big_quiet_step (fail))
    exact wpQuiet_nil rfl
  refine wpAnyB_done (by kernel_rfl) ?_ _
  go_upto_region 12 with fail
  go_cut [8] (fun s wx => ∃ ga, s = .pointer (some ⟨ga, 0, none⟩) ∧ Hold w0 wx (quA g cl bk 2 hd * (blkA 55 ga #[.int .i64 a.kind, .int .i64 a.cell, .int .i64 a.index, .int .u64 a.got, .int .u64 a.put, .bool a.done] * (blkA 55 gr #[.int .i64 0, .int .i64 0, .int .i64 0, .int .u64 0, .int .u64 0, .bool false] * (refA m c C2 * R)))))
  case first =>
    have h3 := h2.drew
    clear h2
    refine wp_region_brk [12] (by kernel_rfl) ?_
    refine wpAnyB_now (fun w' => ∃ Z, Hold w0 w' (quA g cl bk 2 hd * Z)) (fun _ _ => trivial) _ _ _ _ ?_
    refine' wpAnyB_bulk [true, true, true, true, true, true, true, true, true, true] 83 (listed' := #[true, true, true, true, true, true, true, true, true, true, false, false, false]) rfl (by kernel_rfl) (by kernel_rfl) (by kernel_rfl) (by kernel_rfl) (by kernel_rfl) (by kernel_rfl) (by decide) (fun _ _ _ _ h => h) rfl ⟨_, h3⟩ (fun wq hq => ?_) ?_; rotate_left 1
    · simp only [maskL]
      obtain ⟨Z, hq⟩ := hq
      have q0 := hq.blk.some_ (i := 0) rfl
      have q3 := hq.blk.some_ (i := 3) rfl
      repeat (go_big_quiet_step (fail))
      exact wpQuiet_nil rfl
    refine wpAnyB_two [false, false, false, false, false, false, false, false, false, false, true] [false, false, false, false, false, false, false, false, false, false, false, true] (fuel := 2) (by rfl) (by rfl) (by rfl) (by rfl) (by kernel_rfl) (fun QB hQB hQX => ?_) (fun QB hQB hQX => ?_)
    · simp only [maskL]
      go_wp2_with fail
      first
        | refine (ref_swap w0 _ _ m c C 7 cl hd bv (h4.pk4 [3, 0, 1, 2]) HK.out).mono ?_
        | refine (ref_swap w0 _ _ m c C 7 cl hd bv (h3.pk3 [2, 0, 1]) HK.out).mono ?_
      rintro e w2 ⟨rfl, h5⟩
      rw [HA.out]
      rw [HC2.out] at h5
      go_wp2_with fail
      refine hQB.out _ _ (by first | exact ⟨_, h5.pk4 [2, 1, 3, 0]⟩ | exact ⟨_, h5.pk3 [1, 2, 0]⟩) ?_
      clear hQB hQX QB
      refine wpAnyB_bar [false, false, false, false, false, false, false, false, false, false, false, true] (fuel := 1) (by rfl) (by rfl) (by kernel_rfl) (fun QB hQB hQX => ?_)
      simp only [maskL]
      first
        | have h4 := hid ((h5.pk3 [1, 2, 0]).newBlk (t := 55) (cs := #[.int .i64 0, .int .i64 0, .int .i64 0, .int .u64 0, .int .u64 0, .bool false]))
        | have h4 := hid (((h3.undrew.undrew).newBlk (t := 55) (cs := #[.int .i64 0, .int .i64 0, .int .i64 0, .int .u64 0, .int .u64 0, .bool false])).drew.drew)
      go_wp2_with fail
      refine hQB.out _ _ ⟨_, h4.out.drop⟩ ?_
      clear hQB hQX QB
      replace h4 := h4.out
      generalize hW : World.alloc _ _ = W4 at h4 ⊢
      clear hW
      first | generalize w2.heap.size = ga at h4 ⊢ | generalize W.heap.size = ga at h4 ⊢
      refine wpAnyB_brk [false, false, false, false, false, false, false, false, false, false, false, false, true] (fuel := 0) (by rfl) (by rfl) (by kernel_rfl) (by kernel_rfl) (fun QB hQB hQX => ?_)
      simp only [maskL]
      first | have hf := h5.pk4 [1, 2, 3, 0] | have hf := h4
      obtain ⟨⟨x0, x1, x2, x3, x4, x5⟩, z0, z1, z2, z3, z4, z5⟩ := blk_acc hf.blk
      have H8 := hid ((hf.setAcc (.int .i64 a.kind) (.int .i64 a.cell) (.int .i64 a.index) (.int .u64 a.got) (.int .u64 a.put) (.bool a.done)).swap)
      clear hf h3 h4 h5
      go_wp2_with fail
      refine hQB.out _ _ ?_
      clear hQB hQX QB
      refine wpAnyB_forget (by kernel_rfl) ?_
      refine wpAnyB_done (by kernel_rfl) ?_ _
      -- END
      clear x0 x1 x2 x3 x4 x5 z0 z1 z2 z3 z4 z5
      go_wp2_with fail
      go_meet
      exact ⟨ga, rfl, H8.out⟩
    · simp only [maskL]
      first
        | have h4 := hid ((h5.pk3 [1, 2, 0]).newBlk (t := 55) (cs := #[.int .i64 0, .int .i64 0, .int .i64 0, .int .u64 0, .int .u64 0, .bool false]))
        | have h4 := hid (((h3.undrew.undrew).newBlk (t := 55) (cs := #[.int .i64 0, .int .i64 0, .int .i64 0, .int .u64 0, .int .u64 0, .bool false])).drew.drew)
      go_wp2_with fail
      refine hQB.out _ _ ⟨_, h4.out.drop⟩ ?_
      clear hQB hQX QB
      replace h4 := h4.out
      generalize hW : World.alloc _ _ = W4 at h4 ⊢
      clear hW
      first | generalize w2.heap.size = ga at h4 ⊢ | generalize W.heap.size = ga at h4 ⊢
      refine wpAnyB_bar [false, false, false, false, false, false, false, false, false, false, true] (fuel := 1) (by rfl) (by rfl) (by kernel_rfl) (fun QB hQB hQX => ?_)
      simp only [maskL]
      go_wp2_with fail
      first
        | refine (ref_swap w0 _ _ m c C 7 cl hd bv (h4.pk4 [3, 0, 1, 2]) HK.out).mono ?_
        | refine (ref_swap w0 _ _ m c C 7 cl hd bv (h3.pk3 [2, 0, 1]) HK.out).mono ?_
      rintro e w2 ⟨rfl, h5⟩
      rw [HA.out]
      rw [HC2.out] at h5
      go_wp2_with fail
      refine hQB.out _ _ (by first | exact ⟨_, h5.pk4 [2, 1, 3, 0]⟩ | exact ⟨_, h5.pk3 [1, 2, 0]⟩) ?_
      clear hQB hQX QB
      refine wpAnyB_brk [false, false, false, false, false, false, false, false, false, false, false, false, true] (fuel := 0) (by rfl) (by rfl) (by kernel_rfl) (by kernel_rfl) (fun QB hQB hQX => ?_)
      simp only [maskL]
      first | have hf := h5.pk4 [1, 2, 3, 0] | have hf := h4
      obtain ⟨⟨x0, x1, x2, x3, x4, x5⟩, z0, z1, z2, z3, z4, z5⟩ := blk_acc hf.blk
      have H8 := hid ((hf.setAcc (.int .i64 a.kind) (.int .i64 a.cell) (.int .i64 a.index) (.int .u64 a.got) (.int .u64 a.put) (.bool a.done)).swap)
      clear hf h3 h4 h5
      go_wp2_with fail
      refine hQB.out _ _ ?_
      clear hQB hQX QB
      refine wpAnyB_forget (by kernel_rfl) ?_
      refine wpAnyB_done (by kernel_rfl) ?_ _
      -- END
      clear x0 x1 x2 x3 x4 x5 z0 z1 z2 z3 z4 z5
      go_wp2_with fail
      go_meet
      exact ⟨ga, rfl, H8.out⟩
  case rest =>
  clear h2
  obtain ⟨ga, rfl, h6⟩ := hcut
  have q2 := h6.blk.some_ (i := 2) (u := .int .i64 2) rfl
  have s2 := h6.blk.frozen 2
  have H7 := hid (h6.setBlk 2 (.int .i64 0))
  clear h6
  go_upto_region 14 with fail
  have h6 := H7.out
  generalize hW : World.setCell _ _ _ = W7 at h6 ⊢
  clear hW H7 q2 s2
  replace h6 : Hold w0 W7 (quA g cl bk 0 hd * (blkA 55 ga #[.int .i64 a.kind, .int .i64 a.cell, .int .i64 a.index, .int .u64 a.got, .int .u64 a.put, .bool a.done] * (blkA 55 gr #[.int .i64 0, .int .i64 0, .int .i64 0, .int .u64 0, .int .u64 0, .bool false] * (refA m c C2 * R)))) := h6
  have y5 : W7.cell? ⟨ga, 5, none⟩ = some (.bool true) := by
    have := h6.drop.blk.some_ (i := 5) (u := .bool a.done) rfl
    rwa [HDN.out] at this
  have q1 := h6.blk.some_ (i := 2) (u := .int .i64 0) rfl
  have s1 := h6.blk.frozen 2
  have H8 := hid (h6.setBlk 2 (.int .i64 3))
  clear h6
  go_upto_region 16 with fail
  have h6 := H8.out
  generalize hW : World.setCell _ _ _ = W8 at h6 ⊢
  clear hW H8 q1 s1 y5
  have h7 : Hold w0 W8 (quA g cl bk 3 hd * (blkA 55 ga #[.int .i64 a.kind, .int .i64 a.cell, .int .i64 a.index, .int .u64 a.got, .int .u64 a.put, .bool a.done] * (blkA 55 gr #[.int .i64 0, .int .i64 0, .int .i64 0, .int .u64 0, .int .u64 0, .bool false] * (refA m c C2 * R)))) := h6
  clear h6
  obtain ⟨⟨x0, x1, x2, x3, x4, x5⟩, z0, z1, z2, z3, z4, z5⟩ := blk_acc (h7.pk3 [2, 0, 1]).blk
  obtain ⟨⟨y0, y1, y2, y3, y4, y5⟩, _⟩ := blk_acc (h7.pk2 [1, 0]).blk
  have H8 := hid ((h7.pk3 [2, 0, 1]).setAcc (.int .i64 a.kind) (.int .i64 a.cell) (.int .i64 a.index) (.int .u64 a.got) (.int .u64 a.put) (.bool a.done))
  clear h7
  go_wp2_with fail
  have h8 := H8.out
  generalize hW : World.setCell _ _ _ = W8 at h8 ⊢
  clear hW H8 x0 x1 x2 x3 x4 x5 z0 z1 z2 z3 z4 z5 y0 y1 y2 y3 y4 y5
  obtain ⟨⟨y0, y1, y2, y3, y4, y5⟩, _⟩ := blk_acc h8.blk
  have hfin : Hid (RAccPost w0 (quA g cl bk 3 hd * (refA m c C2 * R)) a (.returned a.val) W8) := hid ⟨rfl, h8.pk4 [1, 3]⟩
  exact bodyPost_ret (v := a.val) (by simp [results, Try.results41, go_sem, y0, y1, y2, y3, y4, y5]) rfl hfin.out
set_option maxRecDepth 8000 in
set_option maxHeartbeats 4000000 in
theorem qu_step2_no (w0 w : World) (R : Asr) (g m : Nat) (c : Cfg) (C : Nat → List Int) (C2 : Nat → List Int) (cl bk hd : Int) (a : Acc) (h : Hold w0 w (quA g cl bk 2 hd * (refA m c C * R))) (hC : COk C) (hh : 0 ≤ hd ∧ hd < 18446744073709551616) (hdn : a.done = false) (ha : opA C 3 7 cl (bumpV hd bk) (valC C 7 cl == hd) = a) (hC2 : opC C 7 cl (bumpV hd bk) (valC C 7 cl == hd) = C2) :
    Calls Try.prog 41 #[.pointer (some ⟨g, 0, none⟩), .pointer (some ⟨m, 0, none⟩)] w (RAccPost w0 (quA g cl bk 0 hd * (refA m c C2 * R)) a) := by
  have HA := hid ha
  have HK := hid hC
  obtain ⟨bv, hbv⟩ : ∃ bv, bv = bumpV hd (bk) := ⟨_, rfl⟩
  rw [← hbv] at ha hC2
  have HB := hid hbv
  have HC2 := hid hC2
  have HDN := hid hdn
  replace HA := hid ha
  have H1 := hid (h.newBlk (t := 55) (cs := #[.int .i64 0, .int .i64 0, .int .i64 0, .int .u64 0, .int .u64 0, .bool false]))
  clear h ha hC hbv hC2 hdn
  go_enter Try.func41, Try.ntmps41
  go_upto_region 1 with fail
  have h1 := H1.out
  generalize hW : World.alloc _ _ = W at h1 ⊢
  generalize w.heap.size = gr at h1 ⊢
  clear hW H1
  have h2 : Hold w0 W (quA g cl bk 2 hd * (blkA 55 gr #[.int .i64 0, .int .i64 0, .int .i64 0, .int .u64 0, .int .u64 0, .bool false] * (refA m c C * R))) := h1.swap
  clear h1
  have p1 := h2.blk.some_ (i := 2) rfl
  go_upto_region 11 with fail
  clear p1
  replace h2 := h2.drew
  refine wp_region_brk [] (by kernel_rfl) ?_
  refine wpAnyB_now (fun w' => ∃ Z, Hold w0 w' (quA g cl bk 2 hd * Z)) (fun _ _ => trivial) _ _ _ _ ?_
  refine' wpAnyB_bulk [true, true, true, true, true, true, true, true] 83 (listed' := #[true, true, true, true, true, true, true, true, false, false, false, false, false, false]) rfl (by kernel_rfl) (by kernel_rfl) (by kernel_rfl) (by kernel_rfl) (by kernel_rfl) (by kernel_rfl) (by decide) (fun _ _ _ _ h => h) rfl ⟨_, h2⟩ (fun wq hq => ?_) ?_; rotate_left 1
  · simp only [maskL]
    obtain ⟨Z, hq⟩ := hq
    have q1 := hq.blk.some_ (i := 1) rfl
    have q3 := hq.blk.some_ (i := 3) rfl
    repeat (go_big_quiet_step (fail))
    exact wpQuiet_nil rfl
  refine wpAnyB_bar [false, false, false, false, false, false, false, false, true] (fuel := 5) (by rfl) (by rfl) (by kernel_rfl) (fun QB hQB hQX => ?_)
  simp only [maskL]
  go_wp2_with fail
  refine (Go.Proofs.Ytopcnaakdldkpaa.W.rbump_any _ hd (bk) hh.1 hh.2).mono ?_
  rintro e w' ⟨rfl, rfl⟩
  rw [show Go.Proofs.Ytopcnaakdldkpaa.W.headW ((hd / 65536 + 1) % 281474976710656) (bk) = bv from HB.out.symm]
  generalize Go.Proofs.Ytopcnaakdldkpaa.W.errIf _ = er
  go_wp2_with fail
  refine hQB.out _ _ ⟨_, h2⟩ ?_
  clear hQB hQX QB
  refine' wpAnyB_bulk [false, false, false, false, false, false, false, false, false, true, true, true, true, true] 83 (listed' := #[true, true, true, true, true, true, true, true, true, true, true, true, true, true]) rfl (by kernel_rfl) (by kernel_rfl) (by kernel_rfl) (by kernel_rfl) (by kernel_rfl) (by kernel_rfl) (by decide) (fun _ _ _ _ h => h) rfl ⟨_, h2⟩ (fun wq hq => ?_) ?_; rotate_left 1
  · simp only [maskL]
    repeat (go_big_quiet_step (fail))
    exact wpQuiet_nil rfl
  refine wpAnyB_done (by kernel_rfl) ?_ _
  go_upto_region 12 with fail
  go_cut [8] (fun s wx => ∃ ga, s = .pointer (some ⟨ga, 0, none⟩) ∧ Hold w0 wx (quA g cl bk 2 hd * (blkA 55 ga #[.int .i64 a.kind, .int .i64 a.cell, .int .i64 a.index, .int .u64 a.got, .int .u64 a.put, .bool a.done] * (blkA 55 gr #[.int .i64 0, .int .i64 0, .int .i64 0, .int .u64 0, .int .u64 0, .bool false] * (refA m c C2 * R)))))
  case first =>
    have h3 := h2.drew
    clear h2
    refine wp_region_brk [12] (by kernel_rfl) ?_
    refine wpAnyB_now (fun w' => ∃ Z, Hold w0 w' (quA g cl bk 2 hd * Z)) (fun _ _ => trivial) _ _ _ _ ?_
    refine' wpAnyB_bulk [true, true, true, true, true, true, true, true, true, true] 83 (listed' := #[true, true, true, true, true, true, true, true, true, true, false, false, false]) rfl (by kernel_rfl) (by kernel_rfl) (by kernel_rfl) (by kernel_rfl) (by kernel_rfl) (by kernel_rfl) (by decide) (fun _ _ _ _ h => h) rfl ⟨_, h3⟩ (fun wq hq => ?_) ?_; rotate_left 1
    · simp only [maskL]
      obtain ⟨Z, hq⟩ := hq
      have q0 := hq.blk.some_ (i := 0) rfl
      have q3 := hq.blk.some_ (i := 3) rfl
      repeat (go_big_quiet_step (fail))
      exact wpQuiet_nil rfl
    refine wpAnyB_two [false, false, false, false, false, false, false, false, false, false, true] [false, false, false, false, false, false, false, false, false, false, false, true] (fuel := 2) (by rfl) (by rfl) (by rfl) (by rfl) (by kernel_rfl) (fun QB hQB hQX => ?_) (fun QB hQB hQX => ?_)
    · simp only [maskL]
      go_wp2_with fail
      first
        | refine (ref_swap w0 _ _ m c C 7 cl hd bv (h4.pk4 [3, 0, 1, 2]) HK.out).mono ?_
        | refine (ref_swap w0 _ _ m c C 7 cl hd bv (h3.pk3 [2, 0, 1]) HK.out).mono ?_
      rintro e w2 ⟨rfl, h5⟩
      rw [HA.out]
      rw [HC2.out] at h5
      go_wp2_with fail
      refine hQB.out _ _ (by first | exact ⟨_, h5.pk4 [2, 1, 3, 0]⟩ | exact ⟨_, h5.pk3 [1, 2, 0]⟩) ?_
      clear hQB hQX QB
      refine wpAnyB_bar [false, false, false, false, false, false, false, false, false, false, false, true] (fuel := 1) (by rfl) (by rfl) (by kernel_rfl) (fun QB hQB hQX => ?_)
      simp only [maskL]
      first
        | have h4 := hid ((h5.pk3 [1, 2, 0]).newBlk (t := 55) (cs := #[.int .i64 0, .int .i64 0, .int .i64 0, .int .u64 0, .int .u64 0, .bool false]))
        | have h4 := hid (((h3.undrew.undrew).newBlk (t := 55) (cs := #[.int .i64 0, .int .i64 0, .int .i64 0, .int .u64 0, .int .u64 0, .bool false])).drew.drew)
      go_wp2_with fail
      refine hQB.out _ _ ⟨_, h4.out.drop⟩ ?_
      clear hQB hQX QB
      replace h4 := h4.out
      generalize hW : World.alloc _ _ = W4 at h4 ⊢
      clear hW
      first | generalize w2.heap.size = ga at h4 ⊢ | generalize W.heap.size = ga at h4 ⊢
      refine wpAnyB_brk [false, false, false, false, false, false, false, false, false, false, false, false, true] (fuel := 0) (by rfl) (by rfl) (by kernel_rfl) (by kernel_rfl) (fun QB hQB hQX => ?_)
      simp only [maskL]
      first | have hf := h5.pk4 [1, 2, 3, 0] | have hf := h4
      obtain ⟨⟨x0, x1, x2, x3, x4, x5⟩, z0, z1, z2, z3, z4, z5⟩ := blk_acc hf.blk
      have H8 := hid ((hf.setAcc (.int .i64 a.kind) (.int .i64 a.cell) (.int .i64 a.index) (.int .u64 a.got) (.int .u64 a.put) (.bool a.done)).swap)
      clear hf h3 h4 h5
      go_wp2_with fail
      refine hQB.out _ _ ?_
      clear hQB hQX QB
      refine wpAnyB_forget (by kernel_rfl) ?_
      refine wpAnyB_done (by kernel_rfl) ?_ _
      -- END
      clear x0 x1 x2 x3 x4 x5 z0 z1 z2 z3 z4 z5
      go_wp2_with fail
      go_meet
      exact ⟨ga, rfl, H8.out⟩
    · simp only [maskL]
      first
        | have h4 := hid ((h5.pk3 [1, 2, 0]).newBlk (t := 55) (cs := #[.int .i64 0, .int .i64 0, .int .i64 0, .int .u64 0, .int .u64 0, .bool false]))
        | have h4 := hid (((h3.undrew.undrew).newBlk (t := 55) (cs := #[.int .i64 0, .int .i64 0, .int .i64 0, .int .u64 0, .int .u64 0, .bool false])).drew.drew)
      go_wp2_with fail
      refine hQB.out _ _ ⟨_, h4.out.drop⟩ ?_
      clear hQB hQX QB
      replace h4 := h4.out
      generalize hW : World.alloc _ _ = W4 at h4 ⊢
      clear hW
      first | generalize w2.heap.size = ga at h4 ⊢ | generalize W.heap.size = ga at h4 ⊢
      refine wpAnyB_bar [false, false, false, false, false, false, false, false, false, false, true] (fuel := 1) (by rfl) (by rfl) (by kernel_rfl) (fun QB hQB hQX => ?_)
      simp only [maskL]
      go_wp2_with fail
      first
        | refine (ref_swap w0 _ _ m c C 7 cl hd bv (h4.pk4 [3, 0, 1, 2]) HK.out).mono ?_
        | refine (ref_swap w0 _ _ m c C 7 cl hd bv (h3.pk3 [2, 0, 1]) HK.out).mono ?_
      rintro e w2 ⟨rfl, h5⟩
      rw [HA.out]
      rw [HC2.out] at h5
      go_wp2_with fail
      refine hQB.out _ _ (by first | exact ⟨_, h5.pk4 [2, 1, 3, 0]⟩ | exact ⟨_, h5.pk3 [1, 2, 0]⟩) ?_
      clear hQB hQX QB
      refine wpAnyB_brk [false, false, false, false, false, false, false, false, false, false, false, false, true] (fuel := 0) (by rfl) (by rfl) (by kernel_rfl) (by kernel_rfl) (fun QB hQB hQX => ?_)
      simp only [maskL]
      first | have hf := h5.pk4 [1, 2, 3, 0] | have hf := h4
      obtain ⟨⟨x0, x1, x2, x3, x4, x5⟩, z0, z1, z2, z3, z4, z5⟩ := blk_acc hf.blk
      have H8 := hid ((hf.setAcc (.int .i64 a.kind) (.int .i64 a.cell) (.int .i64 a.index) (.int .u64 a.got) (.int .u64 a.put) (.bool a.done)).swap)
      clear hf h3 h4 h5
      go_wp2_with fail
      refine hQB.out _ _ ?_
      clear hQB hQX QB
      refine wpAnyB_forget (by kernel_rfl) ?_
      refine wpAnyB_done (by kernel_rfl) ?_ _
      -- END
      clear x0 x1 x2 x3 x4 x5 z0 z1 z2 z3 z4 z5
      go_wp2_with fail
      go_meet
      exact ⟨ga, rfl, H8.out⟩
  case rest =>
  clear h2
  obtain ⟨ga, rfl, h6⟩ := hcut
  have q2 := h6.blk.some_ (i := 2) (u := .int .i64 2) rfl
  have s2 := h6.blk.frozen 2
  have H7 := hid (h6.setBlk 2 (.int .i64 0))
  clear h6
  go_upto_region 14 with fail
  have h6 := H7.out
  generalize hW : World.setCell _ _ _ = W7 at h6 ⊢
  clear hW H7 q2 s2
  replace h6 : Hold w0 W7 (quA g cl bk 0 hd * (blkA 55 ga #[.int .i64 a.kind, .int .i64 a.cell, .int .i64 a.index, .int .u64 a.got, .int .u64 a.put, .bool a.done] * (blkA 55 gr #[.int .i64 0, .int .i64 0, .int .i64 0, .int .u64 0, .int .u64 0, .bool false] * (refA m c C2 * R)))) := h6
  have y5 : W7.cell? ⟨ga, 5, none⟩ = some (.bool false) := by
    have := h6.drop.blk.some_ (i := 5) (u := .bool a.done) rfl
    rwa [HDN.out] at this
  go_upto_region 16 with fail
  clear y5
  have h7 := h6
  clear h6
  obtain ⟨⟨x0, x1, x2, x3, x4, x5⟩, z0, z1, z2, z3, z4, z5⟩ := blk_acc (h7.pk3 [2, 0, 1]).blk
  obtain ⟨⟨y0, y1, y2, y3, y4, y5⟩, _⟩ := blk_acc (h7.pk2 [1, 0]).blk
  have H8 := hid ((h7.pk3 [2, 0, 1]).setAcc (.int .i64 a.kind) (.int .i64 a.cell) (.int .i64 a.index) (.int .u64 a.got) (.int .u64 a.put) (.bool a.done))
  clear h7
  go_wp2_with fail
  have h8 := H8.out
  generalize hW : World.setCell _ _ _ = W8 at h8 ⊢
  clear hW H8 x0 x1 x2 x3 x4 x5 z0 z1 z2 z3 z4 z5 y0 y1 y2 y3 y4 y5
  obtain ⟨⟨y0, y1, y2, y3, y4, y5⟩, _⟩ := blk_acc h8.blk
  have hfin : Hid (RAccPost w0 (quA g cl bk 0 hd * (refA m c C2 * R)) a (.returned a.val) W8) := hid ⟨rfl, h8.pk4 [1, 3]⟩
  exact bodyPost_ret (v := a.val) (by simp [results, Try.results41, go_sem, y0, y1, y2, y3, y4, y5]) rfl hfin.out
end Go.Proofs.Ytopcnaakdldkpaa
