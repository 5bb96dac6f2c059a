/- The reference's Enter, Leave, Fence (strongtxref09): contracts. -/
import Derived.Test.YtigjpfhjddkckaaEp
namespace Go.Proofs.Ytigjpfhjddkckaa
open Go.RowKit
set_option linter.unusedVariables false

abbrev rnA (g : Nat) (th at_ rv : Int) : Asr := blkA 90 g #[.int .i64 th, .int .i64 at_, .int .i64 rv]
abbrev rfA (g : Nat) (th n lim nx : Int) : Asr := blkA 80 g #[.int .i64 th, .int .i64 n, .int .i64 lim, .int .i64 nx]
theorem rn_new (w0 w : World) (R : Asr) (th : Int) (h : Hold w0 w R) : Calls Try.prog 53 #[.int .i64 th] w fun e w' => ∃ g, e = .returned (.pointer (some ⟨g, 0, none⟩)) ∧ Hold w0 w' (rnA g th 0 (-1) * R) := by
  have H := hid (h.newBlk (t := 90) (cs := #[.int .i64 th, .int .i64 0, .int .i64 (-1)]))
  clear h
  go_enter Try.func53, Try.ntmps53
  go_wp2
  go_ret
  exact ⟨_, rfl, H.out⟩
theorem rf_new (w0 w : World) (R : Asr) (th n : Int) (h : Hold w0 w R) : Calls Try.prog 41 #[.int .i64 th, .int .i64 n] w fun e w' => ∃ g, e = .returned (.pointer (some ⟨g, 0, none⟩)) ∧ Hold w0 w' (rfA g th n (-1) 0 * R) := by
  have H := hid (h.newBlk (t := 80) (cs := #[.int .i64 th, .int .i64 n, .int .i64 (-1), .int .i64 0]))
  clear h
  go_enter Try.func41, Try.ntmps41
  go_wp2
  go_ret
  exact ⟨_, rfl, H.out⟩
theorem rn_done (w0 w : World) (R : Asr) (g : Nat) (th at_ rv : Int) (h : Hold w0 w (rnA g th at_ rv * R)) : Calls Try.prog 55 #[.pointer (some ⟨g, 0, none⟩)] w fun e w' => e = .returned (.bool (at_ == 3)) ∧ w = w' := by
  have q := h.blk.some_ (i := 1) rfl
  clear h
  go_enter Try.func55, Try.ntmps55
  go_wp2
  go_ret
  exact ⟨rfl, rfl⟩
theorem rf_done (w0 w : World) (R : Asr) (g : Nat) (th n lim nx : Int) (h : Hold w0 w (rfA g th n lim nx * R)) : Calls Try.prog 43 #[.pointer (some ⟨g, 0, none⟩)] w fun e w' => e = .returned (.bool (decide (0 ≤ lim) && decide (n ≤ nx))) ∧ Hold w0 w' (rfA g th n lim nx * R) := by
  replace h := h.drew
  by_cases hl : 0 ≤ lim
  · have e1 : decide (0 ≤ lim) = true := decide_eq_true hl
    clear hl
    go_enter Try.func43, Try.ntmps43
    go_wp2_with fail
    refine wp_region_brk [] (by kernel_rfl) ?_
    refine wpAnyB_now (fun w' => Hold w0 w' (rfA g th n lim nx * R)) (fun _ _ => trivial) _ _ _ _ ?_
    refine' wpAnyB_bulk [true, true, true, true, true, true, true, true, true, true, true, true, true, true, true, true, true] 19 (listed' := #[true, true, true, true, true, true, true, true, true, true, true, true, true, true, true, true, true]) rfl (by kernel_rfl) (by kernel_rfl) (by kernel_rfl) (by kernel_rfl) (by kernel_rfl) (by kernel_rfl) (by decide) (fun _ _ _ _ h => h) rfl h (fun wq hq => ?_) ?_; rotate_left 1
    · simp only [maskL]
      have q1 := hq.blk.some_ (i := 1) rfl
      have q2 := hq.blk.some_ (i := 2) rfl
      have q3 := hq.blk.some_ (i := 3) rfl
      repeat (go_big_quiet_step (fail))
      exact wpQuiet_nil rfl
    refine wpAnyB_done (by kernel_rfl) ?_ _
    have H := hid h
    clear h
    go_wp2_with fail
    go_ret
    exact ⟨by simp [e1], H.out⟩
  · have e1 : decide (0 ≤ lim) = false := decide_eq_false hl
    clear hl
    go_enter Try.func43, Try.ntmps43
    go_wp2_with fail
    refine wp_region_brk [] (by kernel_rfl) ?_
    refine wpAnyB_now (fun w' => Hold w0 w' (rfA g th n lim nx * R)) (fun _ _ => trivial) _ _ _ _ ?_
    refine' wpAnyB_bulk [true, true, true, true, true, true, true, true, true, true, true, true, true, true, true, true, true] 19 (listed' := #[true, true, true, true, true, true, true, true, true, true, true, true, true, true, true, true, true]) rfl (by kernel_rfl) (by kernel_rfl) (by kernel_rfl) (by kernel_rfl) (by kernel_rfl) (by kernel_rfl) (by decide) (fun _ _ _ _ h => h) rfl h (fun wq hq => ?_) ?_; rotate_left 1
    · simp only [maskL]
      have q1 := hq.blk.some_ (i := 1) rfl
      have q2 := hq.blk.some_ (i := 2) rfl
      have q3 := hq.blk.some_ (i := 3) rfl
      repeat (go_big_quiet_step (fail))
      exact wpQuiet_nil rfl
    refine wpAnyB_done (by kernel_rfl) ?_ _
    have H := hid h
    clear h
    go_wp2_with fail
    go_ret
    exact ⟨by simp [e1], H.out⟩
set_option maxHeartbeats 2000000 in
theorem rf_skip (w0 w : World) (R : Asr) (g : Nat) (th n lim nx : Int) (h : Hold w0 w (rfA g th n lim nx * R)) (hb : 0 ≤ nx ∧ nx ≤ 1000) : Calls Try.prog 76 #[.pointer (some ⟨g, 0, none⟩)] w fun e w' => e = .returned (.tuple #[]) ∧ Hold w0 w' (rfA g th n lim (skipN th nx) * R) := by
  replace h := h.drew
  by_cases he : nx = th
  · subst he
    rw [show skipN nx nx = nx + 1 from if_pos rfl]
    go_enter Try.func76, Try.ntmps76
    go_wp2_with fail
    refine wp_region_brk [] (by kernel_rfl) ?_
    refine wpAnyB_now (fun w' => Hold w0 w' (rfA g nx n lim nx * R)) (fun _ _ => trivial) _ _ _ _ ?_
    refine' wpAnyB_bulk [true, true, true, true, true, true, true, true, true] 18 (listed' := #[true, true, true, true, true, true, true, true, true]) rfl (by kernel_rfl) (by kernel_rfl) (by kernel_rfl) (by kernel_rfl) (by kernel_rfl) (by kernel_rfl) (by decide) (fun _ _ _ _ h => h) rfl h (fun wq hq => ?_) ?_; rotate_left 1
    · simp only [maskL]
      have q0 := hq.blk.some_ (i := 0) rfl
      have q3 := hq.blk.some_ (i := 3) rfl
      repeat (go_big_quiet_step (fail))
      exact wpQuiet_nil rfl
    refine wpAnyB_done (by kernel_rfl) ?_ _
    have q3 := h.blk.some_ (i := 3) (u := .int .i64 nx) rfl
    have z3 := h.blk.frozen 3
    have e1 : (nx == nx) = true := by simp
    have H := hid (h.setBlk 3 (.int .i64 (nx + 1)))
    clear h
    go_wp2_with fail
    go_end0
    exact ⟨rfl, H.out⟩
  · have e1 : (nx == th) = false := by simp [he]
    rw [show skipN th nx = nx from if_neg he]
    clear he
    go_enter Try.func76, Try.ntmps76
    go_wp2_with fail
    refine wp_region_brk [] (by kernel_rfl) ?_
    refine wpAnyB_now (fun w' => Hold w0 w' (rfA g th n lim nx * R)) (fun _ _ => trivial) _ _ _ _ ?_
    refine' wpAnyB_bulk [true, true, true, true, true, true, true, true, true] 18 (listed' := #[true, true, true, true, true, true, true, true, true]) rfl (by kernel_rfl) (by kernel_rfl) (by kernel_rfl) (by kernel_rfl) (by kernel_rfl) (by kernel_rfl) (by decide) (fun _ _ _ _ h => h) rfl h (fun wq hq => ?_) ?_; rotate_left 1
    · simp only [maskL]
      have q0 := hq.blk.some_ (i := 0) rfl
      have q3 := hq.blk.some_ (i := 3) rfl
      repeat (go_big_quiet_step (fail))
      exact wpQuiet_nil rfl
    refine wpAnyB_done (by kernel_rfl) ?_ _
    have H := hid h
    clear h
    go_wp2_with fail
    go_end0
    exact ⟨rfl, H.out⟩
theorem rf_passes (w : World) (slot lim : Int) (hs : 0 ≤ slot ∧ slot < 18446744073709551616) (hl : 0 ≤ lim ∧ lim ≤ 9223372036854775807) : Calls Try.prog 77 #[.int .u64 slot, .int .i64 lim] w fun e w' => e = .returned (.bool (passB slot lim)) ∧ w = w' := by
  by_cases h0 : slot = 0
  · subst h0
    rw [show passB 0 lim = true from rfl]
    go_enter Try.func77, Try.ntmps77
    go_wp2_with fail
    go_ret
    exact ⟨rfl, rfl⟩
  · have e0 : (slot == 0) = false := by simp [h0]
    by_cases h1 : 2 ≤ slot
    · have e1 : decide (2 ≤ slot) = true := decide_eq_true h1
      rw [show passB slot lim = decide (lim ≤ slot - 2) by simp [passB, h0, h1]]
      clear h0
      go_enter Try.func77, Try.ntmps77
      go_wp2_with fail
      go_ret
      exact ⟨rfl, rfl⟩
    · have e1 : decide (2 ≤ slot) = false := decide_eq_false h1
      rw [show passB slot lim = false by simp [passB, h0, h1]]
      clear h0 h1
      go_enter Try.func77, Try.ntmps77
      go_wp2_with fail
      go_ret
      exact ⟨rfl, rfl⟩
set_option maxRecDepth 8000 in
set_option maxHeartbeats 4000000 in
theorem rn_step0 (w0 w : World) (R : Asr) (g m : Nat) (c : Cfg) (C : Nat → List Int) (th rv : Int) (a : Acc) (h : Hold w0 w (rnA g th 0 rv * (refA m c C * R))) (hC : COk C) (ha : opA C 2 6 th 1 true = a) :
    Calls Try.prog 56 #[.pointer (some ⟨g, 0, none⟩), .pointer (some ⟨m, 0, none⟩)] w (RAccPost w0 (rnA g th 1 rv * (refA m c (opC C 6 th 1 true) * R)) a) := by
  have HA := hid ha
  have HK := hid hC
  have H1 := hid (h.newBlk (t := 50) (cs := #[.int .i64 0, .int .i64 0, .int .i64 0, .int .u64 0, .int .u64 0, .bool false]))
  clear h ha hC
  go_enter Try.func56, Try.ntmps56
  go_upto_region 1 with fail
  have h1 := H1.out
  generalize hW : World.alloc _ _ = W at h1 ⊢
  generalize w.heap.size = gr at h1 ⊢
  clear hW H1
  have h2 : Hold w0 W (rnA g th 0 rv * (blkA 50 gr #[.int .i64 0, .int .i64 0, .int .i64 0, .int .u64 0, .int .u64 0, .bool false] * (refA m c C * R))) := h1.swap
  clear h1
  have p1 := h2.blk.some_ (i := 1) (u := .int .i64 0) rfl
  have s1 := h2.blk.frozen 1
  have H3 := hid (h2.setBlk 1 (.int .i64 1))
  clear h2
  go_upto_region 2 with fail
  have h3 := H3.out
  generalize hW : World.setCell _ _ _ = W3 at h3 ⊢
  clear hW H3 p1 s1
  replace h3 : Hold w0 W3 (rnA g th 1 rv * (blkA 50 gr #[.int .i64 0, .int .i64 0, .int .i64 0, .int .u64 0, .int .u64 0, .bool false] * (refA m c C * R))) := h3
  have p0 := h3.blk.some_ (i := 0) rfl
  have p1 := h3.blk.some_ (i := 1) rfl
  have p2 := h3.blk.some_ (i := 2) rfl
  go_wp2_with fail
  refine (ref_store w0 _ _ m c C 6 th 1 (h3.pk3 [2, 0, 1]) HK.out).mono ?_
  rintro e w4 ⟨rfl, h7⟩
  rw [HA.out]
  clear h3 p0 p1 p2
  obtain ⟨⟨x0, x1, x2, x3, x4, x5⟩, z0, z1, z2, z3, z4, z5⟩ := blk_acc (h7.pk3 [2, 0, 1]).blk
  have H8 := hid ((h7.pk3 [2, 0, 1]).setAcc (.int .i64 a.kind) (.int .i64 a.cell) (.int .i64 a.index) (.int .u64 a.got) (.int .u64 a.put) (.bool a.done))
  clear h7
  go_wp2_with fail
  have h8 := H8.out
  generalize hW : World.setCell _ _ _ = W8 at h8 ⊢
  clear hW H8 x0 x1 x2 x3 x4 x5 z0 z1 z2 z3 z4 z5
  obtain ⟨⟨y0, y1, y2, y3, y4, y5⟩, _⟩ := blk_acc h8.blk
  have hfin : Hid (RAccPost w0 (rnA g th 1 rv * (refA m c (opC C 6 th 1 true) * R)) a (.returned a.val) W8) := hid ⟨rfl, h8.pk3 [2, 1]⟩
  exact bodyPost_ret (v := a.val) (by simp [results, Try.results56, go_sem, y0, y1, y2, y3, y4, y5]) rfl hfin.out
set_option maxRecDepth 8000 in
set_option maxHeartbeats 4000000 in
theorem rn_step2 (w0 w : World) (R : Asr) (g m : Nat) (c : Cfg) (C : Nat → List Int) (th rv : Int) (a : Acc) (h : Hold w0 w (rnA g th 2 rv * (refA m c C * R))) (hC : COk C) (hr : 0 ≤ rv ∧ rv ≤ 1099511627776) (ha : opA C 2 6 th (rv + 2) true = a) :
    Calls Try.prog 56 #[.pointer (some ⟨g, 0, none⟩), .pointer (some ⟨m, 0, none⟩)] w (RAccPost w0 (rnA g th 3 rv * (refA m c (opC C 6 th (rv + 2) true) * R)) a) := by
  have HA := hid ha
  have HK := hid hC
  have H1 := hid (h.newBlk (t := 50) (cs := #[.int .i64 0, .int .i64 0, .int .i64 0, .int .u64 0, .int .u64 0, .bool false]))
  clear h ha hC
  go_enter Try.func56, Try.ntmps56
  go_upto_region 1 with fail
  have h1 := H1.out
  generalize hW : World.alloc _ _ = W at h1 ⊢
  generalize w.heap.size = gr at h1 ⊢
  clear hW H1
  have h2 : Hold w0 W (rnA g th 2 rv * (blkA 50 gr #[.int .i64 0, .int .i64 0, .int .i64 0, .int .u64 0, .int .u64 0, .bool false] * (refA m c C * R))) := h1.swap
  clear h1
  have p1 := h2.blk.some_ (i := 1) (u := .int .i64 2) rfl
  have s1 := h2.blk.frozen 1
  have H3 := hid (h2.setBlk 1 (.int .i64 3))
  clear h2
  go_upto_region 2 with fail
  have h3 := H3.out
  generalize hW : World.setCell _ _ _ = W3 at h3 ⊢
  clear hW H3 p1 s1
  replace h3 : Hold w0 W3 (rnA g th 3 rv * (blkA 50 gr #[.int .i64 0, .int .i64 0, .int .i64 0, .int .u64 0, .int .u64 0, .bool false] * (refA m c C * R))) := h3
  have p0 := h3.blk.some_ (i := 0) rfl
  have p1 := h3.blk.some_ (i := 1) rfl
  have p2 := h3.blk.some_ (i := 2) rfl
  go_wp2_with fail
  refine (Go.Proofs.Ytigjpfhjddkckaa.W.ractive_yes _ rv hr.1 hr.2).mono ?_
  rintro e w' ⟨rfl, rfl⟩
  go_wp2_with fail
  refine (ref_store w0 _ _ m c C 6 th (rv + 2) (h3.pk3 [2, 0, 1]) HK.out).mono ?_
  rintro e w4 ⟨rfl, h7⟩
  rw [HA.out]
  clear h3 p0 p1 p2
  obtain ⟨⟨x0, x1, x2, x3, x4, x5⟩, z0, z1, z2, z3, z4, z5⟩ := blk_acc (h7.pk3 [2, 0, 1]).blk
  have H8 := hid ((h7.pk3 [2, 0, 1]).setAcc (.int .i64 a.kind) (.int .i64 a.cell) (.int .i64 a.index) (.int .u64 a.got) (.int .u64 a.put) (.bool a.done))
  clear h7
  go_wp2_with fail
  have h8 := H8.out
  generalize hW : World.setCell _ _ _ = W8 at h8 ⊢
  clear hW H8 x0 x1 x2 x3 x4 x5 z0 z1 z2 z3 z4 z5
  obtain ⟨⟨y0, y1, y2, y3, y4, y5⟩, _⟩ := blk_acc h8.blk
  have hfin : Hid (RAccPost w0 (rnA g th 3 rv * (refA m c (opC C 6 th (rv + 2) true) * R)) a (.returned a.val) W8) := hid ⟨rfl, h8.pk3 [2, 1]⟩
  exact bodyPost_ret (v := a.val) (by simp [results, Try.results56, go_sem, y0, y1, y2, y3, y4, y5]) rfl hfin.out
set_option maxRecDepth 8000 in
set_option maxHeartbeats 4000000 in
theorem rn_step1 (w0 w : World) (R : Asr) (g m : Nat) (c : Cfg) (C : Nat → List Int) (th rv : Int) (a : Acc) (h : Hold w0 w (rnA g th 1 rv * (refA m c C * R))) (hC : COk C) (hg : 0 ≤ a.got ∧ a.got ≤ 9223372036854775807) (ha : opA C 1 3 0 (valC C 3 0) true = a) :
    Calls Try.prog 56 #[.pointer (some ⟨g, 0, none⟩), .pointer (some ⟨m, 0, none⟩)] w (RAccPost w0 (rnA g th 2 a.got * (refA m c C * R)) a) := by
  have HA := hid ha
  have HK := hid hC
  have H1 := hid (h.newBlk (t := 50) (cs := #[.int .i64 0, .int .i64 0, .int .i64 0, .int .u64 0, .int .u64 0, .bool false]))
  clear h ha hC
  go_enter Try.func56, Try.ntmps56
  go_upto_region 1 with fail
  have h1 := H1.out
  generalize hW : World.alloc _ _ = W at h1 ⊢
  generalize w.heap.size = gr at h1 ⊢
  clear hW H1
  have h2 : Hold w0 W (rnA g th 1 rv * (blkA 50 gr #[.int .i64 0, .int .i64 0, .int .i64 0, .int .u64 0, .int .u64 0, .bool false] * (refA m c C * R))) := h1.swap
  clear h1
  have p1 := h2.blk.some_ (i := 1) (u := .int .i64 1) rfl
  have s1 := h2.blk.frozen 1
  have H3 := hid (h2.setBlk 1 (.int .i64 2))
  clear h2
  go_upto_region 2 with fail
  have h3 := H3.out
  generalize hW : World.setCell _ _ _ = W3 at h3 ⊢
  clear hW H3 p1 s1
  replace h3 : Hold w0 W3 (rnA g th 2 rv * (blkA 50 gr #[.int .i64 0, .int .i64 0, .int .i64 0, .int .u64 0, .int .u64 0, .bool false] * (refA m c C * R))) := h3
  have p0 := h3.blk.some_ (i := 0) rfl
  have p1 := h3.blk.some_ (i := 1) rfl
  have p2 := h3.blk.some_ (i := 2) rfl
  go_wp2_with fail
  refine (ref_load w0 _ _ m c C 3 0 (h3.pk3 [2, 0, 1]) HK.out).mono ?_
  rintro e w4 ⟨rfl, h4⟩
  rw [HA.out]
  clear h3 p0 p1 p2
  have H5 := hid (h4.newBlk (t := 50) (cs := #[.int .i64 a.kind, .int .i64 a.cell, .int .i64 a.index, .int .u64 a.got, .int .u64 a.put, .bool a.done]))
  clear h4
  go_upto_region 7 with fail
  have h5 := H5.out
  generalize hW : World.alloc _ _ = W5 at h5 ⊢
  generalize w4.heap.size = ga at h5 ⊢
  clear hW H5
  have h6 : Hold w0 W5 (rnA g th 2 rv * (blkA 50 ga #[.int .i64 a.kind, .int .i64 a.cell, .int .i64 a.index, .int .u64 a.got, .int .u64 a.put, .bool a.done] * (blkA 50 gr #[.int .i64 0, .int .i64 0, .int .i64 0, .int .u64 0, .int .u64 0, .bool false] * (refA m c C * R)))) := h5.pk4 [2, 0, 3, 1]
  clear h5
  have y3 := h6.drop.blk.some_ (i := 3) rfl
  have q2 := h6.blk.some_ (i := 2) (u := .int .i64 rv) rfl
  have s2 := h6.blk.frozen 2
  have H7 := hid (h6.setBlk 2 (.int .i64 a.got))
  clear h6
  go_upto_region 8 with fail
  have h7 := H7.out
  generalize hW : World.setCell _ _ _ = W7 at h7 ⊢
  clear hW H7 y3 q2 s2
  replace h7 : Hold w0 W7 (rnA g th 2 a.got * (blkA 50 ga #[.int .i64 a.kind, .int .i64 a.cell, .int .i64 a.index, .int .u64 a.got, .int .u64 a.put, .bool a.done] * (blkA 50 gr #[.int .i64 0, .int .i64 0, .int .i64 0, .int .u64 0, .int .u64 0, .bool false] * (refA m c C * R)))) := h7
  obtain ⟨⟨x0, x1, x2, x3, x4, x5⟩, z0, z1, z2, z3, z4, z5⟩ := blk_acc (h7.pk3 [2, 0, 1]).blk
  obtain ⟨⟨y0, y1, y2, y3, y4, y5⟩, _⟩ := blk_acc (h7.pk2 [1, 0]).blk
  have H8 := hid ((h7.pk3 [2, 0, 1]).setAcc (.int .i64 a.kind) (.int .i64 a.cell) (.int .i64 a.index) (.int .u64 a.got) (.int .u64 a.put) (.bool a.done))
  clear h7
  go_wp2_with fail
  have h8 := H8.out
  generalize hW : World.setCell _ _ _ = W8 at h8 ⊢
  clear hW H8 x0 x1 x2 x3 x4 x5 z0 z1 z2 z3 z4 z5 y0 y1 y2 y3 y4 y5
  obtain ⟨⟨y0, y1, y2, y3, y4, y5⟩, _⟩ := blk_acc h8.blk
  have hfin : Hid (RAccPost w0 (rnA g th 2 a.got * (refA m c C * R)) a (.returned a.val) W8) := hid ⟨rfl, h8.pk4 [1, 3]⟩
  exact bodyPost_ret (v := a.val) (by simp [results, Try.results56, go_sem, y0, y1, y2, y3, y4, y5]) rfl hfin.out
set_option maxRecDepth 8000 in
set_option maxHeartbeats 4000000 in
theorem rn_step3 (w0 w : World) (R : Asr) (g : Nat) (m : Value) (th rv : Int) (h : Hold w0 w (rnA g th 3 rv * R)) :
    Calls Try.prog 56 #[.pointer (some ⟨g, 0, none⟩), m] w (RAccPost w0 (rnA g th 3 rv * R) acc0) := by
  have H1 := hid (h.newBlk (t := 50) (cs := #[.int .i64 0, .int .i64 0, .int .i64 0, .int .u64 0, .int .u64 0, .bool false]))
  clear h
  go_enter Try.func56, Try.ntmps56
  go_upto_region 1 with fail
  have h1 := H1.out
  generalize hW : World.alloc _ _ = W at h1 ⊢
  generalize w.heap.size = gr at h1 ⊢
  clear hW H1
  have h2 : Hold w0 W (rnA g th 3 rv * (blkA 50 gr #[.int .i64 0, .int .i64 0, .int .i64 0, .int .u64 0, .int .u64 0, .bool false] * R)) := h1.swap
  clear h1
  have p1 := h2.blk.some_ (i := 1) (u := .int .i64 3) rfl
  have s1 := h2.blk.frozen 1
  have H3 := hid (h2.setBlk 1 (.int .i64 4))
  clear h2
  go_upto_region 2 with fail
  have h3 := H3.out
  generalize hW : World.setCell _ _ _ = W3 at h3 ⊢
  clear hW H3 p1 s1
  replace h3 : Hold w0 W3 (rnA g th 4 rv * (blkA 50 gr #[.int .i64 0, .int .i64 0, .int .i64 0, .int .u64 0, .int .u64 0, .bool false] * R)) := h3
  have p1 := h3.blk.some_ (i := 1) (u := .int .i64 4) rfl
  have s1 := h3.blk.frozen 1
  have H4 := hid (h3.setBlk 1 (.int .i64 3))
  clear h3
  go_upto_region 13 with fail
  have h4 := H4.out
  generalize hW : World.setCell _ _ _ = W4 at h4 ⊢
  clear hW H4 p1 s1
  replace h4 : Hold w0 W4 (rnA g th 3 rv * (blkA 50 gr #[.int .i64 0, .int .i64 0, .int .i64 0, .int .u64 0, .int .u64 0, .bool false] * R)) := h4
  obtain ⟨⟨x0, x1, x2, x3, x4, x5⟩, z0, z1, z2, z3, z4, z5⟩ := blk_acc h4.swap.blk
  have H8 := hid (h4.swap.setAcc (.int .i64 0) (.int .i64 0) (.int .i64 0) (.int .u64 0) (.int .u64 0) (.bool false))
  clear h4
  go_wp2_with fail
  have h8 := H8.out
  generalize hW : World.setCell _ _ _ = W8 at h8 ⊢
  clear hW H8 x0 x1 x2 x3 x4 x5 z0 z1 z2 z3 z4 z5
  obtain ⟨⟨y0, y1, y2, y3, y4, y5⟩, _⟩ := blk_acc h8.blk
  have hfin : Hid (RAccPost w0 (rnA g th 3 rv * R) acc0 (.returned acc0.val) W8) := hid ⟨rfl, h8.drop⟩
  exact bodyPost_ret (v := acc0.val) (by simp [results, Try.results56, go_sem, acc0, y0, y1, y2, y3, y4, y5]) rfl hfin.out
set_option maxHeartbeats 2000000 in
theorem r_leave (w0 w : World) (R : Asr) (r : Nat) (c : Cfg) (C : Nat → List Int) (th : Int) (h : Hold w0 w (refA r c C * R)) (hC : COk C) :
    Calls Try.prog 58 #[.pointer (some ⟨r, 0, none⟩), .int .i64 th] w (RAccPost w0 (refA r c (opC C 6 th 0 true) * R) (opA C 2 6 th 0 true)) := by
  obtain ⟨a, ha⟩ : ∃ a, a = opA C 2 6 th 0 true := ⟨_, rfl⟩
  rw [← ha]
  have HA := hid ha
  have HK := hid hC
  have h2 := (h.newBlk (t := 50) (cs := #[.int .i64 0, .int .i64 0, .int .i64 0, .int .u64 0, .int .u64 0, .bool false])).swap
  have H2 := hid h2
  clear ha hC h h2
  go_enter Try.func58, Try.ntmps58
  go_wp2_with fail
  have h2 := H2.out
  generalize hW : World.alloc _ _ = W at h2 ⊢
  generalize w.heap.size = gr at h2 ⊢
  clear hW H2
  refine (ref_store w0 _ _ r c C 6 th 0 h2 HK.out).mono ?_
  rintro e w1 ⟨rfl, h3⟩
  rw [← HA.out]
  obtain ⟨⟨x0, x1, x2, x3, x4, x5⟩, z0, z1, z2, z3, z4, z5⟩ := blk_acc h3.swap.blk
  have H4 := hid (h3.swap.setAcc (.int .i64 a.kind) (.int .i64 a.cell) (.int .i64 a.index) (.int .u64 a.got) (.int .u64 a.put) (.bool a.done))
  clear h2 h3
  go_wp2_with fail
  have h4 := H4.out
  generalize hW : World.setCell _ _ _ = W4 at h4 ⊢
  clear hW H4 x0 x1 x2 x3 x4 x5 z0 z1 z2 z3 z4 z5
  obtain ⟨⟨y0, y1, y2, y3, y4, y5⟩, _⟩ := blk_acc h4.blk
  have hfin : Hid (RAccPost w0 (refA r c (opC C 6 th 0 true) * R) a (.returned a.val) W4) := hid ⟨rfl, h4.drop⟩
  exact bodyPost_ret (v := a.val) (by simp [results, Try.results58, go_sem, y0, y1, y2, y3, y4, y5]) rfl hfin.out
set_option maxRecDepth 8000 in
set_option maxHeartbeats 4000000 in
theorem rf_step_done (w0 w : World) (R : Asr) (g : Nat) (m : Value) (th n lim nx : Int) (h : Hold w0 w (rfA g th n lim nx * R)) (hl : 0 ≤ lim) (hn : n ≤ nx) :
    Calls Try.prog 46 #[.pointer (some ⟨g, 0, none⟩), m] w (RAccPost w0 (rfA g th n lim nx * R) acc0) := by
  have el : decide (lim < 0) = false := decide_eq_false (by omega)
  have en : (decide (0 ≤ lim) && decide (n ≤ nx)) = true := by simp [hn, hl]
  have HN := hid en
  have H1 := hid (h.newBlk (t := 50) (cs := #[.int .i64 0, .int .i64 0, .int .i64 0, .int .u64 0, .int .u64 0, .bool false]))
  clear h hl hn en
  go_enter Try.func46, Try.ntmps46
  go_upto_region 1 with fail
  have h1 := H1.out
  generalize hW : World.alloc _ _ = W at h1 ⊢
  generalize w.heap.size = gr at h1 ⊢
  clear hW H1
  have h2 : Hold w0 W (rfA g th n lim nx * (blkA 50 gr #[.int .i64 0, .int .i64 0, .int .i64 0, .int .u64 0, .int .u64 0, .bool false] * R)) := h1.swap
  clear h1
  have p2 := h2.blk.some_ (i := 2) rfl
  go_wp2_with fail
  refine (rf_done w0 _ _ g th n lim nx h2).mono ?_
  rintro e w3 ⟨rfl, h4⟩
  rw [HN.out]
  clear h2 p2
  obtain ⟨⟨x0, x1, x2, x3, x4, x5⟩, z0, z1, z2, z3, z4, z5⟩ := blk_acc h4.swap.blk
  have H8 := hid (h4.swap.setAcc (.int .i64 0) (.int .i64 0) (.int .i64 0) (.int .u64 0) (.int .u64 0) (.bool false))
  clear h4
  go_wp2_with fail
  have h8 := H8.out
  generalize hW : World.setCell _ _ _ = W8 at h8 ⊢
  clear hW H8 x0 x1 x2 x3 x4 x5 z0 z1 z2 z3 z4 z5
  obtain ⟨⟨y0, y1, y2, y3, y4, y5⟩, _⟩ := blk_acc h8.blk
  have hfin : Hid (RAccPost w0 (rfA g th n lim nx * R) acc0 (.returned acc0.val) W8) := hid ⟨rfl, h8.drop⟩
  exact bodyPost_ret (v := acc0.val) (by simp [results, Try.results46, go_sem, acc0, y0, y1, y2, y3, y4, y5]) rfl hfin.out
set_option maxRecDepth 8000 in
set_option maxHeartbeats 4000000 in
theorem rf_step_load (w0 w : World) (R : Asr) (g m : Nat) (c : Cfg) (C : Nat → List Int) (th n nx : Int) (a : Acc) (h : Hold w0 w (rfA g th n (-1) nx * (refA m c C * R))) (hC : COk C) (hb : 0 ≤ nx ∧ nx ≤ 1000) (hg : 0 ≤ a.got ∧ a.got ≤ 9223372036854775807) (ha : opA C 1 3 0 (valC C 3 0) true = a) :
    Calls Try.prog 46 #[.pointer (some ⟨g, 0, none⟩), .pointer (some ⟨m, 0, none⟩)] w (RAccPost w0 (rfA g th n a.got (skipN th nx) * (refA m c C * R)) a) := by
  have HA := hid ha
  have HK := hid hC
  have H1 := hid (h.newBlk (t := 50) (cs := #[.int .i64 0, .int .i64 0, .int .i64 0, .int .u64 0, .int .u64 0, .bool false]))
  clear h ha hC
  go_enter Try.func46, Try.ntmps46
  go_upto_region 1 with fail
  have h1 := H1.out
  generalize hW : World.alloc _ _ = W at h1 ⊢
  generalize w.heap.size = gr at h1 ⊢
  clear hW H1
  have h2 : Hold w0 W (rfA g th n (-1) nx * (blkA 50 gr #[.int .i64 0, .int .i64 0, .int .i64 0, .int .u64 0, .int .u64 0, .bool false] * (refA m c C * R))) := h1.swap
  clear h1
  have p2 := h2.blk.some_ (i := 2) rfl
  go_wp2_with fail
  refine (ref_load w0 _ _ m c C 3 0 (h2.pk3 [2, 0, 1]) HK.out).mono ?_
  rintro e w4 ⟨rfl, h4⟩
  rw [HA.out]
  clear h2 p2
  have H5 := hid (h4.newBlk (t := 50) (cs := #[.int .i64 a.kind, .int .i64 a.cell, .int .i64 a.index, .int .u64 a.got, .int .u64 a.put, .bool a.done]))
  clear h4
  go_upto_region 3 with fail
  have h5 := H5.out
  generalize hW : World.alloc _ _ = W5 at h5 ⊢
  generalize w4.heap.size = ga at h5 ⊢
  clear hW H5
  have h6 : Hold w0 W5 (rfA g th n (-1) nx * (blkA 50 ga #[.int .i64 a.kind, .int .i64 a.cell, .int .i64 a.index, .int .u64 a.got, .int .u64 a.put, .bool a.done] * (blkA 50 gr #[.int .i64 0, .int .i64 0, .int .i64 0, .int .u64 0, .int .u64 0, .bool false] * (refA m c C * R)))) := h5.pk4 [2, 0, 3, 1]
  clear h5
  have y3 := h6.drop.blk.some_ (i := 3) rfl
  have q2 := h6.blk.some_ (i := 2) (u := .int .i64 (-1)) rfl
  have s2 := h6.blk.frozen 2
  have H7 := hid (h6.setBlk 2 (.int .i64 a.got))
  clear h6
  go_upto_region 4 with fail
  have h7 := H7.out
  generalize hW : World.setCell _ _ _ = W7 at h7 ⊢
  clear hW H7 y3 q2 s2
  go_wp2_with fail
  refine (rf_skip w0 _ _ g th n a.got nx h7 hb).mono ?_
  rintro e w8 ⟨rfl, h8⟩
  clear h7
  have h7 : Hold w0 w8 (rfA g th n a.got (skipN th nx) * (blkA 50 ga #[.int .i64 a.kind, .int .i64 a.cell, .int .i64 a.index, .int .u64 a.got, .int .u64 a.put, .bool a.done] * (blkA 50 gr #[.int .i64 0, .int .i64 0, .int .i64 0, .int .u64 0, .int .u64 0, .bool false] * (refA m c C * R)))) := h8
  clear h8
  obtain ⟨⟨x0, x1, x2, x3, x4, x5⟩, z0, z1, z2, z3, z4, z5⟩ := blk_acc (h7.pk3 [2, 0, 1]).blk
  obtain ⟨⟨y0, y1, y2, y3, y4, y5⟩, _⟩ := blk_acc (h7.pk2 [1, 0]).blk
  have H8 := hid ((h7.pk3 [2, 0, 1]).setAcc (.int .i64 a.kind) (.int .i64 a.cell) (.int .i64 a.index) (.int .u64 a.got) (.int .u64 a.put) (.bool a.done))
  clear h7
  go_wp2_with fail
  have h8 := H8.out
  generalize hW : World.setCell _ _ _ = W8 at h8 ⊢
  clear hW H8 x0 x1 x2 x3 x4 x5 z0 z1 z2 z3 z4 z5 y0 y1 y2 y3 y4 y5
  obtain ⟨⟨y0, y1, y2, y3, y4, y5⟩, _⟩ := blk_acc h8.blk
  have hfin : Hid (RAccPost w0 (rfA g th n a.got (skipN th nx) * (refA m c C * R)) a (.returned a.val) W8) := hid ⟨rfl, h8.pk4 [1, 3]⟩
  exact bodyPost_ret (v := a.val) (by simp [results, Try.results46, go_sem, y0, y1, y2, y3, y4, y5]) rfl hfin.out
set_option maxRecDepth 8000 in
set_option maxHeartbeats 4000000 in
theorem rf_step_watch (w0 w : World) (R : Asr) (g m : Nat) (c : Cfg) (C : Nat → List Int) (th n lim nx : Int) (a : Acc) (h : Hold w0 w (rfA g th n lim nx * (refA m c C * R))) (hC : COk C) (hl : 0 ≤ lim ∧ lim ≤ 9223372036854775807) (hb : 0 ≤ nx ∧ nx ≤ 100) (hn : nx < n) (hg : 0 ≤ a.got ∧ a.got < 18446744073709551616) (ha : opA C 1 6 nx (valC C 6 nx) true = a) :
    Calls Try.prog 46 #[.pointer (some ⟨g, 0, none⟩), .pointer (some ⟨m, 0, none⟩)] w (RAccPost w0 (rfA g th n lim (fenN th lim nx a.got) * (refA m c C * R)) a) := by
  have HA := hid ha
  have HK := hid hC
  have el : decide (lim < 0) = false := decide_eq_false (by omega)
  have en : (decide (0 ≤ lim) && decide (n ≤ nx)) = false := by simp; omega
  have HN := hid en
  have H1 := hid (h.newBlk (t := 50) (cs := #[.int .i64 0, .int .i64 0, .int .i64 0, .int .u64 0, .int .u64 0, .bool false]))
  clear h ha hC hn en
  go_enter Try.func46, Try.ntmps46
  go_upto_region 1 with fail
  have h1 := H1.out
  generalize hW : World.alloc _ _ = W at h1 ⊢
  generalize w.heap.size = gr at h1 ⊢
  clear hW H1
  have h2 : Hold w0 W (rfA g th n lim nx * (blkA 50 gr #[.int .i64 0, .int .i64 0, .int .i64 0, .int .u64 0, .int .u64 0, .bool false] * (refA m c C * R))) := h1.swap
  clear h1
  have p2 := h2.blk.some_ (i := 2) rfl
  go_wp2_with fail
  refine (rf_done w0 _ _ g th n lim nx h2).mono ?_
  rintro e w3 ⟨rfl, h3⟩
  rw [HN.out]
  clear h2 p2 el
  have p3 := h3.blk.some_ (i := 3) rfl
  go_wp2_with fail
  refine (ref_load w0 _ _ m c C 6 nx (h3.pk3 [2, 0, 1]) HK.out).mono ?_
  rintro e w4 ⟨rfl, h4⟩
  rw [HA.out]
  clear h3 p3
  have H5 := hid (h4.newBlk (t := 50) (cs := #[.int .i64 a.kind, .int .i64 a.cell, .int .i64 a.index, .int .u64 a.got, .int .u64 a.put, .bool a.done]))
  clear h4
  go_upto_region 9 with fail
  have h5 := H5.out
  generalize hW : World.alloc _ _ = W5 at h5 ⊢
  generalize w4.heap.size = ga at h5 ⊢
  clear hW H5
  have h6 : Hold w0 W5 (rfA g th n lim nx * (blkA 50 ga #[.int .i64 a.kind, .int .i64 a.cell, .int .i64 a.index, .int .u64 a.got, .int .u64 a.put, .bool a.done] * (blkA 50 gr #[.int .i64 0, .int .i64 0, .int .i64 0, .int .u64 0, .int .u64 0, .bool false] * (refA m c C * R)))) := h5.pk4 [2, 0, 3, 1]
  clear h5
  replace h6 := h6.drew
  obtain ⟨pb, hpb⟩ : ∃ pb, pb = passB a.got lim := ⟨_, rfl⟩
  have HPB := hid hpb
  clear hpb
  refine wp_region_brk [] (by kernel_rfl) ?_
  refine wpAnyB_now (fun w' => ∃ Z, Hold w0 w' (rfA g th n lim nx * (blkA 50 ga #[.int .i64 a.kind, .int .i64 a.cell, .int .i64 a.index, .int .u64 a.got, .int .u64 a.put, .bool a.done] * Z))) (fun _ _ => trivial) _ _ _ _ ?_
  refine' wpAnyB_bulk [true, true, true, true, true, true] 49 (listed' := #[true, true, true, true, true, true, false]) rfl (by kernel_rfl) (by kernel_rfl) (by kernel_rfl) (by kernel_rfl) (by kernel_rfl) (by kernel_rfl) (by decide) (fun _ _ _ _ h => h) rfl ⟨_, h6⟩ (fun wq hq => ?_) ?_; rotate_left 1
  · simp only [maskL]
    obtain ⟨Z, hq⟩ := hq
    have q2 := hq.blk.some_ (i := 2) rfl
    have y3 := hq.drop.blk.some_ (i := 3) rfl
    repeat (go_big_quiet_step (fail))
    exact wpQuiet_nil rfl
  refine wpAnyB_bar [false, false, false, false, false, false, true] (fuel := 0) (by rfl) (by rfl) (by kernel_rfl) (fun QB hQB hQX => ?_)
  simp only [maskL]
  go_wp2_with fail
  refine (rf_passes _ a.got lim hg hl).mono ?_
  rintro e w' ⟨rfl, rfl⟩
  rw [← HPB.out]
  go_wp2_with fail
  refine hQB.out _ _ ⟨_, h6⟩ ?_
  clear hQB hQX QB
  refine wpAnyB_done (by kernel_rfl) ?_ _
  replace h6 := h6.undrew
  cases pb
  · have h7 := h6
    clear h6
    obtain ⟨⟨x0, x1, x2, x3, x4, x5⟩, z0, z1, z2, z3, z4, z5⟩ := blk_acc (h7.pk3 [2, 0, 1]).blk
    obtain ⟨⟨y0, y1, y2, y3, y4, y5⟩, _⟩ := blk_acc (h7.pk2 [1, 0]).blk
    have H8 := hid ((h7.pk3 [2, 0, 1]).setAcc (.int .i64 a.kind) (.int .i64 a.cell) (.int .i64 a.index) (.int .u64 a.got) (.int .u64 a.put) (.bool a.done))
    clear h7
    go_wp2_with fail
    have h8 := H8.out
    generalize hW : World.setCell _ _ _ = W8 at h8 ⊢
    clear hW H8 x0 x1 x2 x3 x4 x5 z0 z1 z2 z3 z4 z5 y0 y1 y2 y3 y4 y5
    obtain ⟨⟨y0, y1, y2, y3, y4, y5⟩, _⟩ := blk_acc h8.blk
    have hfin : Hid (RAccPost w0 (rfA g th n lim (fenN th lim nx a.got) * (refA m c C * R)) a (.returned a.val) W8.drew) := hid ⟨rfl, by rw [show fenN th lim nx a.got = nx by unfold fenN; rw [← HPB.out]; rfl]; exact Hold.drew (h8.pk4 [1, 3])⟩
    exact bodyPost_ret (v := a.val) (by simp [results, Try.results46, go_sem, y0, y1, y2, y3, y4, y5]) rfl hfin.out
  · have q3 := h6.blk.some_ (i := 3) (u := .int .i64 nx) rfl
    have s3 := h6.blk.frozen 3
    have H7 := hid (h6.setBlk 3 (.int .i64 (nx + 1)))
    clear h6
    go_upto_region 11 with fail
    have h7 := H7.out
    generalize hW : World.setCell _ _ _ = W7 at h7 ⊢
    clear hW H7 q3 s3
    go_wp2_with fail
    refine (rf_skip w0 _ _ g th n lim (nx + 1) (Hold.drew h7) (by omega)).mono ?_
    rintro e w8 ⟨rfl, h8⟩
    clear h7
    have h7 : Hold w0 w8 (rfA g th n lim (skipN th (nx + 1)) * (blkA 50 ga #[.int .i64 a.kind, .int .i64 a.cell, .int .i64 a.index, .int .u64 a.got, .int .u64 a.put, .bool a.done] * (blkA 50 gr #[.int .i64 0, .int .i64 0, .int .i64 0, .int .u64 0, .int .u64 0, .bool false] * (refA m c C * R)))) := h8
    clear h8
    obtain ⟨⟨x0, x1, x2, x3, x4, x5⟩, z0, z1, z2, z3, z4, z5⟩ := blk_acc (h7.pk3 [2, 0, 1]).blk
    obtain ⟨⟨y0, y1, y2, y3, y4, y5⟩, _⟩ := blk_acc (h7.pk2 [1, 0]).blk
    have H8 := hid ((h7.pk3 [2, 0, 1]).setAcc (.int .i64 a.kind) (.int .i64 a.cell) (.int .i64 a.index) (.int .u64 a.got) (.int .u64 a.put) (.bool a.done))
    clear h7
    go_wp2_with fail
    have h8 := H8.out
    generalize hW : World.setCell _ _ _ = W8 at h8 ⊢
    clear hW H8 x0 x1 x2 x3 x4 x5 z0 z1 z2 z3 z4 z5 y0 y1 y2 y3 y4 y5
    obtain ⟨⟨y0, y1, y2, y3, y4, y5⟩, _⟩ := blk_acc h8.blk
    have hfin : Hid (RAccPost w0 (rfA g th n lim (fenN th lim nx a.got) * (refA m c C * R)) a (.returned a.val) W8) := hid ⟨rfl, by rw [show fenN th lim nx a.got = skipN th (nx + 1) by unfold fenN; rw [← HPB.out]; rfl]; exact h8.pk4 [1, 3]⟩
    exact bodyPost_ret (v := a.val) (by simp [results, Try.results46, go_sem, y0, y1, y2, y3, y4, y5]) rfl hfin.out
end Go.Proofs.Ytigjpfhjddkckaa
