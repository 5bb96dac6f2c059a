/- The reference's read (strongtxref09.Read): contracts. UNDER WAY. -/
import Derived.Test.YtddghhddafeojaaLab
import Derived.Test.YtddghhddafeojaaWd
import Derived.Deep.DeepCutAuto
namespace Go.Proofs.Ytddghhddafeojaa
open Go.RowKit
set_option linter.unusedVariables false

abbrev rrA (g : Nat) (addr orec rv at_ sn vl : Int) : Asr := blkA 92 g #[.int .i64 addr, .int .i64 orec, .int .i64 rv, .int .i64 at_, .int .u64 sn, .int .u64 vl]
theorem rr_new (w0 w : World) (R : Asr) (addr orec rv : Int) (h : Hold w0 w R) : Calls Try.prog 50 #[.int .i64 addr, .int .i64 orec, .int .i64 rv] w fun e w' => ∃ g, e = .returned (.pointer (some ⟨g, 0, none⟩)) ∧ Hold w0 w' (rrA g addr orec rv 0 0 0 * R) := by
  have H := hid (h.newBlk (t := 92) (cs := #[.int .i64 addr, .int .i64 orec, .int .i64 rv, .int .i64 0, .int .u64 0, .int .u64 0]))
  clear h
  go_enter Try.func50, Try.ntmps50
  go_wp2
  go_ret
  exact ⟨_, rfl, H.out⟩
theorem rr_done (w0 w : World) (R : Asr) (g : Nat) (addr orec rv at_ sn vl : Int) (h : Hold w0 w (rrA g addr orec rv at_ sn vl * R)) : Calls Try.prog 53 #[.pointer (some ⟨g, 0, none⟩)] w fun e w' => e = .returned (.bool (decide (3 ≤ at_))) ∧ w = w' := by
  have q := h.blk.some_ (i := 3) rfl
  clear h
  go_enter Try.func53, Try.ntmps53
  go_wp2
  go_ret
  exact ⟨rfl, rfl⟩
set_option maxRecDepth 8000 in
set_option maxHeartbeats 4000000 in
theorem rr_step1 (w0 w : World) (R : Asr) (g m : Nat) (c : Cfg) (C : Nat → List Int) (addr orec rv sn vl : Int) (a : Acc) (h : Hold w0 w (rrA g addr orec rv 1 sn vl * (refA m c C * R))) (hC : COk C) (ha : opA C 1 1 addr (valC C 1 addr) true = a) :
    Calls Try.prog 52 #[.pointer (some ⟨g, 0, none⟩), .pointer (some ⟨m, 0, none⟩)] w (RAccPost w0 (rrA g addr orec rv 2 sn a.got * (refA m c C * R)) a) := by
  have HA := hid ha
  have HK := hid hC
  have H1 := hid (h.newBlk (t := 45) (cs := #[.int .i64 0, .int .i64 0, .int .i64 0, .int .u64 0, .int .u64 0, .bool false]))
  have n1 := h.blk.lt
  have n2 : g ≠ w.heap.size := by omega
  have p0 := h.blk.some_ (i := 0) rfl
  have p3 := h.blk.some_ (i := 3) rfl
  clear h ha hC
  go_enter Try.func52, Try.ntmps52
  go_wp2_with fail
  have h1 := H1.out
  generalize hW : World.alloc _ _ = W at h1 ⊢
  generalize w.heap.size = gr at h1 ⊢
  clear hW H1 n1 n2 p0 p3
  refine (ref_load w0 _ _ m c C 1 addr (h1.pk3 [2, 0, 1]) HK.out).mono ?_
  rintro e w1 ⟨rfl, h2⟩
  rw [HA.out]
  have H3 := hid (h2.newBlk (t := 45) (cs := #[.int .i64 a.kind, .int .i64 a.cell, .int .i64 a.index, .int .u64 a.got, .int .u64 a.put, .bool a.done]))
  clear h1 h2
  go_upto_region 11 with fail
  have h3 := H3.out
  generalize hW : World.alloc _ _ = W3 at h3 ⊢
  generalize w1.heap.size = ga at h3 ⊢
  clear hW H3
  have h4 : Hold w0 W3 (rrA g addr orec rv 1 sn vl * (blkA 45 ga #[.int .i64 a.kind, .int .i64 a.cell, .int .i64 a.index, .int .u64 a.got, .int .u64 a.put, .bool a.done] * (blkA 45 gr #[.int .i64 0, .int .i64 0, .int .i64 0, .int .u64 0, .int .u64 0, .bool false] * (refA m c C * R)))) := h3.pk4 [3, 0, 2, 1]
  clear h3
  have y3 := h4.drop.blk.some_ (i := 3) rfl
  have q5 := h4.blk.some_ (i := 5) (u := .int .u64 vl) rfl
  have q3 := h4.blk.some_ (i := 3) (u := .int .i64 1) rfl
  have z5 := h4.blk.frozen 5
  have z3 := h4.blk.frozen 3
  have H5 := hid ((h4.setBlk 5 (.int .u64 a.got)).setBlk 3 (.int .i64 2))
  clear h4
  go_upto_region 13 with fail
  have h5 := H5.out
  generalize hW : World.setCell _ _ _ = W5 at h5 ⊢
  clear hW H5 y3 q5 q3 z5 z3
  have h7 : Hold w0 W5 (rrA g addr orec rv 2 sn a.got * (blkA 45 ga #[.int .i64 a.kind, .int .i64 a.cell, .int .i64 a.index, .int .u64 a.got, .int .u64 a.put, .bool a.done] * (blkA 45 gr #[.int .i64 0, .int .i64 0, .int .i64 0, .int .u64 0, .int .u64 0, .bool false] * (refA m c C * R)))) := h5
  clear h5
  obtain ⟨⟨x0, x1, x2, x3, x4, x5⟩, z0, z1, z2, z3, z4, z5⟩ := blk_acc (h7.pk3 [2, 0, 1]).blk
  obtain ⟨⟨y0, y1, y2, y3, y4, y5⟩, _⟩ := blk_acc (h7.pk2 [1, 0]).blk
  have H8 := hid ((h7.pk3 [2, 0, 1]).setAcc (.int .i64 a.kind) (.int .i64 a.cell) (.int .i64 a.index) (.int .u64 a.got) (.int .u64 a.put) (.bool a.done))
  clear h7
  go_wp2_with fail
  have h8 := H8.out
  generalize hW : World.setCell _ _ _ = W8 at h8 ⊢
  clear hW H8 x0 x1 x2 x3 x4 x5 z0 z1 z2 z3 z4 z5 y0 y1 y2 y3 y4 y5
  obtain ⟨⟨y0, y1, y2, y3, y4, y5⟩, _⟩ := blk_acc h8.blk
  have hfin : Hid (RAccPost w0 (rrA g addr orec rv 2 sn a.got * (refA m c C * R)) a (.returned a.val) W8) := hid ⟨rfl, h8.pk4 [1, 3]⟩
  exact bodyPost_ret (v := a.val) (by simp [results, Try.results52, go_sem, y0, y1, y2, y3, y4, y5]) rfl hfin.out
set_option maxHeartbeats 2000000 in
theorem rr_step3 (w0 w : World) (R : Asr) (g : Nat) (m : Value) (addr orec rv sn vl : Int) (h : Hold w0 w (rrA g addr orec rv 3 sn vl * R)) :
    Calls Try.prog 52 #[.pointer (some ⟨g, 0, none⟩), m] w (RAccPost w0 (rrA g addr orec rv 3 sn vl * R) acc0) := by
  have p3 := h.blk.some_ (i := 3) rfl
  have hl := h.blk.lt
  have n1 : g ≠ w.heap.size := by omega
  have H1 := hid (h.alloc (.cells #[.int .i64 0, .int .i64 0, .int .i64 0, .int .u64 0, .int .u64 0, .bool false] 45))
  clear h
  go_enter Try.func52, Try.ntmps52
  go_wp2_with fail
  exact bodyPost_ret (v := acc0.val) (by simp [results, Try.results52, acc0, go_sem]) rfl ⟨rfl, H1.out⟩
set_option maxHeartbeats 2000000 in
theorem rr_step4 (w0 w : World) (R : Asr) (g : Nat) (m : Value) (addr orec rv sn vl : Int) (h : Hold w0 w (rrA g addr orec rv 4 sn vl * R)) :
    Calls Try.prog 52 #[.pointer (some ⟨g, 0, none⟩), m] w (RAccPost w0 (rrA g addr orec rv 4 sn vl * R) acc0) := by
  have p3 := h.blk.some_ (i := 3) rfl
  have hl := h.blk.lt
  have n1 : g ≠ w.heap.size := by omega
  have H1 := hid (h.alloc (.cells #[.int .i64 0, .int .i64 0, .int .i64 0, .int .u64 0, .int .u64 0, .bool false] 45))
  clear h
  go_enter Try.func52, Try.ntmps52
  go_wp2_with fail
  exact bodyPost_ret (v := acc0.val) (by simp [results, Try.results52, acc0, go_sem]) rfl ⟨rfl, H1.out⟩
set_option maxRecDepth 8000 in
set_option maxHeartbeats 4000000 in
theorem rr_step2_eq (w0 w : World) (R : Asr) (g m : Nat) (c : Cfg) (C : Nat → List Int) (addr orec rv sn vl : Int) (a : Acc) (h : Hold w0 w (rrA g addr orec rv 2 sn vl * (refA m c C * R))) (hC : COk C) (ha : opA C 1 2 orec (valC C 2 orec) true = a) (hs : a.got = sn) :
    Calls Try.prog 52 #[.pointer (some ⟨g, 0, none⟩), .pointer (some ⟨m, 0, none⟩)] w (RAccPost w0 (rrA g addr orec rv 3 sn vl * (refA m c C * R)) a) := by
  have HA := hid ha
  have HK := hid hC
  have es : (a.got != sn) = false := by simp [hs]
  have ES := hid es
  have H1 := hid (h.newBlk (t := 45) (cs := #[.int .i64 0, .int .i64 0, .int .i64 0, .int .u64 0, .int .u64 0, .bool false]))
  have n1 := h.blk.lt
  have n2 : g ≠ w.heap.size := by omega
  have p0 := h.blk.some_ (i := 1) rfl
  have p3 := h.blk.some_ (i := 3) rfl
  clear h ha hC es hs
  go_enter Try.func52, Try.ntmps52
  go_wp2_with fail
  have h1 := H1.out
  generalize hW : World.alloc _ _ = W at h1 ⊢
  generalize w.heap.size = gr at h1 ⊢
  clear hW H1 n1 n2 p0 p3
  refine (ref_load w0 _ _ m c C 2 orec (h1.pk3 [2, 0, 1]) HK.out).mono ?_
  rintro e w1 ⟨rfl, h2⟩
  rw [HA.out]
  have H3 := hid (h2.newBlk (t := 45) (cs := #[.int .i64 a.kind, .int .i64 a.cell, .int .i64 a.index, .int .u64 a.got, .int .u64 a.put, .bool a.done]))
  clear h1 h2
  go_upto_region 16 with fail
  have h3 := H3.out
  generalize hW : World.alloc _ _ = W3 at h3 ⊢
  generalize w1.heap.size = ga at h3 ⊢
  clear hW H3
  have h4 : Hold w0 W3 (rrA g addr orec rv 2 sn vl * (blkA 45 ga #[.int .i64 a.kind, .int .i64 a.cell, .int .i64 a.index, .int .u64 a.got, .int .u64 a.put, .bool a.done] * (blkA 45 gr #[.int .i64 0, .int .i64 0, .int .i64 0, .int .u64 0, .int .u64 0, .bool false] * (refA m c C * R)))) := h3.pk4 [3, 0, 2, 1]
  clear h3
  have q3 := h4.blk.some_ (i := 3) (u := .int .i64 2) rfl
  have z3 := h4.blk.frozen 3
  have H5 := hid (h4.setBlk 3 (.int .i64 3))
  clear h4
  go_upto_region 17 with fail
  have h5 := H5.out
  generalize hW : World.setCell _ _ _ = W5 at h5 ⊢
  clear hW H5 q3 z3
  have h7 : Hold w0 W5.drew (rrA g addr orec rv 3 sn vl * (blkA 45 ga #[.int .i64 a.kind, .int .i64 a.cell, .int .i64 a.index, .int .u64 a.got, .int .u64 a.put, .bool a.done] * (blkA 45 gr #[.int .i64 0, .int .i64 0, .int .i64 0, .int .u64 0, .int .u64 0, .bool false] * (refA m c C * R)))) := Hold.drew h5
  clear h5
  have es := ES.out
  refine wp_region_brk [] (by kernel_rfl) ?_
  refine wpAnyB_now (fun w' => ∃ (Z : Asr), Hold w0 w' (rrA g addr orec rv 3 sn vl * (blkA 45 ga #[.int .i64 a.kind, .int .i64 a.cell, .int .i64 a.index, .int .u64 a.got, .int .u64 a.put, .bool a.done] * Z))) (fun _ _ => trivial) _ _ _ _ ?_
  refine' wpAnyB_bulk [true, true, true, true, true, true, true] 86 (listed' := #[true, true, true, true, true, true, true]) rfl (by kernel_rfl) (by kernel_rfl) (by kernel_rfl) (by kernel_rfl) (by kernel_rfl) (by kernel_rfl) (by decide) (fun _ _ _ _ h => h) rfl ⟨_, h7⟩ (fun wq hq => ?_) ?_; rotate_left 1
  · simp only [maskL]
    obtain ⟨Z, hq⟩ := hq
    have q4 := hq.blk.some_ (i := 4) (u := .int .u64 sn) rfl
    have y3 := hq.drop.blk.some_ (i := 3) rfl
    repeat (go_big_quiet_step (fail))
    exact wpQuiet_nil rfl
  refine wpAnyB_done (by kernel_rfl) ?_ _
  replace h7 := h7.undrew
  obtain ⟨⟨x0, x1, x2, x3, x4, x5⟩, z0, z1, z2, z3, z4, z5⟩ := blk_acc (h7.pk3 [2, 0, 1]).blk
  obtain ⟨⟨y0, y1, y2, y3, y4, y5⟩, _⟩ := blk_acc (h7.pk2 [1, 0]).blk
  have H8 := hid ((h7.pk3 [2, 0, 1]).setAcc (.int .i64 a.kind) (.int .i64 a.cell) (.int .i64 a.index) (.int .u64 a.got) (.int .u64 a.put) (.bool a.done))
  clear h7
  go_wp2_with fail
  have h8 := H8.out
  generalize hW : World.setCell _ _ _ = W8 at h8 ⊢
  clear hW H8 x0 x1 x2 x3 x4 x5 z0 z1 z2 z3 z4 z5 y0 y1 y2 y3 y4 y5
  obtain ⟨⟨y0, y1, y2, y3, y4, y5⟩, _⟩ := blk_acc h8.blk
  have hfin : Hid (RAccPost w0 (rrA g addr orec rv 3 sn vl * (refA m c C * R)) a (.returned a.val) W8.drew) := hid ⟨rfl, (h8.pk4 [1, 3]).drew⟩
  exact bodyPost_ret (v := a.val) (by simp [results, Try.results52, go_sem, y0, y1, y2, y3, y4, y5]) rfl hfin.out
set_option maxRecDepth 8000 in
set_option maxHeartbeats 4000000 in
theorem rr_step2_ne (w0 w : World) (R : Asr) (g m : Nat) (c : Cfg) (C : Nat → List Int) (addr orec rv sn vl : Int) (a : Acc) (h : Hold w0 w (rrA g addr orec rv 2 sn vl * (refA m c C * R))) (hC : COk C) (ha : opA C 1 2 orec (valC C 2 orec) true = a) (hs : a.got ≠ sn) :
    Calls Try.prog 52 #[.pointer (some ⟨g, 0, none⟩), .pointer (some ⟨m, 0, none⟩)] w (RAccPost w0 (rrA g addr orec rv 4 sn vl * (refA m c C * R)) a) := by
  have HA := hid ha
  have HK := hid hC
  have es : (a.got != sn) = true := by simp [hs]
  have ES := hid es
  have H1 := hid (h.newBlk (t := 45) (cs := #[.int .i64 0, .int .i64 0, .int .i64 0, .int .u64 0, .int .u64 0, .bool false]))
  have n1 := h.blk.lt
  have n2 : g ≠ w.heap.size := by omega
  have p0 := h.blk.some_ (i := 1) rfl
  have p3 := h.blk.some_ (i := 3) rfl
  clear h ha hC es hs
  go_enter Try.func52, Try.ntmps52
  go_wp2_with fail
  have h1 := H1.out
  generalize hW : World.alloc _ _ = W at h1 ⊢
  generalize w.heap.size = gr at h1 ⊢
  clear hW H1 n1 n2 p0 p3
  refine (ref_load w0 _ _ m c C 2 orec (h1.pk3 [2, 0, 1]) HK.out).mono ?_
  rintro e w1 ⟨rfl, h2⟩
  rw [HA.out]
  have H3 := hid (h2.newBlk (t := 45) (cs := #[.int .i64 a.kind, .int .i64 a.cell, .int .i64 a.index, .int .u64 a.got, .int .u64 a.put, .bool a.done]))
  clear h1 h2
  go_upto_region 16 with fail
  have h3 := H3.out
  generalize hW : World.alloc _ _ = W3 at h3 ⊢
  generalize w1.heap.size = ga at h3 ⊢
  clear hW H3
  have h4 : Hold w0 W3 (rrA g addr orec rv 2 sn vl * (blkA 45 ga #[.int .i64 a.kind, .int .i64 a.cell, .int .i64 a.index, .int .u64 a.got, .int .u64 a.put, .bool a.done] * (blkA 45 gr #[.int .i64 0, .int .i64 0, .int .i64 0, .int .u64 0, .int .u64 0, .bool false] * (refA m c C * R)))) := h3.pk4 [3, 0, 2, 1]
  clear h3
  have q3 := h4.blk.some_ (i := 3) (u := .int .i64 2) rfl
  have z3 := h4.blk.frozen 3
  have H5 := hid (h4.setBlk 3 (.int .i64 3))
  clear h4
  go_upto_region 17 with fail
  have h5 := H5.out
  generalize hW : World.setCell _ _ _ = W5 at h5 ⊢
  clear hW H5 q3 z3
  have h7 : Hold w0 W5.drew (rrA g addr orec rv 3 sn vl * (blkA 45 ga #[.int .i64 a.kind, .int .i64 a.cell, .int .i64 a.index, .int .u64 a.got, .int .u64 a.put, .bool a.done] * (blkA 45 gr #[.int .i64 0, .int .i64 0, .int .i64 0, .int .u64 0, .int .u64 0, .bool false] * (refA m c C * R)))) := Hold.drew h5
  clear h5
  have es := ES.out
  refine wp_region_brk [] (by kernel_rfl) ?_
  refine wpAnyB_now (fun w' => ∃ (Z : Asr), Hold w0 w' (rrA g addr orec rv 3 sn vl * (blkA 45 ga #[.int .i64 a.kind, .int .i64 a.cell, .int .i64 a.index, .int .u64 a.got, .int .u64 a.put, .bool a.done] * Z))) (fun _ _ => trivial) _ _ _ _ ?_
  refine' wpAnyB_bulk [true, true, true, true, true, true, true] 86 (listed' := #[true, true, true, true, true, true, true]) rfl (by kernel_rfl) (by kernel_rfl) (by kernel_rfl) (by kernel_rfl) (by kernel_rfl) (by kernel_rfl) (by decide) (fun _ _ _ _ h => h) rfl ⟨_, h7⟩ (fun wq hq => ?_) ?_; rotate_left 1
  · simp only [maskL]
    obtain ⟨Z, hq⟩ := hq
    have q4 := hq.blk.some_ (i := 4) (u := .int .u64 sn) rfl
    have y3 := hq.drop.blk.some_ (i := 3) rfl
    repeat (go_big_quiet_step (fail))
    exact wpQuiet_nil rfl
  refine wpAnyB_done (by kernel_rfl) ?_ _
  replace h7 := h7.undrew
  have q3 := h7.blk.some_ (i := 3) (u := .int .i64 3) rfl
  have z3 := h7.blk.frozen 3
  have H9 := hid (h7.setBlk 3 (.int .i64 4))
  clear h7
  go_upto_region 19 with fail
  have h7 := H9.out
  generalize hW : World.setCell _ _ _ = W6 at h7 ⊢
  clear hW H9 q3 z3
  replace h7 : Hold w0 W6 (rrA g addr orec rv 4 sn vl * (blkA 45 ga #[.int .i64 a.kind, .int .i64 a.cell, .int .i64 a.index, .int .u64 a.got, .int .u64 a.put, .bool a.done] * (blkA 45 gr #[.int .i64 0, .int .i64 0, .int .i64 0, .int .u64 0, .int .u64 0, .bool false] * (refA m c C * R)))) := h7
  obtain ⟨⟨x0, x1, x2, x3, x4, x5⟩, z0, z1, z2, z3, z4, z5⟩ := blk_acc (h7.pk3 [2, 0, 1]).blk
  obtain ⟨⟨y0, y1, y2, y3, y4, y5⟩, _⟩ := blk_acc (h7.pk2 [1, 0]).blk
  have H8 := hid ((h7.pk3 [2, 0, 1]).setAcc (.int .i64 a.kind) (.int .i64 a.cell) (.int .i64 a.index) (.int .u64 a.got) (.int .u64 a.put) (.bool a.done))
  clear h7
  go_wp2_with fail
  have h8 := H8.out
  generalize hW : World.setCell _ _ _ = W8 at h8 ⊢
  clear hW H8 x0 x1 x2 x3 x4 x5 z0 z1 z2 z3 z4 z5 y0 y1 y2 y3 y4 y5
  obtain ⟨⟨y0, y1, y2, y3, y4, y5⟩, _⟩ := blk_acc h8.blk
  have hfin : Hid (RAccPost w0 (rrA g addr orec rv 4 sn vl * (refA m c C * R)) a (.returned a.val) W8.drew) := hid ⟨rfl, (h8.pk4 [1, 3]).drew⟩
  exact bodyPost_ret (v := a.val) (by simp [results, Try.results52, go_sem, y0, y1, y2, y3, y4, y5]) rfl hfin.out
set_option maxRecDepth 8000 in
set_option maxHeartbeats 4000000 in
theorem rr_step0_ok (w0 w : World) (R : Asr) (g m : Nat) (c : Cfg) (C : Nat → List Int) (addr orec rv sn vl : Int) (a : Acc) (h : Hold w0 w (rrA g addr orec rv 0 sn vl * (refA m c C * R))) (hC : COk C) (ha : opA C 1 2 orec (valC C 2 orec) true = a) (h0 : 0 ≤ a.got ∧ a.got < 18446744073709551616) (hs : a.got % 64 = 0 ∧ a.got / 64 ≤ rv) :
    Calls Try.prog 52 #[.pointer (some ⟨g, 0, none⟩), .pointer (some ⟨m, 0, none⟩)] w (RAccPost w0 (rrA g addr orec rv 1 a.got vl * (refA m c C * R)) a) := by
  have HA := hid ha
  have HK := hid hC
  have ES := hid (And.intro (show decide (0 ≤ a.got % 64 - 1) = false from decide_eq_false (by omega)) (show decide (rv < a.got / 64) = false from decide_eq_false (by omega)))
  have H0 := hid h0
  have HS : Hid (a.got % 64 - 1 = -1) := hid (by omega)
  have H1 := hid (h.newBlk (t := 45) (cs := #[.int .i64 0, .int .i64 0, .int .i64 0, .int .u64 0, .int .u64 0, .bool false]))
  have n1 := h.blk.lt
  have n2 : g ≠ w.heap.size := by omega
  have p0 := h.blk.some_ (i := 1) rfl
  have p3 := h.blk.some_ (i := 3) rfl
  clear h ha hC hs h0
  go_enter Try.func52, Try.ntmps52
  go_wp2_with fail
  have h1 := H1.out
  generalize hW : World.alloc _ _ = W at h1 ⊢
  generalize w.heap.size = gr at h1 ⊢
  clear hW H1 n1 n2 p0 p3
  refine (ref_load w0 _ _ m c C 2 orec (h1.pk3 [2, 0, 1]) HK.out).mono ?_
  rintro e w1 ⟨rfl, h2⟩
  rw [HA.out]
  have H3 := hid (h2.newBlk (t := 45) (cs := #[.int .i64 a.kind, .int .i64 a.cell, .int .i64 a.index, .int .u64 a.got, .int .u64 a.put, .bool a.done]))
  clear h1 h2
  go_upto_region 4 with fail
  have h3 := H3.out
  generalize hW : World.alloc _ _ = W3 at h3 ⊢
  generalize w1.heap.size = ga at h3 ⊢
  clear hW H3
  have h4 : Hold w0 W3 (rrA g addr orec rv 0 sn vl * (blkA 45 ga #[.int .i64 a.kind, .int .i64 a.cell, .int .i64 a.index, .int .u64 a.got, .int .u64 a.put, .bool a.done] * (blkA 45 gr #[.int .i64 0, .int .i64 0, .int .i64 0, .int .u64 0, .int .u64 0, .bool false] * (refA m c C * R)))) := h3.pk4 [3, 0, 2, 1]
  clear h3
  have y3 := h4.drop.blk.some_ (i := 3) rfl
  have q4 := h4.blk.some_ (i := 4) (u := .int .u64 sn) rfl
  have q3 := h4.blk.some_ (i := 3) (u := .int .i64 0) rfl
  have z4 := h4.blk.frozen 4
  have z3 := h4.blk.frozen 3
  have H5 := hid ((h4.setBlk 4 (.int .u64 a.got)).setBlk 3 (.int .i64 1))
  clear h4
  go_upto_region 6 with fail
  have h5 := H5.out
  generalize hW : World.setCell _ _ _ = W5 at h5 ⊢
  clear hW H5 q3 z3 q4 z4 y3
  have h7 : Hold w0 W5.drew (rrA g addr orec rv 1 a.got vl * (blkA 45 ga #[.int .i64 a.kind, .int .i64 a.cell, .int .i64 a.index, .int .u64 a.got, .int .u64 a.put, .bool a.done] * (blkA 45 gr #[.int .i64 0, .int .i64 0, .int .i64 0, .int .u64 0, .int .u64 0, .bool false] * (refA m c C * R)))) := Hold.drew h5
  clear h5
  have es := ES.out.1
  have es2 := ES.out.2
  refine wp_region_brk [] (by kernel_rfl) ?_
  refine wpAnyB_now (fun w' => ∃ (Z : Asr), Hold w0 w' (rrA g addr orec rv 1 a.got vl * (blkA 45 ga #[.int .i64 a.kind, .int .i64 a.cell, .int .i64 a.index, .int .u64 a.got, .int .u64 a.put, .bool a.done] * Z))) (fun _ _ => trivial) _ _ _ _ ?_
  refine' wpAnyB_bulk [true, true] 86 (listed' := #[true, true, false, false, false, false, false, false, false, false, false, false, false, false]) rfl (by kernel_rfl) (by kernel_rfl) (by kernel_rfl) (by kernel_rfl) (by kernel_rfl) (by kernel_rfl) (by decide) (fun _ _ _ _ h => h) rfl ⟨_, h7⟩ (fun wq hq => ?_) ?_; rotate_left 1
  · simp only [maskL]
    obtain ⟨Z, hq⟩ := hq
    have y3 := hq.drop.blk.some_ (i := 3) rfl
    repeat (go_big_quiet_step (fail))
    exact wpQuiet_nil rfl
  refine wpAnyB_bar [false, false, true] (fuel := 11) (by rfl) (by rfl) (by kernel_rfl) (fun QB hQB hQX => ?_)
  simp only [maskL]
  go_wp2_with fail
  refine (rholder_any _ _ H0.out.1 H0.out.2).mono ?_
  rintro e w' ⟨rfl, rfl⟩
  rw [HS.out]
  go_wp2_with fail
  refine hQB.out _ _ ⟨_, h7⟩ ?_
  clear hQB hQX QB
  refine' wpAnyB_bulk [false, false, false, true, true, true, true, false, true, true, true, true] 86 (listed' := #[true, true, true, true, true, true, true, false, true, true, true, true, false, false]) rfl (by kernel_rfl) (by kernel_rfl) (by kernel_rfl) (by kernel_rfl) (by kernel_rfl) (by kernel_rfl) (by decide) (fun _ _ _ _ h => h) rfl ⟨_, h7⟩ (fun wq hq => ?_) ?_; rotate_left 1
  · simp only [maskL]
    obtain ⟨Z, hq⟩ := hq
    have q2 := hq.blk.some_ (i := 2) rfl
    have y3 := hq.drop.blk.some_ (i := 3) rfl
    repeat (go_big_quiet_step (fail))
    exact wpQuiet_nil rfl
  refine wpAnyB_bar [false, false, false, false, false, false, false, true] (fuel := 2) (by rfl) (by rfl) (by kernel_rfl) (fun QB hQB hQX => ?_)
  simp only [maskL]
  go_wp2_with fail
  refine (rver_any _ _ H0.out.1 H0.out.2).mono ?_
  rintro e w' ⟨rfl, rfl⟩
  go_wp2_with fail
  refine hQB.out _ _ ⟨_, h7⟩ ?_
  clear hQB hQX QB
  refine' wpAnyB_bulk [false, false, false, false, false, false, false, false, false, false, false, false, true, true] 86 (listed' := #[true, true, true, true, true, true, true, true, true, true, true, true, true, true]) rfl (by kernel_rfl) (by kernel_rfl) (by kernel_rfl) (by kernel_rfl) (by kernel_rfl) (by kernel_rfl) (by decide) (fun _ _ _ _ h => h) rfl ⟨_, h7⟩ (fun wq hq => ?_) ?_; rotate_left 1
  · simp only [maskL]
    repeat (go_big_quiet_step (fail))
    exact wpQuiet_nil rfl
  refine wpAnyB_done (by kernel_rfl) ?_ _
  replace h7 := h7.undrew
  obtain ⟨⟨x0, x1, x2, x3, x4, x5⟩, z0, z1, z2, z3, z4, z5⟩ := blk_acc (h7.pk3 [2, 0, 1]).blk
  obtain ⟨⟨y0, y1, y2, y3, y4, y5⟩, _⟩ := blk_acc (h7.pk2 [1, 0]).blk
  have H8 := hid ((h7.pk3 [2, 0, 1]).setAcc (.int .i64 a.kind) (.int .i64 a.cell) (.int .i64 a.index) (.int .u64 a.got) (.int .u64 a.put) (.bool a.done))
  clear h7
  go_wp2_with fail
  have h8 := H8.out
  generalize hW : World.setCell _ _ _ = W8 at h8 ⊢
  clear hW H8 x0 x1 x2 x3 x4 x5 z0 z1 z2 z3 z4 z5 y0 y1 y2 y3 y4 y5
  obtain ⟨⟨y0, y1, y2, y3, y4, y5⟩, _⟩ := blk_acc h8.blk
  have hfin : Hid (RAccPost w0 (rrA g addr orec rv 1 a.got vl * (refA m c C * R)) a (.returned a.val) W8.drew) := hid ⟨rfl, (h8.pk4 [1, 3]).drew⟩
  exact bodyPost_ret (v := a.val) (by simp [results, Try.results52, go_sem, y0, y1, y2, y3, y4, y5]) rfl hfin.out
set_option maxRecDepth 8000 in
set_option maxHeartbeats 4000000 in
theorem rr_step0_bad (w0 w : World) (R : Asr) (g m : Nat) (c : Cfg) (C : Nat → List Int) (addr orec rv sn vl : Int) (a : Acc) (h : Hold w0 w (rrA g addr orec rv 0 sn vl * (refA m c C * R))) (hC : COk C) (ha : opA C 1 2 orec (valC C 2 orec) true = a) (h0 : 0 ≤ a.got ∧ a.got < 18446744073709551616) (hs : a.got % 64 ≠ 0 ∨ rv < a.got / 64) :
    Calls Try.prog 52 #[.pointer (some ⟨g, 0, none⟩), .pointer (some ⟨m, 0, none⟩)] w (RAccPost w0 (rrA g addr orec rv 4 a.got vl * (refA m c C * R)) a) := by
  have HA := hid ha
  have HK := hid hC
  have hs2 := hid hs
  have H0 := hid h0
  have H1 := hid (h.newBlk (t := 45) (cs := #[.int .i64 0, .int .i64 0, .int .i64 0, .int .u64 0, .int .u64 0, .bool false]))
  have n1 := h.blk.lt
  have n2 : g ≠ w.heap.size := by omega
  have p0 := h.blk.some_ (i := 1) rfl
  have p3 := h.blk.some_ (i := 3) rfl
  clear h ha hC hs h0
  go_enter Try.func52, Try.ntmps52
  go_wp2_with fail
  have h1 := H1.out
  generalize hW : World.alloc _ _ = W at h1 ⊢
  generalize w.heap.size = gr at h1 ⊢
  clear hW H1 n1 n2 p0 p3
  refine (ref_load w0 _ _ m c C 2 orec (h1.pk3 [2, 0, 1]) HK.out).mono ?_
  rintro e w1 ⟨rfl, h2⟩
  rw [HA.out]
  have H3 := hid (h2.newBlk (t := 45) (cs := #[.int .i64 a.kind, .int .i64 a.cell, .int .i64 a.index, .int .u64 a.got, .int .u64 a.put, .bool a.done]))
  clear h1 h2
  go_upto_region 4 with fail
  have h3 := H3.out
  generalize hW : World.alloc _ _ = W3 at h3 ⊢
  generalize w1.heap.size = ga at h3 ⊢
  clear hW H3
  have h4 : Hold w0 W3 (rrA g addr orec rv 0 sn vl * (blkA 45 ga #[.int .i64 a.kind, .int .i64 a.cell, .int .i64 a.index, .int .u64 a.got, .int .u64 a.put, .bool a.done] * (blkA 45 gr #[.int .i64 0, .int .i64 0, .int .i64 0, .int .u64 0, .int .u64 0, .bool false] * (refA m c C * R)))) := h3.pk4 [3, 0, 2, 1]
  clear h3
  have y3 := h4.drop.blk.some_ (i := 3) rfl
  have q4 := h4.blk.some_ (i := 4) (u := .int .u64 sn) rfl
  have q3 := h4.blk.some_ (i := 3) (u := .int .i64 0) rfl
  have z4 := h4.blk.frozen 4
  have z3 := h4.blk.frozen 3
  have H5 := hid ((h4.setBlk 4 (.int .u64 a.got)).setBlk 3 (.int .i64 1))
  clear h4
  go_upto_region 6 with fail
  have h5 := H5.out
  generalize hW : World.setCell _ _ _ = W5 at h5 ⊢
  clear hW H5 q3 z3 q4 z4 y3
  have h7 : Hold w0 W5.drew (rrA g addr orec rv 1 a.got vl * (blkA 45 ga #[.int .i64 a.kind, .int .i64 a.cell, .int .i64 a.index, .int .u64 a.got, .int .u64 a.put, .bool a.done] * (blkA 45 gr #[.int .i64 0, .int .i64 0, .int .i64 0, .int .u64 0, .int .u64 0, .bool false] * (refA m c C * R)))) := Hold.drew h5
  clear h5
  by_cases hh : 1 ≤ a.got % 64
  · clear hs2
    have es : decide (0 ≤ a.got % 64 - 1) = true := decide_eq_true (by omega)
    refine wp_region_brk [] (by kernel_rfl) ?_
    refine wpAnyB_now (fun w' => ∃ (Z : Asr), Hold w0 w' (rrA g addr orec rv 1 a.got vl * (blkA 45 ga #[.int .i64 a.kind, .int .i64 a.cell, .int .i64 a.index, .int .u64 a.got, .int .u64 a.put, .bool a.done] * Z))) (fun _ _ => trivial) _ _ _ _ ?_
    refine' wpAnyB_bulk [true, true] 86 (listed' := #[true, true, false, false, false, false, false, false, false, false, false, false, false, false]) rfl (by kernel_rfl) (by kernel_rfl) (by kernel_rfl) (by kernel_rfl) (by kernel_rfl) (by kernel_rfl) (by decide) (fun _ _ _ _ h => h) rfl ⟨_, h7⟩ (fun wq hq => ?_) ?_; rotate_left 1
    · simp only [maskL]
      obtain ⟨Z, hq⟩ := hq
      have y3 := hq.drop.blk.some_ (i := 3) rfl
      repeat (go_big_quiet_step (fail))
      exact wpQuiet_nil rfl
    refine wpAnyB_bar [false, false, true] (fuel := 11) (by rfl) (by rfl) (by kernel_rfl) (fun QB hQB hQX => ?_)
    simp only [maskL]
    go_wp2_with fail
    refine (rholder_any _ _ H0.out.1 H0.out.2).mono ?_
    rintro e w' ⟨rfl, rfl⟩
    go_wp2_with fail
    refine hQB.out _ _ ⟨_, h7⟩ ?_
    clear hQB hQX QB
    refine' wpAnyB_bulk [false, false, false, true, true, true, true, false, true, true, true, true] 86 (listed' := #[true, true, true, true, true, true, true, false, true, true, true, true, false, false]) rfl (by kernel_rfl) (by kernel_rfl) (by kernel_rfl) (by kernel_rfl) (by kernel_rfl) (by kernel_rfl) (by decide) (fun _ _ _ _ h => h) rfl ⟨_, h7⟩ (fun wq hq => ?_) ?_; rotate_left 1
    · simp only [maskL]
      obtain ⟨Z, hq⟩ := hq
      have q2 := hq.blk.some_ (i := 2) rfl
      have y3 := hq.drop.blk.some_ (i := 3) rfl
      repeat (go_big_quiet_step (fail))
      exact wpQuiet_nil rfl
    refine wpAnyB_bar [false, false, false, false, false, false, false, true] (fuel := 2) (by rfl) (by rfl) (by kernel_rfl) (fun QB hQB hQX => ?_)
    simp only [maskL]
    go_wp2_with fail
    refine hQB.out _ _ ⟨_, h7⟩ ?_
    clear hQB hQX QB
    refine' wpAnyB_bulk [false, false, false, false, false, false, false, false, false, false, false, false, true, true] 86 (listed' := #[true, true, true, true, true, true, true, true, true, true, true, true, true, true]) rfl (by kernel_rfl) (by kernel_rfl) (by kernel_rfl) (by kernel_rfl) (by kernel_rfl) (by kernel_rfl) (by decide) (fun _ _ _ _ h => h) rfl ⟨_, h7⟩ (fun wq hq => ?_) ?_; rotate_left 1
    · simp only [maskL]
      repeat (go_big_quiet_step (fail))
      exact wpQuiet_nil rfl
    refine wpAnyB_done (by kernel_rfl) ?_ _
    replace h7 := h7.undrew
    have q3 := h7.blk.some_ (i := 3) (u := .int .i64 1) rfl
    have z3 := h7.blk.frozen 3
    have H9 := hid (h7.setBlk 3 (.int .i64 4))
    clear h7
    go_upto_region 8 with fail
    have h7 := H9.out
    generalize hW : World.setCell _ _ _ = W6 at h7 ⊢
    clear hW H9 q3 z3
    replace h7 : Hold w0 W6 (rrA g addr orec rv 4 a.got vl * (blkA 45 ga #[.int .i64 a.kind, .int .i64 a.cell, .int .i64 a.index, .int .u64 a.got, .int .u64 a.put, .bool a.done] * (blkA 45 gr #[.int .i64 0, .int .i64 0, .int .i64 0, .int .u64 0, .int .u64 0, .bool false] * (refA m c C * R)))) := h7
    obtain ⟨⟨x0, x1, x2, x3, x4, x5⟩, z0, z1, z2, z3, z4, z5⟩ := blk_acc (h7.pk3 [2, 0, 1]).blk
    obtain ⟨⟨y0, y1, y2, y3, y4, y5⟩, _⟩ := blk_acc (h7.pk2 [1, 0]).blk
    have H8 := hid ((h7.pk3 [2, 0, 1]).setAcc (.int .i64 a.kind) (.int .i64 a.cell) (.int .i64 a.index) (.int .u64 a.got) (.int .u64 a.put) (.bool a.done))
    clear h7
    go_wp2_with fail
    have h8 := H8.out
    generalize hW : World.setCell _ _ _ = W8 at h8 ⊢
    clear hW H8 x0 x1 x2 x3 x4 x5 z0 z1 z2 z3 z4 z5 y0 y1 y2 y3 y4 y5
    obtain ⟨⟨y0, y1, y2, y3, y4, y5⟩, _⟩ := blk_acc h8.blk
    have hfin : Hid (RAccPost w0 (rrA g addr orec rv 4 a.got vl * (refA m c C * R)) a (.returned a.val) W8.drew) := hid ⟨rfl, (h8.pk4 [1, 3]).drew⟩
    exact bodyPost_ret (v := a.val) (by simp [results, Try.results52, go_sem, y0, y1, y2, y3, y4, y5]) rfl hfin.out
  · replace hs2 := hs2.out
    have hs3 : a.got % 64 - 1 = -1 := by omega
    have es2 : decide (rv < a.got / 64) = true := decide_eq_true (by omega)
    refine wp_region_brk [] (by kernel_rfl) ?_
    refine wpAnyB_now (fun w' => ∃ (Z : Asr), Hold w0 w' (rrA g addr orec rv 1 a.got vl * (blkA 45 ga #[.int .i64 a.kind, .int .i64 a.cell, .int .i64 a.index, .int .u64 a.got, .int .u64 a.put, .bool a.done] * Z))) (fun _ _ => trivial) _ _ _ _ ?_
    refine' wpAnyB_bulk [true, true] 86 (listed' := #[true, true, false, false, false, false, false, false, false, false, false, false, false, false]) rfl (by kernel_rfl) (by kernel_rfl) (by kernel_rfl) (by kernel_rfl) (by kernel_rfl) (by kernel_rfl) (by decide) (fun _ _ _ _ h => h) rfl ⟨_, h7⟩ (fun wq hq => ?_) ?_; rotate_left 1
    · simp only [maskL]
      obtain ⟨Z, hq⟩ := hq
      have y3 := hq.drop.blk.some_ (i := 3) rfl
      repeat (go_big_quiet_step (fail))
      exact wpQuiet_nil rfl
    refine wpAnyB_bar [false, false, true] (fuel := 11) (by rfl) (by rfl) (by kernel_rfl) (fun QB hQB hQX => ?_)
    simp only [maskL]
    go_wp2_with fail
    refine (rholder_any _ _ H0.out.1 H0.out.2).mono ?_
    rintro e w' ⟨rfl, rfl⟩
    rw [hs3]
    go_wp2_with fail
    refine hQB.out _ _ ⟨_, h7⟩ ?_
    clear hQB hQX QB
    refine' wpAnyB_bulk [false, false, false, true, true, true, true, false, true, true, true, true] 86 (listed' := #[true, true, true, true, true, true, true, false, true, true, true, true, false, false]) rfl (by kernel_rfl) (by kernel_rfl) (by kernel_rfl) (by kernel_rfl) (by kernel_rfl) (by kernel_rfl) (by decide) (fun _ _ _ _ h => h) rfl ⟨_, h7⟩ (fun wq hq => ?_) ?_; rotate_left 1
    · simp only [maskL]
      obtain ⟨Z, hq⟩ := hq
      have q2 := hq.blk.some_ (i := 2) rfl
      have y3 := hq.drop.blk.some_ (i := 3) rfl
      repeat (go_big_quiet_step (fail))
      exact wpQuiet_nil rfl
    refine wpAnyB_bar [false, false, false, false, false, false, false, true] (fuel := 2) (by rfl) (by rfl) (by kernel_rfl) (fun QB hQB hQX => ?_)
    simp only [maskL]
    go_wp2_with fail
    refine (rver_any _ _ H0.out.1 H0.out.2).mono ?_
    rintro e w' ⟨rfl, rfl⟩
    go_wp2_with fail
    refine hQB.out _ _ ⟨_, h7⟩ ?_
    clear hQB hQX QB
    refine' wpAnyB_bulk [false, false, false, false, false, false, false, false, false, false, false, false, true, true] 86 (listed' := #[true, true, true, true, true, true, true, true, true, true, true, true, true, true]) rfl (by kernel_rfl) (by kernel_rfl) (by kernel_rfl) (by kernel_rfl) (by kernel_rfl) (by kernel_rfl) (by decide) (fun _ _ _ _ h => h) rfl ⟨_, h7⟩ (fun wq hq => ?_) ?_; rotate_left 1
    · simp only [maskL]
      repeat (go_big_quiet_step (fail))
      exact wpQuiet_nil rfl
    refine wpAnyB_done (by kernel_rfl) ?_ _
    replace h7 := h7.undrew
    have q3 := h7.blk.some_ (i := 3) (u := .int .i64 1) rfl
    have z3 := h7.blk.frozen 3
    have H9 := hid (h7.setBlk 3 (.int .i64 4))
    clear h7
    go_upto_region 8 with fail
    have h7 := H9.out
    generalize hW : World.setCell _ _ _ = W6 at h7 ⊢
    clear hW H9 q3 z3
    replace h7 : Hold w0 W6 (rrA g addr orec rv 4 a.got vl * (blkA 45 ga #[.int .i64 a.kind, .int .i64 a.cell, .int .i64 a.index, .int .u64 a.got, .int .u64 a.put, .bool a.done] * (blkA 45 gr #[.int .i64 0, .int .i64 0, .int .i64 0, .int .u64 0, .int .u64 0, .bool false] * (refA m c C * R)))) := h7
    obtain ⟨⟨x0, x1, x2, x3, x4, x5⟩, z0, z1, z2, z3, z4, z5⟩ := blk_acc (h7.pk3 [2, 0, 1]).blk
    obtain ⟨⟨y0, y1, y2, y3, y4, y5⟩, _⟩ := blk_acc (h7.pk2 [1, 0]).blk
    have H8 := hid ((h7.pk3 [2, 0, 1]).setAcc (.int .i64 a.kind) (.int .i64 a.cell) (.int .i64 a.index) (.int .u64 a.got) (.int .u64 a.put) (.bool a.done))
    clear h7
    go_wp2_with fail
    have h8 := H8.out
    generalize hW : World.setCell _ _ _ = W8 at h8 ⊢
    clear hW H8 x0 x1 x2 x3 x4 x5 z0 z1 z2 z3 z4 z5 y0 y1 y2 y3 y4 y5
    obtain ⟨⟨y0, y1, y2, y3, y4, y5⟩, _⟩ := blk_acc h8.blk
    have hfin : Hid (RAccPost w0 (rrA g addr orec rv 4 a.got vl * (refA m c C * R)) a (.returned a.val) W8.drew) := hid ⟨rfl, (h8.pk4 [1, 3]).drew⟩
    exact bodyPost_ret (v := a.val) (by simp [results, Try.results52, go_sem, y0, y1, y2, y3, y4, y5]) rfl hfin.out
end Go.Proofs.Ytddghhddafeojaa
