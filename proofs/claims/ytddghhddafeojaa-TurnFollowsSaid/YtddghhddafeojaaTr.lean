/- The reference's turn (strongtxref09.Turn): contracts. -/
import Derived.Test.YtddghhddafeojaaTu4
namespace Go.Proofs.Ytddghhddafeojaa
open Go.RowKit
set_option linter.unusedVariables false

abbrev rtA (g : Nat) (tk : Int) (dn : Bool) : Asr := blkA 70 g #[.int .i64 tk, .bool dn]
theorem rt_new (w0 w : World) (R : Asr) (h : Hold w0 w R) : Calls Try.prog 38 #[] w fun e w' => ∃ g, e = .returned (.pointer (some ⟨g, 0, none⟩)) ∧ Hold w0 w' (rtA g (-1) false * R) := by
  have H := hid (h.newBlk (t := 70) (cs := #[.int .i64 (-1), .bool false]))
  clear h
  go_enter Try.func38, Try.ntmps38
  go_wp2
  go_ret
  exact ⟨_, rfl, H.out⟩
set_option maxHeartbeats 2000000 in
theorem rt_pass (w0 w : World) (R : Asr) (r : Nat) (c : Cfg) (C : Nat → List Int) (tk : Int) (h : Hold w0 w (refA r c C * R)) (hC : COk C) (h0 : 0 ≤ tk) (h1 : tk ≤ 9223372036854775806) :
    Calls Try.prog 39 #[.pointer (some ⟨r, 0, none⟩), .int .i64 tk] w (RAccPost w0 (refA r c (opC C 5 0 (tk + 1) true) * R) (opA C 2 5 0 (tk + 1) true)) := by
  obtain ⟨a, ha⟩ : ∃ a, a = opA C 2 5 0 (tk + 1) true := ⟨_, rfl⟩
  rw [← ha]
  have HA := hid ha
  have HK := hid hC
  have h2 := (h.newBlk (t := 45) (cs := #[.int .i64 0, .int .i64 0, .int .i64 0, .int .u64 0, .int .u64 0, .bool false])).swap
  have H2 := hid h2
  clear ha hC h h2
  go_enter Try.func39, Try.ntmps39
  go_wp2_with fail
  have h2 := H2.out
  generalize hW : World.alloc _ _ = W at h2 ⊢
  generalize w.heap.size = gr at h2 ⊢
  clear hW H2
  refine (ref_store w0 _ _ r c C 5 0 (tk + 1) h2 HK.out).mono ?_
  rintro e w1 ⟨rfl, h3⟩
  rw [← HA.out]
  obtain ⟨⟨x0, x1, x2, x3, x4, x5⟩, z0, z1, z2, z3, z4, z5⟩ := blk_acc h3.swap.blk
  have H4 := hid (h3.swap.setAcc (.int .i64 a.kind) (.int .i64 a.cell) (.int .i64 a.index) (.int .u64 a.got) (.int .u64 a.put) (.bool a.done))
  clear h2 h3
  go_wp2_with fail
  have h4 := H4.out
  generalize hW : World.setCell _ _ _ = W4 at h4 ⊢
  clear hW H4 x0 x1 x2 x3 x4 x5 z0 z1 z2 z3 z4 z5
  obtain ⟨⟨y0, y1, y2, y3, y4, y5⟩, _⟩ := blk_acc h4.blk
  have hfin : Hid (RAccPost w0 (refA r c (opC C 5 0 (tk + 1) true) * R) a (.returned a.val) W4) := hid ⟨rfl, h4.drop⟩
  exact bodyPost_ret (v := a.val) (by simp [results, Try.results39, go_sem, y0, y1, y2, y3, y4, y5]) rfl hfin.out
set_option maxRecDepth 8000 in
set_option maxHeartbeats 4000000 in
theorem rt_step_take (w0 w : World) (R : Asr) (g m : Nat) (c : Cfg) (C : Nat → List Int) (a : Acc) (C' : Nat → List Int) (h : Hold w0 w (rtA g (-1) false * (refA m c C * R))) (hC : COk C) (ha : opA C 4 4 0 (IntKind.u64.wrap (valC C 4 0 + 1)) true = a) (hC' : opC C 4 0 (IntKind.u64.wrap (valC C 4 0 + 1)) true = C') (hg : 0 ≤ a.got ∧ a.got ≤ 1000000) :
    Calls Try.prog 40 #[.pointer (some ⟨g, 0, none⟩), .pointer (some ⟨m, 0, none⟩)] w (RAccPost w0 (rtA g a.got false * (refA m c C' * R)) a) := by
  have HA := hid ha
  have HC' := hid hC'
  have HK := hid hC
  have H1 := hid (h.newBlk (t := 45) (cs := #[.int .i64 0, .int .i64 0, .int .i64 0, .int .u64 0, .int .u64 0, .bool false]))
  have n1 := h.blk.lt
  have n2 : g ≠ w.heap.size := by omega
  have p0 := h.blk.some_ (i := 0) rfl
  have p1 := h.blk.some_ (i := 1) rfl
  clear h ha hC hC'
  go_enter Try.func40, Try.ntmps40
  go_wp2_with fail
  have h1 := H1.out
  generalize hW : World.alloc _ _ = W at h1 ⊢
  generalize w.heap.size = gr at h1 ⊢
  clear hW H1 n1 n2 p0 p1
  refine (ref_add w0 _ _ m c C 4 0 1 (h1.pk3 [2, 0, 1]) HK.out).mono ?_
  rintro e w1 ⟨rfl, h2⟩
  rw [HA.out]
  rw [HC'.out] at h2
  have H3 := hid (h2.newBlk (t := 45) (cs := #[.int .i64 a.kind, .int .i64 a.cell, .int .i64 a.index, .int .u64 a.got, .int .u64 a.put, .bool a.done]))
  clear h1 h2
  go_upto_region 5 with fail
  have h3 := H3.out
  generalize hW : World.alloc _ _ = W3 at h3 ⊢
  generalize w1.heap.size = ga at h3 ⊢
  clear hW H3
  have h4 : Hold w0 W3 (rtA g (-1) false * (blkA 45 ga #[.int .i64 a.kind, .int .i64 a.cell, .int .i64 a.index, .int .u64 a.got, .int .u64 a.put, .bool a.done] * (blkA 45 gr #[.int .i64 0, .int .i64 0, .int .i64 0, .int .u64 0, .int .u64 0, .bool false] * (refA m c C' * R)))) := h3.pk4 [3, 0, 2, 1]
  clear h3
  have y3 := h4.drop.blk.some_ (i := 3) rfl
  have q0 := h4.blk.some_ (i := 0) (u := .int .i64 (-1)) rfl
  have z0 := h4.blk.frozen 0
  have H5 := hid (h4.setBlk 0 (.int .i64 a.got))
  clear h4
  go_upto_region 6 with fail
  have h5 := H5.out
  generalize hW : World.setCell _ _ _ = W5 at h5 ⊢
  clear hW H5 y3 q0 z0
  have h7 : Hold w0 W5 (rtA g a.got false * (blkA 45 ga #[.int .i64 a.kind, .int .i64 a.cell, .int .i64 a.index, .int .u64 a.got, .int .u64 a.put, .bool a.done] * (blkA 45 gr #[.int .i64 0, .int .i64 0, .int .i64 0, .int .u64 0, .int .u64 0, .bool false] * (refA m c C' * R)))) := h5
  clear h5
  obtain ⟨⟨x0, x1, x2, x3, x4, x5⟩, z0, z1, z2, z3, z4, z5⟩ := blk_acc (h7.pk3 [2, 0, 1]).blk
  obtain ⟨⟨y0, y1, y2, y3, y4, y5⟩, _⟩ := blk_acc (h7.pk2 [1, 0]).blk
  have H8 := hid ((h7.pk3 [2, 0, 1]).setAcc (.int .i64 a.kind) (.int .i64 a.cell) (.int .i64 a.index) (.int .u64 a.got) (.int .u64 a.put) (.bool a.done))
  clear h7
  go_wp2_with fail
  have h8 := H8.out
  generalize hW : World.setCell _ _ _ = W8 at h8 ⊢
  clear hW H8 x0 x1 x2 x3 x4 x5 z0 z1 z2 z3 z4 z5 y0 y1 y2 y3 y4 y5
  obtain ⟨⟨y0, y1, y2, y3, y4, y5⟩, _⟩ := blk_acc h8.blk
  have hfin : Hid (RAccPost w0 (rtA g a.got false * (refA m c C' * R)) a (.returned a.val) W8) := hid ⟨rfl, h8.pk4 [1, 3]⟩
  exact bodyPost_ret (v := a.val) (by simp [results, Try.results40, go_sem, y0, y1, y2, y3, y4, y5]) rfl hfin.out
set_option maxRecDepth 8000 in
set_option maxHeartbeats 4000000 in
theorem rt_step_wait (w0 w : World) (R : Asr) (g m : Nat) (c : Cfg) (C : Nat → List Int) (tk : Int) (a : Acc) (h : Hold w0 w (rtA g tk false * (refA m c C * R))) (hC : COk C) (ha : opA C 1 5 0 (valC C 5 0) true = a) (hg : 0 ≤ tk ∧ tk ≤ 1000000) :
    Calls Try.prog 40 #[.pointer (some ⟨g, 0, none⟩), .pointer (some ⟨m, 0, none⟩)] w (RAccPost w0 (rtA g tk (a.got == tk) * (refA m c C * R)) a) := by
  have HA := hid ha
  have HK := hid hC
  have H1 := hid (h.newBlk (t := 45) (cs := #[.int .i64 0, .int .i64 0, .int .i64 0, .int .u64 0, .int .u64 0, .bool false]))
  have n1 := h.blk.lt
  have n2 : g ≠ w.heap.size := by omega
  have p0 := h.blk.some_ (i := 0) rfl
  have p1 := h.blk.some_ (i := 1) rfl
  have et : decide (tk < 0) = false := decide_eq_false (by omega)
  clear h ha hC
  go_enter Try.func40, Try.ntmps40
  go_wp2_with fail
  have h1 := H1.out
  generalize hW : World.alloc _ _ = W at h1 ⊢
  generalize w.heap.size = gr at h1 ⊢
  clear hW H1 n1 n2 p0 p1 et
  refine (ref_load w0 _ _ m c C 5 0 (h1.pk3 [2, 0, 1]) HK.out).mono ?_
  rintro e w1 ⟨rfl, h2⟩
  rw [HA.out]
  have H3 := hid (h2.newBlk (t := 45) (cs := #[.int .i64 a.kind, .int .i64 a.cell, .int .i64 a.index, .int .u64 a.got, .int .u64 a.put, .bool a.done]))
  clear h1 h2
  go_upto_region 8 with fail
  have h3 := H3.out
  generalize hW : World.alloc _ _ = W3 at h3 ⊢
  generalize w1.heap.size = ga at h3 ⊢
  clear hW H3
  have h4 : Hold w0 W3.drew (rtA g tk false * (blkA 45 ga #[.int .i64 a.kind, .int .i64 a.cell, .int .i64 a.index, .int .u64 a.got, .int .u64 a.put, .bool a.done] * (blkA 45 gr #[.int .i64 0, .int .i64 0, .int .i64 0, .int .u64 0, .int .u64 0, .bool false] * (refA m c C * R)))) := Hold.drew (h3.pk4 [3, 0, 2, 1])
  clear h3
  refine wp_region_brk [11] (by kernel_rfl) ?_
  refine wpAnyB_now (fun w' => ∃ Z, Hold w0 w' (rtA g tk false * (blkA 45 ga #[.int .i64 a.kind, .int .i64 a.cell, .int .i64 a.index, .int .u64 a.got, .int .u64 a.put, .bool a.done] * Z))) (fun _ _ => trivial) _ _ _ _ ?_
  refine' wpAnyB_bulkT [true, true, false, true, true, true] 40 (listed' := #[true, true, false, true, true, true, false, false, false, false, false, false]) rfl (by kernel_rfl) (by kernel_rfl) (by kernel_rfl) (by kernel_rfl) (by kernel_rfl) (by decide) (fun _ _ _ _ h => h) rfl ⟨_, h4⟩ (fun wq _ => ?_) ?_; rotate_left 1
  · simp only [maskL]
    repeat (go_big_quiet_step (fail))
    exact wpQuiet_nil rfl
  refine' wpAnyB_bulk [false, false, true, false, false, false, true, true, true] 40 (listed' := #[true, true, true, true, true, true, true, true, true, false, false, false]) rfl (by kernel_rfl) (by kernel_rfl) (by kernel_rfl) (by kernel_rfl) (by kernel_rfl) (by kernel_rfl) (by decide) (fun _ _ _ _ h => h) rfl ⟨_, h4⟩ (fun wq hq => ?_) ?_; rotate_left 1
  · simp only [maskL]
    obtain ⟨Z, hq⟩ := hq
    have q0 := hq.blk.some_ (i := 0) rfl
    have q3 := hq.drop.blk.some_ (i := 3) rfl
    repeat (go_big_quiet_step (fail))
    exact wpQuiet_nil rfl
  refine' wpAnyB_bulkT [false, false, false, false, false, false, false, false, false, true, true] 40 (listed' := #[true, true, true, true, true, true, true, true, true, true, true, false]) rfl (by kernel_rfl) (by kernel_rfl) (by kernel_rfl) (by kernel_rfl) (by kernel_rfl) (by decide) (fun _ _ _ _ h => h) rfl ⟨_, h4⟩ (fun wq _ => ?_) ?_; rotate_left 1
  · simp only [maskL]
    repeat (go_big_quiet_step (fail))
    exact wpQuiet_nil rfl
  refine wpAnyB_brk [false, false, false, false, false, false, false, false, false, false, false, true] (fuel := 0) (by rfl) (by rfl) (by kernel_rfl) (by kernel_rfl) (fun QB hQB hQX => ?_)
  simp only [maskL]
  replace h4 := h4.undrew
  have q1 := h4.blk.some_ (i := 1) (u := .bool false) rfl
  have z1 := h4.blk.frozen 1
  have H5 := hid (h4.setBlk 1 (.bool (a.got == tk)))
  clear h4
  go_wp2_with fail
  refine hQB.out _ _ ?_
  clear hQB hQX QB
  refine wpAnyB_forget (by kernel_rfl) ?_
  refine wpAnyB_done (by kernel_rfl) ?_ _
  clear q1 z1
  have h5 := H5.out
  generalize hW : World.setCell _ _ _ = W5 at h5 ⊢
  clear hW H5
  have h7 : Hold w0 W5 (rtA g tk (a.got == tk) * (blkA 45 ga #[.int .i64 a.kind, .int .i64 a.cell, .int .i64 a.index, .int .u64 a.got, .int .u64 a.put, .bool a.done] * (blkA 45 gr #[.int .i64 0, .int .i64 0, .int .i64 0, .int .u64 0, .int .u64 0, .bool false] * (refA m c C * R)))) := h5
  clear h5
  obtain ⟨⟨x0, x1, x2, x3, x4, x5⟩, z0, z1, z2, z3, z4, z5⟩ := blk_acc (h7.pk3 [2, 0, 1]).blk
  obtain ⟨⟨y0, y1, y2, y3, y4, y5⟩, _⟩ := blk_acc (h7.pk2 [1, 0]).blk
  have H8 := hid ((h7.pk3 [2, 0, 1]).setAcc (.int .i64 a.kind) (.int .i64 a.cell) (.int .i64 a.index) (.int .u64 a.got) (.int .u64 a.put) (.bool a.done))
  clear h7
  go_wp2_with fail
  have h8 := H8.out
  generalize hW : World.setCell _ _ _ = W8 at h8 ⊢
  clear hW H8 x0 x1 x2 x3 x4 x5 z0 z1 z2 z3 z4 z5 y0 y1 y2 y3 y4 y5
  obtain ⟨⟨y0, y1, y2, y3, y4, y5⟩, _⟩ := blk_acc h8.blk
  have hfin : Hid (RAccPost w0 (rtA g tk (a.got == tk) * (refA m c C * R)) a (.returned a.val) W8.drew) := hid ⟨rfl, (h8.pk4 [1, 3]).drew⟩
  exact bodyPost_ret (v := a.val) (by simp [results, Try.results40, go_sem, y0, y1, y2, y3, y4, y5]) rfl hfin.out
end Go.Proofs.Ytddghhddafeojaa
