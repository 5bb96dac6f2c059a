/- turn: contracts. -/
import Derived.Test.YtddghhddafeojaaLab
import Derived.Test.YtddghhddafeojaaSl
namespace Go.Proofs.Ytddghhddafeojaa
open Go.RowKit
set_option linter.unusedVariables false

theorem COk.has4 {C : Nat → List Int} (h : COk C) : hasC C 4 0 := ⟨by decide, by rw [show getC C 4 = C 4 from getC_at (k := 4) (by decide) (by decide), h.l4]; decide⟩
theorem COk.has5 {C : Nat → List Int} (h : COk C) : hasC C 5 0 := ⟨by decide, by rw [show getC C 5 = C 5 from getC_at (k := 5) (by decide) (by decide), h.l5]; decide⟩
abbrev tuA (g : Nat) (taken : Bool) (tk : Int) (dn : Bool) : Asr := blkA 110 g #[.bool taken, .int .u64 tk, .bool dn]
theorem turn_new (w0 w : World) (R : Asr) (h : Hold w0 w R) : Calls Try.prog 32 #[] w fun e w' => ∃ g, e = .returned (.pointer (some ⟨g, 0, none⟩)) ∧ Hold w0 w' (tuA g false 0 false * R) := by
  have H := hid (h.newBlk (t := 110) (cs := #[.bool false, .int .u64 0, .bool false]))
  clear h
  go_enter Try.func32, Try.ntmps32
  go_wp2
  go_ret
  exact ⟨_, rfl, H.out⟩
theorem turn_done (w0 w : World) (R : Asr) (g : Nat) (taken : Bool) (tk : Int) (dn : Bool) (h : Hold w0 w (tuA g taken tk dn * R)) : Calls Try.prog 34 #[.pointer (some ⟨g, 0, none⟩)] w fun e w' => e = .returned (.bool dn) ∧ w = w' := by
  have q2 := h.blk.some_ (i := 2) rfl
  clear h
  go_enter Try.func34, Try.ntmps34
  go_wp2
  go_ret
  exact ⟨rfl, rfl⟩
theorem turn_ticket (w0 w : World) (R : Asr) (g : Nat) (tk : Int) (dn : Bool) (h : Hold w0 w (tuA g true tk dn * R)) (h0 : 0 ≤ tk) (h1 : tk ≤ 9223372036854775807) : Calls Try.prog 36 #[.pointer (some ⟨g, 0, none⟩)] w fun e w' => e = .returned (.int .i64 tk) ∧ w = w' := by
  have q0 := h.blk.some_ (i := 0) rfl
  have q1 := h.blk.some_ (i := 1) rfl
  clear h
  go_enter Try.func36, Try.ntmps36
  go_wp2
  go_ret
  exact ⟨rfl, rfl⟩
theorem turn_ticket0 (w0 w : World) (R : Asr) (g : Nat) (tk : Int) (dn : Bool) (h : Hold w0 w (tuA g false tk dn * R)) : Calls Try.prog 36 #[.pointer (some ⟨g, 0, none⟩)] w fun e w' => e = .returned (.int .i64 (-1)) ∧ w = w' := by
  have q0 := h.blk.some_ (i := 0) rfl
  clear h
  go_enter Try.func36, Try.ntmps36
  go_wp2
  go_ret
  exact ⟨rfl, rfl⟩
set_option maxHeartbeats 2000000 in
theorem turn_pass (w0 w : World) (R : Asr) (m : Nat) (C : Nat → List Int) (tk : Int) (h : Hold w0 w (memA m C * R)) (hC : COk C) (h0 : 0 ≤ tk) (h1 : tk ≤ 9223372036854775806) :
    Calls Try.prog 35 #[.pointer (some ⟨m, 0, none⟩), .int .i64 tk] w (RAccPost w0 (memA m (opC C 5 0 (tk + 1) true) * R) (opA C 2 5 0 (tk + 1) true)) := by
  obtain ⟨a, ha⟩ : ∃ a, a = opA C 2 5 0 (tk + 1) true := ⟨_, rfl⟩
  rw [← ha]
  have HA := hid ha
  have HK := hid hC
  have h2 := (h.newBlk (t := 45) (cs := #[.int .i64 0, .int .i64 0, .int .i64 0, .int .u64 0, .int .u64 0, .bool false])).swap
  have H2 := hid h2
  clear ha hC h h2
  go_enter Try.func35, Try.ntmps35
  go_wp2_with fail
  have h2 := H2.out
  generalize hW : World.alloc _ _ = W at h2 ⊢
  generalize w.heap.size = gr at h2 ⊢
  clear hW H2
  refine (mem_store w0 _ _ m C 5 0 (tk + 1) h2 (by omega) HK.out.len).mono ?_
  rintro e w1 ⟨rfl, h3⟩
  rw [← HA.out]
  generalize opE C 5 0 = er
  obtain ⟨⟨x0, x1, x2, x3, x4, x5⟩, z0, z1, z2, z3, z4, z5⟩ := blk_acc h3.swap.blk
  have hlt : gr < w1.heap.size := h3.swap.blk.lt
  have hne : gr ≠ w1.heap.size := by omega
  have h4 := (h3.swap.setAcc (.int .i64 a.kind) (.int .i64 a.cell) (.int .i64 a.index) (.int .u64 a.got) (.int .u64 a.put) (.bool a.done)).alloc (.cells #[.int .i64 a.kind, .int .i64 a.cell, .int .i64 a.index, .int .u64 a.got, .int .u64 a.put, .bool a.done] 45)
  have H4 := hid h4
  clear h2 h3 h4
  go_wp2_with fail
  have h4 := H4.out
  generalize hW : World.alloc _ _ = W4 at h4 ⊢
  clear hW H4 x0 x1 x2 x3 x4 x5 z0 z1 z2 z3 z4 z5
  obtain ⟨⟨y0, y1, y2, y3, y4, y5⟩, _⟩ := blk_acc h4.blk
  have hfin : Hid (RAccPost w0 (memA m (opC C 5 0 (tk + 1) true) * R) a (.returned a.val) W4) := hid ⟨rfl, h4.drop⟩
  exact bodyPost_ret (v := a.val) (by simp [results, Try.results35, go_sem, y0, y1, y2, y3, y4, y5]) rfl hfin.out
set_option maxHeartbeats 2000000 in
theorem turn_step_done (w0 w : World) (R : Asr) (g : Nat) (m : Value) (tk : Int) (h : Hold w0 w (tuA g true tk true * R)) :
    Calls Try.prog 33 #[.pointer (some ⟨g, 0, none⟩), m] w (RAccPost w0 (tuA g true tk true * R) acc0) := by
  have q2 := h.blk.some_ (i := 2) rfl
  have hl := h.blk.lt
  have n1 : g ≠ w.heap.size := by omega
  have n2 : g ≠ w.heap.size + 1 := by omega
  have h1 := (h.alloc (.cells #[.int .i64 0, .int .i64 0, .int .i64 0, .int .u64 0, .int .u64 0, .bool false] 45)).alloc (.cells #[.int .i64 0, .int .i64 0, .int .i64 0, .int .u64 0, .int .u64 0, .bool false] 45)
  have H1 := hid h1
  clear h h1
  go_enter Try.func33, Try.ntmps33
  go_wp2_with fail
  exact bodyPost_ret (v := acc0.val) (by simp [results, Try.results33, acc0, go_sem]) rfl ⟨rfl, H1.out⟩
set_option maxRecDepth 8000 in
set_option maxHeartbeats 4000000 in
theorem turn_step_take (w0 w : World) (R : Asr) (g m : Nat) (C : Nat → List Int) (tk : Int) (h : Hold w0 w (tuA g false tk false * (memA m C * R))) (hC : COk C) :
    Calls Try.prog 33 #[.pointer (some ⟨g, 0, none⟩), .pointer (some ⟨m, 0, none⟩)] w
      (RAccPost w0 (tuA g true (valC C 4 0) false * (memA m (opC C 4 0 (IntKind.u64.wrap (valC C 4 0 + 1)) true) * R)) ⟨4, 4, 0, valC C 4 0, IntKind.u64.wrap (valC C 4 0 + 1), true⟩) := by
  obtain ⟨a, ha⟩ : ∃ a : Acc, a = ⟨4, 4, 0, valC C 4 0, IntKind.u64.wrap (valC C 4 0 + 1), true⟩ := ⟨_, rfl⟩
  have hop : opA C 4 4 0 (IntKind.u64.wrap (valC C 4 0 + 1)) true = a := by rw [ha]; exact (op_yes hC.has4 4 _).1
  have hgot : a.got = valC C 4 0 := by rw [ha]
  obtain ⟨C', hC'⟩ : ∃ C', C' = opC C 4 0 (IntKind.u64.wrap (valC C 4 0 + 1)) true := ⟨_, rfl⟩
  rw [← ha, ← hC', ← hgot]
  have HA := hid hop
  have HC' := hid hC'
  have HK := hid hC
  have h1 := (h.newBlk (t := 45) (cs := #[.int .i64 0, .int .i64 0, .int .i64 0, .int .u64 0, .int .u64 0, .bool false])).newBlk (t := 45) (cs := #[.int .i64 0, .int .i64 0, .int .i64 0, .int .u64 0, .int .u64 0, .bool false])
  simp only [World.size_alloc] at h1
  have q0 := (h1.pk3 [2, 0, 1]).blk.some_ (i := 0) rfl
  have q2 := (h1.pk3 [2, 0, 1]).blk.some_ (i := 2) rfl
  have H1 := hid h1
  have n1 := h.blk.lt
  have n2 : g ≠ w.heap.size := by omega
  have n3 : g ≠ w.heap.size + 1 := by omega
  have p0 := h.blk.some_ (i := 0) rfl
  have p2 := h.blk.some_ (i := 2) rfl
  clear h h1 ha hop hC' hC hgot q0 q2
  go_enter Try.func33, Try.ntmps33
  go_wp2_with fail
  have h1 := H1.out
  generalize hW : World.alloc _ _ = W at h1 ⊢
  generalize w.heap.size + 1 = ga at h1 ⊢
  generalize w.heap.size = gr at h1 ⊢
  clear hW H1 n1 n2 n3 p0 p2
  refine (mem_add w0 _ _ m C 4 0 1 (h1.pk4 [3, 0, 1, 2]) (by omega) HK.out.len).mono ?_
  rintro e w1 ⟨rfl, h2⟩
  rw [HA.out]
  rw [← HC'.out] at h2
  generalize opE C 4 0 = er
  have h3 : Hold w0 w1 (blkA 45 ga #[.int .i64 0, .int .i64 0, .int .i64 0, .int .u64 0, .int .u64 0, .bool false] * (tuA g false tk false * (blkA 45 gr #[.int .i64 0, .int .i64 0, .int .i64 0, .int .u64 0, .int .u64 0, .bool false] * (memA m C' * R)))) := h2.pk4 [1, 3, 2, 0]
  obtain ⟨⟨x0, x1, x2, x3, x4, x5⟩, z0, z1, z2, z3, z4, z5⟩ := blk_acc h3.blk
  have H4 := hid (h3.setAcc (.int .i64 a.kind) (.int .i64 a.cell) (.int .i64 a.index) (.int .u64 a.got) (.int .u64 a.put) (.bool a.done)).swap
  clear h1 h2 h3
  go_wp2_with fail
  have h4 := H4.out
  generalize hW : World.setCell _ _ _ = W4 at h4 ⊢
  clear hW H4 x0 x1 x2 x3 x4 x5 z0 z1 z2 z3 z4 z5
  replace h4 := h4.drew
  refine wp_region_brk [9] (by kernel_rfl) ?_
  refine wpAnyB_now (fun w' => ∃ (b : Bool) (Z : Asr), Hold w0 w' (tuA g b tk false * (blkA 45 ga #[.int .i64 a.kind, .int .i64 a.cell, .int .i64 a.index, .int .u64 a.got, .int .u64 a.put, .bool a.done] * Z))) (fun _ _ => trivial) _ _ _ _ ?_
  refine' wpAnyB_bulk [true, true, true, true, true, true] 46 (listed' := #[true, true, true, true, true, true, false, false, false, false]) rfl (by kernel_rfl) (by kernel_rfl) (by kernel_rfl) (by kernel_rfl) (by kernel_rfl) (by kernel_rfl) (by decide) (fun _ _ _ _ h => h) rfl ⟨_, _, h4⟩ (fun wq hq => ?_) ?_; rotate_left 1
  · simp only [maskL]
    obtain ⟨b, Z, hq⟩ := hq
    have q3 := hq.drop.blk.some_ (i := 3) rfl
    repeat (go_big_quiet_step (fail))
    exact wpQuiet_nil rfl
  refine wpAnyB_bar [false, false, false, false, false, false, true] (fuel := 3) (by rfl) (by rfl) (by kernel_rfl) (fun QB hQB hQX => ?_)
  simp only [maskL]
  replace h4 := h4.undrew
  have q0 := h4.blk.some_ (i := 0) (u := .bool false) rfl
  have q1 := h4.blk.some_ (i := 1) (u := .int .u64 tk) rfl
  have z0 := h4.blk.frozen 0
  have z1 := h4.blk.frozen 1
  have h5 := (h4.setBlk 0 (.bool true)).setBlk 1 (.int .u64 a.got)
  have H5 := hid h5
  clear h5
  go_wp2_with fail
  refine hQB.out _ _ ⟨_, _, (h4.setBlk 0 (.bool true)).drew⟩ ?_
  clear hQB hQX QB
  refine' wpAnyB_bulkT [false, false, false, false, false, false, false, true, true] 46 (listed' := #[true, true, true, true, true, true, true, true, true, false]) rfl (by kernel_rfl) (by kernel_rfl) (by kernel_rfl) (by kernel_rfl) (by kernel_rfl) (by decide) (fun _ _ _ _ h => h) rfl ⟨_, _, (h4.setBlk 0 (.bool true)).drew⟩ (fun wq _ => ?_) ?_; rotate_left 1
  · simp only [maskL]
    repeat (go_big_quiet_step (fail))
    exact wpQuiet_nil rfl
  refine wpAnyB_brk [false, false, false, false, false, false, false, false, false, true] (fuel := 0) (by rfl) (by rfl) (by kernel_rfl) (by kernel_rfl) (fun QB hQB hQX => ?_)
  simp only [maskL]
  go_wp2_with fail
  refine hQB.out _ _ ?_
  clear hQB hQX QB
  refine wpAnyB_forget (by kernel_rfl) ?_
  refine wpAnyB_done (by kernel_rfl) ?_ _
  clear h4
  clear q0 q1 z0 z1
  have h5 := H5.out
  generalize hW : World.setCell _ _ _ = W5 at h5 ⊢
  clear hW H5
  have h7 : Hold w0 W5 (tuA g true a.got false * (blkA 45 ga #[.int .i64 a.kind, .int .i64 a.cell, .int .i64 a.index, .int .u64 a.got, .int .u64 a.put, .bool a.done] * (blkA 45 gr #[.int .i64 0, .int .i64 0, .int .i64 0, .int .u64 0, .int .u64 0, .bool false] * (memA m C' * R)))) := h5
  clear h5
  obtain ⟨⟨x0, x1, x2, x3, x4, x5⟩, z0, z1, z2, z3, z4, z5⟩ := blk_acc (h7.pk3 [2, 0, 1]).blk
  obtain ⟨⟨y0, y1, y2, y3, y4, y5⟩, _⟩ := blk_acc (h7.pk2 [1, 0]).blk
  have H8 := hid ((h7.pk3 [2, 0, 1]).setAcc (.int .i64 a.kind) (.int .i64 a.cell) (.int .i64 a.index) (.int .u64 a.got) (.int .u64 a.put) (.bool a.done))
  clear h7
  go_wp2_with fail
  have h8 := H8.out
  generalize hW : World.setCell _ _ _ = W8 at h8 ⊢
  clear hW H8 x0 x1 x2 x3 x4 x5 z0 z1 z2 z3 z4 z5 y0 y1 y2 y3 y4 y5
  obtain ⟨⟨y0, y1, y2, y3, y4, y5⟩, _⟩ := blk_acc h8.blk
  have hfin : Hid (RAccPost w0 (tuA g true a.got false * (memA m C' * R)) a (.returned a.val) W8.drew) := hid ⟨rfl, (h8.pk3 [1]).drew⟩
  exact bodyPost_ret (v := a.val) (by simp [results, Try.results33, go_sem, y0, y1, y2, y3, y4, y5]) rfl hfin.out
set_option maxRecDepth 8000 in
set_option maxHeartbeats 4000000 in
theorem turn_step_wait (w0 w : World) (R : Asr) (g m : Nat) (C : Nat → List Int) (tk : Int) (h : Hold w0 w (tuA g true tk false * (memA m C * R))) (hC : COk C) :
    Calls Try.prog 33 #[.pointer (some ⟨g, 0, none⟩), .pointer (some ⟨m, 0, none⟩)] w
      (RAccPost w0 (tuA g true tk (valC C 5 0 == tk) * (memA m C * R)) ⟨1, 5, 0, valC C 5 0, valC C 5 0, true⟩) := by
  obtain ⟨a, ha⟩ : ∃ a : Acc, a = ⟨1, 5, 0, valC C 5 0, valC C 5 0, true⟩ := ⟨_, rfl⟩
  have hop : opA C 1 5 0 (valC C 5 0) true = a := by rw [ha]; exact (op_yes hC.has5 1 _).1
  have hgot : a.got = valC C 5 0 := by rw [ha]
  rw [← ha, ← hgot]
  have HA := hid hop
  have HK := hid hC
  have h1 := (h.newBlk (t := 45) (cs := #[.int .i64 0, .int .i64 0, .int .i64 0, .int .u64 0, .int .u64 0, .bool false])).newBlk (t := 45) (cs := #[.int .i64 0, .int .i64 0, .int .i64 0, .int .u64 0, .int .u64 0, .bool false])
  simp only [World.size_alloc] at h1
  have H1 := hid h1
  have n1 := h.blk.lt
  have n2 : g ≠ w.heap.size := by omega
  have n3 : g ≠ w.heap.size + 1 := by omega
  have p0 := h.blk.some_ (i := 0) rfl
  have p2 := h.blk.some_ (i := 2) rfl
  clear h h1 ha hop hC hgot
  go_enter Try.func33, Try.ntmps33
  go_wp2_with fail
  have h1 := H1.out
  generalize hW : World.alloc _ _ = W at h1 ⊢
  generalize w.heap.size + 1 = ga at h1 ⊢
  generalize w.heap.size = gr at h1 ⊢
  clear hW H1 n1 n2 n3 p0 p2
  refine (mem_load w0 _ _ m C 5 0 (h1.pk4 [3, 0, 1, 2]) (by omega) HK.out.len).mono ?_
  rintro e w1 ⟨rfl, h2⟩
  rw [HA.out]
  generalize opE C 5 0 = er
  have h3 : Hold w0 w1 (blkA 45 ga #[.int .i64 0, .int .i64 0, .int .i64 0, .int .u64 0, .int .u64 0, .bool false] * (tuA g true tk false * (blkA 45 gr #[.int .i64 0, .int .i64 0, .int .i64 0, .int .u64 0, .int .u64 0, .bool false] * (memA m C * R)))) := h2.pk4 [1, 3, 2, 0]
  obtain ⟨⟨x0, x1, x2, x3, x4, x5⟩, z0, z1, z2, z3, z4, z5⟩ := blk_acc h3.blk
  have H4 := hid (h3.setAcc (.int .i64 a.kind) (.int .i64 a.cell) (.int .i64 a.index) (.int .u64 a.got) (.int .u64 a.put) (.bool a.done)).swap
  clear h1 h2 h3
  go_wp2_with fail
  have h4 := H4.out
  generalize hW : World.setCell _ _ _ = W4 at h4 ⊢
  clear hW H4 x0 x1 x2 x3 x4 x5 z0 z1 z2 z3 z4 z5
  replace h4 := h4.drew
  refine wp_region_brk [10] (by kernel_rfl) ?_
  refine wpAnyB_now (fun w' => ∃ Z, Hold w0 w' (tuA g true tk false * (blkA 45 ga #[.int .i64 a.kind, .int .i64 a.cell, .int .i64 a.index, .int .u64 a.got, .int .u64 a.put, .bool a.done] * Z))) (fun _ _ => trivial) _ _ _ _ ?_
  refine' wpAnyB_bulkT [true, true, false, true, true, true] 46 (listed' := #[true, true, false, true, true, true, false, false, false, false, false]) rfl (by kernel_rfl) (by kernel_rfl) (by kernel_rfl) (by kernel_rfl) (by kernel_rfl) (by decide) (fun _ _ _ _ h => h) rfl ⟨_, h4⟩ (fun wq _ => ?_) ?_; rotate_left 1
  · simp only [maskL]
    repeat (go_big_quiet_step (fail))
    exact wpQuiet_nil rfl
  refine' wpAnyB_bulk [false, false, true, false, false, false, true, true] 46 (listed' := #[true, true, true, true, true, true, true, true, false, false, false]) rfl (by kernel_rfl) (by kernel_rfl) (by kernel_rfl) (by kernel_rfl) (by kernel_rfl) (by kernel_rfl) (by decide) (fun _ _ _ _ h => h) rfl ⟨_, h4⟩ (fun wq hq => ?_) ?_; rotate_left 1
  · simp only [maskL]
    obtain ⟨Z, hq⟩ := hq
    have q1 := hq.blk.some_ (i := 1) rfl
    have q3 := hq.drop.blk.some_ (i := 3) rfl
    repeat (go_big_quiet_step (fail))
    exact wpQuiet_nil rfl
  refine' wpAnyB_bulkT [false, false, false, false, false, false, false, false, true, true] 46 (listed' := #[true, true, true, true, true, true, true, true, true, true, false]) rfl (by kernel_rfl) (by kernel_rfl) (by kernel_rfl) (by kernel_rfl) (by kernel_rfl) (by decide) (fun _ _ _ _ h => h) rfl ⟨_, h4⟩ (fun wq _ => ?_) ?_; rotate_left 1
  · simp only [maskL]
    repeat (go_big_quiet_step (fail))
    exact wpQuiet_nil rfl
  refine wpAnyB_brk [false, false, false, false, false, false, false, false, false, false, true] (fuel := 0) (by rfl) (by rfl) (by kernel_rfl) (by kernel_rfl) (fun QB hQB hQX => ?_)
  simp only [maskL]
  replace h4 := h4.undrew
  have q2 := h4.blk.some_ (i := 2) (u := .bool false) rfl
  have z2 := h4.blk.frozen 2
  have h5 := h4.setBlk 2 (.bool (a.got == tk))
  have H5 := hid h5
  clear h4 h5
  go_wp2_with fail
  refine hQB.out _ _ ?_
  clear hQB hQX QB
  refine wpAnyB_forget (by kernel_rfl) ?_
  refine wpAnyB_done (by kernel_rfl) ?_ _
  clear q2 z2
  have h5 := H5.out
  generalize hW : World.setCell _ _ _ = W5 at h5 ⊢
  clear hW H5
  have h7 : Hold w0 W5 (tuA g true tk (a.got == tk) * (blkA 45 ga #[.int .i64 a.kind, .int .i64 a.cell, .int .i64 a.index, .int .u64 a.got, .int .u64 a.put, .bool a.done] * (blkA 45 gr #[.int .i64 0, .int .i64 0, .int .i64 0, .int .u64 0, .int .u64 0, .bool false] * (memA m C * R)))) := h5
  clear h5
  obtain ⟨⟨x0, x1, x2, x3, x4, x5⟩, z0, z1, z2, z3, z4, z5⟩ := blk_acc (h7.pk3 [2, 0, 1]).blk
  obtain ⟨⟨y0, y1, y2, y3, y4, y5⟩, _⟩ := blk_acc (h7.pk2 [1, 0]).blk
  have H8 := hid ((h7.pk3 [2, 0, 1]).setAcc (.int .i64 a.kind) (.int .i64 a.cell) (.int .i64 a.index) (.int .u64 a.got) (.int .u64 a.put) (.bool a.done))
  clear h7
  go_wp2_with fail
  have h8 := H8.out
  generalize hW : World.setCell _ _ _ = W8 at h8 ⊢
  clear hW H8 x0 x1 x2 x3 x4 x5 z0 z1 z2 z3 z4 z5 y0 y1 y2 y3 y4 y5
  obtain ⟨⟨y0, y1, y2, y3, y4, y5⟩, _⟩ := blk_acc h8.blk
  have hfin : Hid (RAccPost w0 (tuA g true tk (a.got == tk) * (memA m C * R)) a (.returned a.val) W8.drew) := hid ⟨rfl, (h8.pk3 [1]).drew⟩
  exact bodyPost_ret (v := a.val) (by simp [results, Try.results33, go_sem, y0, y1, y2, y3, y4, y5]) rfl hfin.out
end Go.Proofs.Ytddghhddafeojaa
