/- epoch: contracts. -/
import Derived.Test.YtigjpfhjddkckaaLab
import Derived.Test.YtigjpfhjddkckaaSl
import Derived.Test.YtigjpfhjddkckaaWordW
import Derived.Deep.DeepCutAuto
import Derived.Deep.CutBlock
namespace Go.Proofs.Ytigjpfhjddkckaa
open Go.RowKit
set_option linter.unusedVariables false

abbrev enA (g : Nat) (th nx ck : Int) : Asr := blkA 126 g #[.int .i64 th, .int .i64 nx, .int .u64 ck]
abbrev feA (g : Nat) (th n : Int) (ld : Bool) (lim nx : Int) : Asr := blkA 122 g #[.int .i64 th, .int .i64 n, .bool ld, .int .u64 lim, .int .i64 nx]
theorem en_new (w0 w : World) (R : Asr) (th : Int) (h : Hold w0 w R) : Calls Try.prog 47 #[.int .i64 th] w fun e w' => ∃ g, e = .returned (.pointer (some ⟨g, 0, none⟩)) ∧ Hold w0 w' (enA g th 0 0 * R) := by
  have H := hid (h.newBlk (t := 126) (cs := #[.int .i64 th, .int .i64 0, .int .u64 0]))
  clear h
  go_enter Try.func47, Try.ntmps47
  go_wp2
  go_ret
  exact ⟨_, rfl, H.out⟩
theorem fe_new (w0 w : World) (R : Asr) (th n : Int) (h : Hold w0 w R) : Calls Try.prog 40 #[.int .i64 th, .int .i64 n] w fun e w' => ∃ g, e = .returned (.pointer (some ⟨g, 0, none⟩)) ∧ Hold w0 w' (feA g th n false 0 0 * R) := by
  have H := hid (h.newBlk (t := 122) (cs := #[.int .i64 th, .int .i64 n, .bool false, .int .u64 0, .int .i64 0]))
  clear h
  go_enter Try.func40, Try.ntmps40
  go_wp2
  go_ret
  exact ⟨_, rfl, H.out⟩
theorem en_done (w0 w : World) (R : Asr) (g : Nat) (th nx ck : Int) (h : Hold w0 w (enA g th nx ck * R)) : Calls Try.prog 54 #[.pointer (some ⟨g, 0, none⟩)] w fun e w' => e = .returned (.bool (nx == 3)) ∧ w = w' := by
  have q := h.blk.some_ (i := 1) rfl
  clear h
  go_enter Try.func54, Try.ntmps54
  go_wp2
  go_ret
  exact ⟨rfl, rfl⟩
/-- The snapshot that is told. -/
def enSnap (nx ck : Int) : Int := if nx ≤ 1 then -1 else ck
theorem en_snap (w0 w : World) (R : Asr) (g : Nat) (th nx ck : Int) (h : Hold w0 w (enA g th nx ck * R)) (h0 : 0 ≤ ck ∧ ck ≤ 9223372036854775807) : Calls Try.prog 48 #[.pointer (some ⟨g, 0, none⟩)] w fun e w' => e = .returned (.int .i64 (enSnap nx ck)) ∧ w = w' := by
  have q1 := h.blk.some_ (i := 1) rfl
  have q2 := h.blk.some_ (i := 2) rfl
  clear h
  by_cases hn : nx ≤ 1
  · have e1 : decide (nx ≤ 1) = true := decide_eq_true hn
    rw [show enSnap nx ck = -1 from if_pos hn]
    clear hn
    go_enter Try.func48, Try.ntmps48
    go_wp2
    go_ret
    exact ⟨rfl, rfl⟩
  · have e1 : decide (nx ≤ 1) = false := decide_eq_false hn
    rw [show enSnap nx ck = ck from if_neg hn]
    clear hn
    go_enter Try.func48, Try.ntmps48
    go_wp2
    go_ret
    exact ⟨rfl, rfl⟩
theorem fe_limit (w0 w : World) (R : Asr) (g : Nat) (th n : Int) (ld : Bool) (lim nx : Int) (h : Hold w0 w (feA g th n ld lim nx * R)) (h0 : 0 ≤ lim ∧ lim ≤ 9223372036854775807) : Calls Try.prog 44 #[.pointer (some ⟨g, 0, none⟩)] w fun e w' => e = .returned (.int .i64 (if ld then lim else -1)) ∧ w = w' := by
  have q2 := h.blk.some_ (i := 2) rfl
  have q3 := h.blk.some_ (i := 3) rfl
  clear h
  cases ld
  · go_enter Try.func44, Try.ntmps44
    go_wp2
    go_ret
    exact ⟨rfl, rfl⟩
  · go_enter Try.func44, Try.ntmps44
    go_wp2
    go_ret
    exact ⟨rfl, rfl⟩
theorem fe_done (w0 w : World) (R : Asr) (g : Nat) (th n : Int) (ld : Bool) (lim nx : Int) (h : Hold w0 w (feA g th n ld lim nx * R)) : Calls Try.prog 42 #[.pointer (some ⟨g, 0, none⟩)] w fun e w' => e = .returned (.bool (ld && decide (n ≤ nx))) ∧ Hold w0 w' (feA g th n ld lim nx * R) := by
  cases ld
  · replace h := h.drew
    go_enter Try.func42, Try.ntmps42
    go_wp2_with fail
    refine wp_region_brk [] (by kernel_rfl) ?_
    refine wpAnyB_now (fun w' => Hold w0 w' (feA g th n false lim nx * R)) (fun _ _ => trivial) _ _ _ _ ?_
    refine' wpAnyB_bulk [true, true, true, true, true, true, true, true, true, true, true, true, true, true, true, true] 18 (listed' := #[true, true, true, true, true, true, true, true, true, true, true, true, true, true, true, true]) rfl (by kernel_rfl) (by kernel_rfl) (by kernel_rfl) (by kernel_rfl) (by kernel_rfl) (by kernel_rfl) (by decide) (fun _ _ _ _ h => h) rfl h (fun wq hq => ?_) ?_; rotate_left 1
    · simp only [maskL]
      have q1 := hq.blk.some_ (i := 1) rfl
      have q2 := hq.blk.some_ (i := 2) rfl
      have q4 := hq.blk.some_ (i := 4) rfl
      repeat (go_big_quiet_step (fail))
      exact wpQuiet_nil rfl
    refine wpAnyB_done (by kernel_rfl) ?_ _
    have H := hid h
    clear h
    go_wp2_with fail
    go_ret
    exact ⟨rfl, H.out⟩
  · replace h := h.drew
    go_enter Try.func42, Try.ntmps42
    go_wp2_with fail
    refine wp_region_brk [] (by kernel_rfl) ?_
    refine wpAnyB_now (fun w' => Hold w0 w' (feA g th n true lim nx * R)) (fun _ _ => trivial) _ _ _ _ ?_
    refine' wpAnyB_bulk [true, true, true, true, true, true, true, true, true, true, true, true, true, true, true, true] 18 (listed' := #[true, true, true, true, true, true, true, true, true, true, true, true, true, true, true, true]) rfl (by kernel_rfl) (by kernel_rfl) (by kernel_rfl) (by kernel_rfl) (by kernel_rfl) (by kernel_rfl) (by decide) (fun _ _ _ _ h => h) rfl h (fun wq hq => ?_) ?_; rotate_left 1
    · simp only [maskL]
      have q1 := hq.blk.some_ (i := 1) rfl
      have q2 := hq.blk.some_ (i := 2) rfl
      have q4 := hq.blk.some_ (i := 4) rfl
      repeat (go_big_quiet_step (fail))
      exact wpQuiet_nil rfl
    refine wpAnyB_done (by kernel_rfl) ?_ _
    have H := hid h
    clear h
    go_wp2_with fail
    go_ret
    exact ⟨by simp, H.out⟩
/-- Behind skip. -/
def skipN (th nx : Int) : Int := if nx = th then nx + 1 else nx
set_option maxHeartbeats 2000000 in
theorem fe_skip (w0 w : World) (R : Asr) (g : Nat) (th n : Int) (ld : Bool) (lim nx : Int) (h : Hold w0 w (feA g th n ld lim nx * R)) (hb : 0 ≤ nx ∧ nx ≤ 1000) : Calls Try.prog 74 #[.pointer (some ⟨g, 0, none⟩)] w fun e w' => e = .returned (.tuple #[]) ∧ Hold w0 w' (feA g th n ld lim (skipN th nx) * R) := by
  replace h := h.drew
  by_cases he : nx = th
  · subst he
    rw [show skipN nx nx = nx + 1 from if_pos rfl]
    go_enter Try.func74, Try.ntmps74
    go_wp2_with fail
    refine wp_region_brk [] (by kernel_rfl) ?_
    refine wpAnyB_now (fun w' => Hold w0 w' (feA g nx n ld lim nx * R)) (fun _ _ => trivial) _ _ _ _ ?_
    refine' wpAnyB_bulk [true, true, true, true, true, true, true, true, true] 18 (listed' := #[true, true, true, true, true, true, true, true, true]) rfl (by kernel_rfl) (by kernel_rfl) (by kernel_rfl) (by kernel_rfl) (by kernel_rfl) (by kernel_rfl) (by decide) (fun _ _ _ _ h => h) rfl h (fun wq hq => ?_) ?_; rotate_left 1
    · simp only [maskL]
      have q0 := hq.blk.some_ (i := 0) rfl
      have q4 := hq.blk.some_ (i := 4) rfl
      repeat (go_big_quiet_step (fail))
      exact wpQuiet_nil rfl
    refine wpAnyB_done (by kernel_rfl) ?_ _
    have q4 := h.blk.some_ (i := 4) (u := .int .i64 nx) rfl
    have z4 := h.blk.frozen 4
    have e1 : (nx == nx) = true := by simp
    have H := hid (h.setBlk 4 (.int .i64 (nx + 1)))
    clear h
    go_wp2_with fail
    go_end0
    exact ⟨rfl, H.out⟩
  · have e1 : (nx == th) = false := by simp [he]
    rw [show skipN th nx = nx from if_neg he]
    clear he
    go_enter Try.func74, Try.ntmps74
    go_wp2_with fail
    refine wp_region_brk [] (by kernel_rfl) ?_
    refine wpAnyB_now (fun w' => Hold w0 w' (feA g th n ld lim nx * R)) (fun _ _ => trivial) _ _ _ _ ?_
    refine' wpAnyB_bulk [true, true, true, true, true, true, true, true, true] 18 (listed' := #[true, true, true, true, true, true, true, true, true]) rfl (by kernel_rfl) (by kernel_rfl) (by kernel_rfl) (by kernel_rfl) (by kernel_rfl) (by kernel_rfl) (by decide) (fun _ _ _ _ h => h) rfl h (fun wq hq => ?_) ?_; rotate_left 1
    · simp only [maskL]
      have q0 := hq.blk.some_ (i := 0) rfl
      have q4 := hq.blk.some_ (i := 4) rfl
      repeat (go_big_quiet_step (fail))
      exact wpQuiet_nil rfl
    refine wpAnyB_done (by kernel_rfl) ?_ _
    have H := hid h
    clear h
    go_wp2_with fail
    go_end0
    exact ⟨rfl, H.out⟩
/-- Which slots let a fence pass. -/
def passB (slot lim : Int) : Bool := (slot == 0) || (decide (2 ≤ slot) && decide (lim ≤ slot - 2))
/-- The slot that is watched next. -/
def fenN (th lim nx got : Int) : Int := if passB got lim then skipN th (nx + 1) else nx
theorem fe_passes (w0 w : World) (R : Asr) (g : Nat) (th n : Int) (ld : Bool) (lim nx slot : Int) (h : Hold w0 w (feA g th n ld lim nx * R)) (hs : 0 ≤ slot ∧ slot < 18446744073709551616) : Calls Try.prog 75 #[.pointer (some ⟨g, 0, none⟩), .int .u64 slot] w fun e w' => e = .returned (.bool (passB slot lim)) ∧ w = w' := by
  have q3 := h.blk.some_ (i := 3) rfl
  clear h
  by_cases h0 : slot = 0
  · subst h0
    rw [show passB 0 lim = true from rfl]
    go_enter Try.func75, Try.ntmps75
    go_wp2_with fail
    refine (W.state_0 _ _ rfl (by omega)).mono ?_
    rintro e w' ⟨rfl, rfl⟩
    go_wp2_with fail
    go_ret
    exact ⟨rfl, rfl⟩
  · by_cases h1 : slot = 1
    · subst h1
      rw [show passB 1 lim = false from rfl]
      go_enter Try.func75, Try.ntmps75
      go_wp2_with fail
      refine (W.state_1 _ _ rfl (by omega)).mono ?_
      rintro e w' ⟨rfl, rfl⟩
      go_wp2_with fail
      go_ret
      exact ⟨rfl, rfl⟩
    · have h2 : 2 ≤ slot := by omega
      rw [show passB slot lim = decide (lim ≤ slot - 2) by simp [passB, h0, h2]]
      clear h0 h1
      go_enter Try.func75, Try.ntmps75
      go_wp2_with fail
      refine (W.state_2 _ _ h2 hs.2).mono ?_
      rintro e w' ⟨rfl, rfl⟩
      go_wp2_with fail
      go_ret
      exact ⟨rfl, rfl⟩
set_option maxRecDepth 8000 in
set_option maxHeartbeats 4000000 in
theorem en_step3 (w0 w : World) (R : Asr) (g : Nat) (m : Value) (th ck : Int) (h : Hold w0 w (enA g th 3 ck * R)) :
    Calls Try.prog 49 #[.pointer (some ⟨g, 0, none⟩), m] w (RAccPost w0 (enA g th 3 ck * R) acc0) := by
  have p1 := h.blk.some_ (i := 1) rfl
  have hl := h.blk.lt
  have n1 : g ≠ w.heap.size := by omega
  have n2 : g ≠ w.heap.size + 1 := by omega
  have h1 := (h.alloc (.cells #[.int .i64 0, .int .i64 0, .int .i64 0, .int .u64 0, .int .u64 0, .bool false] 50)).alloc (.cells #[.int .i64 0, .int .i64 0, .int .i64 0, .int .u64 0, .int .u64 0, .bool false] 50)
  have H1 := hid h1
  clear h h1
  go_enter Try.func49, Try.ntmps49
  go_wp2_with fail
  exact bodyPost_ret (v := acc0.val) (by simp [results, Try.results49, acc0, go_sem]) rfl ⟨rfl, H1.out⟩
set_option maxRecDepth 8000 in
set_option maxHeartbeats 4000000 in
theorem en_step0 (w0 w : World) (R : Asr) (g m : Nat) (C : Nat → List Int) (th ck : Int) (a : Acc) (h : Hold w0 w (enA g th 0 ck * (memA m C * R))) (hC : COk C) (hx : -9223372036854775808 ≤ th ∧ th ≤ 9223372036854775807) (ha : opA C 2 6 th 1 true = a) :
    Calls Try.prog 49 #[.pointer (some ⟨g, 0, none⟩), .pointer (some ⟨m, 0, none⟩)] w (RAccPost w0 (enA g th 1 ck * (memA m (opC C 6 th 1 true) * R)) a) := by
  have HA := hid ha
  have HK := hid hC
  have h1 := (h.newBlk (t := 50) (cs := #[.int .i64 0, .int .i64 0, .int .i64 0, .int .u64 0, .int .u64 0, .bool false])).newBlk (t := 50) (cs := #[.int .i64 0, .int .i64 0, .int .i64 0, .int .u64 0, .int .u64 0, .bool false])
  simp only [World.size_alloc] at h1
  have H1 := hid h1
  have n1 := h.blk.lt
  have n2 : g ≠ w.heap.size := by omega
  have n3 : g ≠ w.heap.size + 1 := by omega
  have p0 := h.blk.some_ (i := 0) rfl
  have p1 := h.blk.some_ (i := 1) rfl
  clear h h1 ha hC
  go_enter Try.func49, Try.ntmps49
  go_wp2_with fail
  have h1 := H1.out
  generalize hW : World.alloc _ _ = W at h1 ⊢
  generalize w.heap.size + 1 = ga at h1 ⊢
  generalize w.heap.size = gr at h1 ⊢
  clear hW H1 n1 n2 n3 p0 p1
  refine (mem_store w0 _ _ m C 6 th 1 (h1.pk4 [3, 0, 1, 2]) hx HK.out.len).mono ?_
  rintro e w1 ⟨rfl, h2⟩
  rw [HA.out]
  generalize opE C 6 th = er
  have h3 : Hold w0 w1 (blkA 50 ga #[.int .i64 0, .int .i64 0, .int .i64 0, .int .u64 0, .int .u64 0, .bool false] * (enA g th 0 ck * (blkA 50 gr #[.int .i64 0, .int .i64 0, .int .i64 0, .int .u64 0, .int .u64 0, .bool false] * (memA m (opC C 6 th 1 true) * R)))) := h2.pk4 [1, 3, 2, 0]
  obtain ⟨⟨x0, x1, x2, x3, x4, x5⟩, z0, z1, z2, z3, z4, z5⟩ := blk_acc h3.blk
  have H4 := hid (h3.setAcc (.int .i64 a.kind) (.int .i64 a.cell) (.int .i64 a.index) (.int .u64 a.got) (.int .u64 a.put) (.bool a.done)).swap
  clear h1 h2 h3
  go_upto_region 11 with fail
  have h4 := H4.out
  generalize hW : World.setCell _ _ _ = W4 at h4 ⊢
  clear hW H4 x0 x1 x2 x3 x4 x5 z0 z1 z2 z3 z4 z5
  have q1 := h4.blk.some_ (i := 1) (u := .int .i64 0) rfl
  have s1 := h4.blk.frozen 1
  have H5 := hid (h4.setBlk 1 (.int .i64 1))
  clear h4
  go_upto_region 12 with fail
  have h5 := H5.out
  generalize hW : World.setCell _ _ _ = W5 at h5 ⊢
  clear hW H5 q1 s1
  have h7 : Hold w0 W5 (enA g th 1 ck * (blkA 50 ga #[.int .i64 a.kind, .int .i64 a.cell, .int .i64 a.index, .int .u64 a.got, .int .u64 a.put, .bool a.done] * (blkA 50 gr #[.int .i64 0, .int .i64 0, .int .i64 0, .int .u64 0, .int .u64 0, .bool false] * (memA m (opC C 6 th 1 true) * R)))) := h5
  clear h5
  obtain ⟨⟨x0, x1, x2, x3, x4, x5⟩, z0, z1, z2, z3, z4, z5⟩ := blk_acc (h7.pk3 [2, 0, 1]).blk
  obtain ⟨⟨y0, y1, y2, y3, y4, y5⟩, _⟩ := blk_acc (h7.pk2 [1, 0]).blk
  have H8 := hid ((h7.pk3 [2, 0, 1]).setAcc (.int .i64 a.kind) (.int .i64 a.cell) (.int .i64 a.index) (.int .u64 a.got) (.int .u64 a.put) (.bool a.done))
  clear h7
  go_wp2_with fail
  have h8 := H8.out
  generalize hW : World.setCell _ _ _ = W8 at h8 ⊢
  clear hW H8 x0 x1 x2 x3 x4 x5 z0 z1 z2 z3 z4 z5 y0 y1 y2 y3 y4 y5
  obtain ⟨⟨y0, y1, y2, y3, y4, y5⟩, _⟩ := blk_acc h8.blk
  have hfin : Hid (RAccPost w0 (enA g th 1 ck * (memA m (opC C 6 th 1 true) * R)) a (.returned a.val) W8) := hid ⟨rfl, h8.pk3 [1]⟩
  exact bodyPost_ret (v := a.val) (by simp [results, Try.results49, go_sem, y0, y1, y2, y3, y4, y5]) rfl hfin.out
set_option maxRecDepth 8000 in
set_option maxHeartbeats 4000000 in
theorem en_step1 (w0 w : World) (R : Asr) (g m : Nat) (C : Nat → List Int) (th ck : Int) (a : Acc) (h : Hold w0 w (enA g th 1 ck * (memA m C * R))) (hC : COk C) (ha : opA C 1 3 0 (valC C 3 0) true = a) :
    Calls Try.prog 49 #[.pointer (some ⟨g, 0, none⟩), .pointer (some ⟨m, 0, none⟩)] w (RAccPost w0 (enA g th 2 a.got * (memA m C * R)) a) := by
  have HA := hid ha
  have HK := hid hC
  have h1 := (h.newBlk (t := 50) (cs := #[.int .i64 0, .int .i64 0, .int .i64 0, .int .u64 0, .int .u64 0, .bool false])).newBlk (t := 50) (cs := #[.int .i64 0, .int .i64 0, .int .i64 0, .int .u64 0, .int .u64 0, .bool false])
  simp only [World.size_alloc] at h1
  have H1 := hid h1
  have n1 := h.blk.lt
  have n2 : g ≠ w.heap.size := by omega
  have n3 : g ≠ w.heap.size + 1 := by omega
  have p0 := h.blk.some_ (i := 0) rfl
  have p1 := h.blk.some_ (i := 1) rfl
  clear h h1 ha hC
  go_enter Try.func49, Try.ntmps49
  go_wp2_with fail
  have h1 := H1.out
  generalize hW : World.alloc _ _ = W at h1 ⊢
  generalize w.heap.size + 1 = ga at h1 ⊢
  generalize w.heap.size = gr at h1 ⊢
  clear hW H1 n1 n2 n3 p0 p1
  refine (mem_load w0 _ _ m C 3 0 (h1.pk4 [3, 0, 1, 2]) (by omega) HK.out.len).mono ?_
  rintro e w1 ⟨rfl, h2⟩
  rw [HA.out]
  generalize opE C 3 0 = er
  have h3 : Hold w0 w1 (blkA 50 ga #[.int .i64 0, .int .i64 0, .int .i64 0, .int .u64 0, .int .u64 0, .bool false] * (enA g th 1 ck * (blkA 50 gr #[.int .i64 0, .int .i64 0, .int .i64 0, .int .u64 0, .int .u64 0, .bool false] * (memA m C * R)))) := h2.pk4 [1, 3, 2, 0]
  obtain ⟨⟨x0, x1, x2, x3, x4, x5⟩, z0, z1, z2, z3, z4, z5⟩ := blk_acc h3.blk
  have H4 := hid (h3.setAcc (.int .i64 a.kind) (.int .i64 a.cell) (.int .i64 a.index) (.int .u64 a.got) (.int .u64 a.put) (.bool a.done)).swap
  clear h1 h2 h3
  go_upto_region 8 with fail
  have h4 := H4.out
  generalize hW : World.setCell _ _ _ = W4 at h4 ⊢
  clear hW H4 x0 x1 x2 x3 x4 x5 z0 z1 z2 z3 z4 z5
  have y3 := h4.drop.blk.some_ (i := 3) rfl
  have q1 := h4.blk.some_ (i := 1) (u := .int .i64 1) rfl
  have q2 := h4.blk.some_ (i := 2) (u := .int .u64 ck) rfl
  have s1 := h4.blk.frozen 1
  have s2 := h4.blk.frozen 2
  have H5 := hid ((h4.setBlk 2 (.int .u64 a.got)).setBlk 1 (.int .i64 2))
  clear h4
  go_upto_region 12 with fail
  have h5 := H5.out
  generalize hW : World.setCell _ _ _ = W5 at h5 ⊢
  clear hW H5 q1 s1 q2 s2 y3
  have h7 : Hold w0 W5 (enA g th 2 a.got * (blkA 50 ga #[.int .i64 a.kind, .int .i64 a.cell, .int .i64 a.index, .int .u64 a.got, .int .u64 a.put, .bool a.done] * (blkA 50 gr #[.int .i64 0, .int .i64 0, .int .i64 0, .int .u64 0, .int .u64 0, .bool false] * (memA m C * R)))) := h5
  clear h5
  obtain ⟨⟨x0, x1, x2, x3, x4, x5⟩, z0, z1, z2, z3, z4, z5⟩ := blk_acc (h7.pk3 [2, 0, 1]).blk
  obtain ⟨⟨y0, y1, y2, y3, y4, y5⟩, _⟩ := blk_acc (h7.pk2 [1, 0]).blk
  have H8 := hid ((h7.pk3 [2, 0, 1]).setAcc (.int .i64 a.kind) (.int .i64 a.cell) (.int .i64 a.index) (.int .u64 a.got) (.int .u64 a.put) (.bool a.done))
  clear h7
  go_wp2_with fail
  have h8 := H8.out
  generalize hW : World.setCell _ _ _ = W8 at h8 ⊢
  clear hW H8 x0 x1 x2 x3 x4 x5 z0 z1 z2 z3 z4 z5 y0 y1 y2 y3 y4 y5
  obtain ⟨⟨y0, y1, y2, y3, y4, y5⟩, _⟩ := blk_acc h8.blk
  have hfin : Hid (RAccPost w0 (enA g th 2 a.got * (memA m C * R)) a (.returned a.val) W8) := hid ⟨rfl, h8.pk3 [1]⟩
  exact bodyPost_ret (v := a.val) (by simp [results, Try.results49, go_sem, y0, y1, y2, y3, y4, y5]) rfl hfin.out
set_option maxRecDepth 8000 in
set_option maxHeartbeats 4000000 in
theorem en_step2 (w0 w : World) (R : Asr) (g m : Nat) (C : Nat → List Int) (th ck : Int) (a : Acc) (h : Hold w0 w (enA g th 2 ck * (memA m C * R))) (hC : COk C) (hk : 0 ≤ ck ∧ ck ≤ 1099511627776) (hx : -9223372036854775808 ≤ th ∧ th ≤ 9223372036854775807) (ha : opA C 2 6 th (ck + 2) true = a) :
    Calls Try.prog 49 #[.pointer (some ⟨g, 0, none⟩), .pointer (some ⟨m, 0, none⟩)] w (RAccPost w0 (enA g th 3 ck * (memA m (opC C 6 th (ck + 2) true) * R)) a) := by
  have HA := hid ha
  have HK := hid hC
  have h1 := (h.newBlk (t := 50) (cs := #[.int .i64 0, .int .i64 0, .int .i64 0, .int .u64 0, .int .u64 0, .bool false])).newBlk (t := 50) (cs := #[.int .i64 0, .int .i64 0, .int .i64 0, .int .u64 0, .int .u64 0, .bool false])
  simp only [World.size_alloc] at h1
  have H1 := hid h1
  have n1 := h.blk.lt
  have n2 : g ≠ w.heap.size := by omega
  have n3 : g ≠ w.heap.size + 1 := by omega
  have p1 := h.blk.some_ (i := 1) rfl
  clear h h1 ha hC
  go_enter Try.func49, Try.ntmps49
  go_upto_region 10 with fail
  have h1 := H1.out
  generalize hW : World.alloc _ _ = W at h1 ⊢
  generalize w.heap.size + 1 = ga at h1 ⊢
  generalize w.heap.size = gr at h1 ⊢
  clear hW H1 n1 n2 n3 p1
  replace h1 := h1.drew
  refine wp_region_brk [14] (by kernel_rfl) ?_
  refine wpAnyB_now (fun w' => ∃ (Y Z : Asr) (D : Nat → List Int), Hold w0 w' (Y * (Z * (enA g th 2 ck * (memA m D * R))))) (fun _ _ => trivial) _ _ _ _ ?_
  refine' wpAnyB_bulk [true, true, true, true, true, true, true, true, true, true] 58 (listed' := #[true, true, true, true, true, true, true, true, true, true, false, false, false, false, false]) rfl (by kernel_rfl) (by kernel_rfl) (by kernel_rfl) (by kernel_rfl) (by kernel_rfl) (by kernel_rfl) (by decide) (fun _ _ _ _ h => h) rfl ⟨_, _, _, h1⟩ (fun wq hq => ?_) ?_; rotate_left 1
  · simp only [maskL]
    obtain ⟨Y, Z, D, hq⟩ := hq
    have q0 := hq.drop.drop.blk.some_ (i := 0) rfl
    have q2 := hq.drop.drop.blk.some_ (i := 2) rfl
    repeat (go_big_quiet_step (fail))
    exact wpQuiet_nil rfl
  refine wpAnyB_bar [false, false, false, false, false, false, false, false, false, false, true] (fuel := 4) (by rfl) (by rfl) (by kernel_rfl) (fun QB hQB hQX => ?_)
  simp only [maskL]
  go_wp2_with fail
  refine (mem_store w0 _ _ m C 6 th (ck + 2) (h1.pk4 [3, 0, 1, 2]) hx HK.out.len).mono ?_
  rintro e w1 ⟨rfl, h2⟩
  rw [HA.out]
  generalize opE C 6 th = er
  clear h1
  go_wp2_with fail
  refine hQB.out _ _ ⟨_, _, _, h2.pk4 [1, 2, 3, 0]⟩ ?_
  clear hQB hQX QB
  have h3 : Hold w0 w1 (blkA 50 ga #[.int .i64 0, .int .i64 0, .int .i64 0, .int .u64 0, .int .u64 0, .bool false] * (enA g th 2 ck * (blkA 50 gr #[.int .i64 0, .int .i64 0, .int .i64 0, .int .u64 0, .int .u64 0, .bool false] * (memA m (opC C 6 th (ck + 2) true) * R)))) := h2.pk4 [1, 3, 2, 0]
  obtain ⟨⟨x0, x1, x2, x3, x4, x5⟩, z0, z1, z2, z3, z4, z5⟩ := blk_acc h3.blk
  have H4 := hid (h3.setAcc (.int .i64 a.kind) (.int .i64 a.cell) (.int .i64 a.index) (.int .u64 a.got) (.int .u64 a.put) (.bool a.done)).swap
  have H3S := hid (h2.pk4 [1, 2, 3, 0])
  clear h2 h3
  refine' wpAnyB_bulkT [false, false, false, false, false, false, false, false, false, false, false, true, true, true] 58 (listed' := #[true, true, true, true, true, true, true, true, true, true, true, true, true, true, false]) rfl (by kernel_rfl) (by kernel_rfl) (by kernel_rfl) (by kernel_rfl) (by kernel_rfl) (by decide) (fun _ _ _ _ h => h) rfl (by first | exact ⟨_, _, _, h1⟩ | exact ⟨_, _, _, H3S.out⟩) (fun wq _ => ?_) ?_; rotate_left 1
  · simp only [maskL]
    repeat (go_big_quiet_step (fail))
    exact wpQuiet_nil rfl
  refine wpAnyB_brk [false, false, false, false, false, false, false, false, false, false, false, false, false, false, true] (fuel := 0) (by rfl) (by rfl) (by kernel_rfl) (by kernel_rfl) (fun QB hQB hQX => ?_)
  simp only [maskL]
  go_wp2_with fail
  refine hQB.out _ _ ?_
  clear hQB hQX QB
  refine wpAnyB_forget (by kernel_rfl) ?_
  refine wpAnyB_done (by kernel_rfl) ?_ _
  have h4 := H4.out
  generalize hW : World.setCell _ _ _ = W4 at h4 ⊢
  clear hW H4 x0 x1 x2 x3 x4 x5 z0 z1 z2 z3 z4 z5
  have q1 := h4.blk.some_ (i := 1) (u := .int .i64 2) rfl
  have s1 := h4.blk.frozen 1
  have H5 := hid (h4.setBlk 1 (.int .i64 3))
  clear h4
  go_upto_region 12 with fail
  have h5 := H5.out
  generalize hW : World.setCell _ _ _ = W5 at h5 ⊢
  clear hW H5 q1 s1
  have h7 : Hold w0 W5 (enA g th 3 ck * (blkA 50 ga #[.int .i64 a.kind, .int .i64 a.cell, .int .i64 a.index, .int .u64 a.got, .int .u64 a.put, .bool a.done] * (blkA 50 gr #[.int .i64 0, .int .i64 0, .int .i64 0, .int .u64 0, .int .u64 0, .bool false] * (memA m (opC C 6 th (ck + 2) true) * R)))) := h5
  clear h5
  obtain ⟨⟨x0, x1, x2, x3, x4, x5⟩, z0, z1, z2, z3, z4, z5⟩ := blk_acc (h7.pk3 [2, 0, 1]).blk
  obtain ⟨⟨y0, y1, y2, y3, y4, y5⟩, _⟩ := blk_acc (h7.pk2 [1, 0]).blk
  have H8 := hid ((h7.pk3 [2, 0, 1]).setAcc (.int .i64 a.kind) (.int .i64 a.cell) (.int .i64 a.index) (.int .u64 a.got) (.int .u64 a.put) (.bool a.done))
  clear h7
  go_wp2_with fail
  have h8 := H8.out
  generalize hW : World.setCell _ _ _ = W8 at h8 ⊢
  clear hW H8 x0 x1 x2 x3 x4 x5 z0 z1 z2 z3 z4 z5 y0 y1 y2 y3 y4 y5
  obtain ⟨⟨y0, y1, y2, y3, y4, y5⟩, _⟩ := blk_acc h8.blk
  have hfin : Hid (RAccPost w0 (enA g th 3 ck * (memA m (opC C 6 th (ck + 2) true) * R)) a (.returned a.val) W8) := hid ⟨rfl, h8.pk3 [1]⟩
  exact bodyPost_ret (v := a.val) (by simp [results, Try.results49, go_sem, y0, y1, y2, y3, y4, y5]) rfl hfin.out
set_option maxRecDepth 8000 in
set_option maxHeartbeats 4000000 in
theorem fe_step_done (w0 w : World) (R : Asr) (g : Nat) (m : Value) (th n lim nx : Int) (h : Hold w0 w (feA g th n true lim nx * R)) (hn : n ≤ nx) :
    Calls Try.prog 45 #[.pointer (some ⟨g, 0, none⟩), m] w (RAccPost w0 (feA g th n true lim nx * R) acc0) := by
  have en : (true && decide (n ≤ nx)) = true := by simp [hn]
  have HN := hid en
  have h1 := (h.newBlk (t := 50) (cs := #[.int .i64 0, .int .i64 0, .int .i64 0, .int .u64 0, .int .u64 0, .bool false])).newBlk (t := 50) (cs := #[.int .i64 0, .int .i64 0, .int .i64 0, .int .u64 0, .int .u64 0, .bool false])
  simp only [World.size_alloc] at h1
  have H1 := hid h1
  have n1 := h.blk.lt
  have n2 : g ≠ w.heap.size := by omega
  have n3 : g ≠ w.heap.size + 1 := by omega
  clear h h1 hn en
  go_enter Try.func45, Try.ntmps45
  go_wp2_with fail
  have h1 := H1.out
  generalize hW : World.alloc _ _ = W at h1 ⊢
  generalize w.heap.size + 1 = ga at h1 ⊢
  generalize w.heap.size = gr at h1 ⊢
  clear hW H1 n1 n2 n3 
  refine (fe_done w0 _ _ g th n true lim nx (h1.pk3 [2, 0, 1])).mono ?_
  rintro e w1 ⟨rfl, h2⟩
  rw [HN.out]
  clear h1
  have h7 : Hold w0 w1 (feA g th n true lim nx * (blkA 50 ga #[.int .i64 0, .int .i64 0, .int .i64 0, .int .u64 0, .int .u64 0, .bool false] * (blkA 50 gr #[.int .i64 0, .int .i64 0, .int .i64 0, .int .u64 0, .int .u64 0, .bool false] * R))) := h2
  clear h2
  obtain ⟨⟨x0, x1, x2, x3, x4, x5⟩, z0, z1, z2, z3, z4, z5⟩ := blk_acc (h7.pk3 [2, 0, 1]).blk
  obtain ⟨⟨y0, y1, y2, y3, y4, y5⟩, _⟩ := blk_acc (h7.pk2 [1, 0]).blk
  have H8 := hid ((h7.pk3 [2, 0, 1]).setAcc (.int .i64 0) (.int .i64 0) (.int .i64 0) (.int .u64 0) (.int .u64 0) (.bool false))
  clear h7
  go_wp2_with fail
  have h8 := H8.out
  generalize hW : World.setCell _ _ _ = W8 at h8 ⊢
  clear hW H8 x0 x1 x2 x3 x4 x5 z0 z1 z2 z3 z4 z5 y0 y1 y2 y3 y4 y5
  obtain ⟨⟨y0, y1, y2, y3, y4, y5⟩, _⟩ := blk_acc h8.blk
  have hfin : Hid (RAccPost w0 (feA g th n true lim nx * R) acc0 (.returned acc0.val) W8) := hid ⟨rfl, h8.pk3 [1]⟩
  exact bodyPost_ret (v := acc0.val) (by simp [results, Try.results45, go_sem, acc0, y0, y1, y2, y3, y4, y5]) rfl hfin.out
set_option maxRecDepth 8000 in
set_option maxHeartbeats 4000000 in
theorem fe_step_load (w0 w : World) (R : Asr) (g m : Nat) (C : Nat → List Int) (th n lim nx : Int) (a : Acc) (h : Hold w0 w (feA g th n false lim nx * (memA m C * R))) (hC : COk C) (hb : 0 ≤ nx ∧ nx ≤ 1000) (ha : opA C 1 3 0 (valC C 3 0) true = a) :
    Calls Try.prog 45 #[.pointer (some ⟨g, 0, none⟩), .pointer (some ⟨m, 0, none⟩)] w (RAccPost w0 (feA g th n true a.got (skipN th nx) * (memA m C * R)) a) := by
  have HA := hid ha
  have HK := hid hC
  have h1 := (h.newBlk (t := 50) (cs := #[.int .i64 0, .int .i64 0, .int .i64 0, .int .u64 0, .int .u64 0, .bool false])).newBlk (t := 50) (cs := #[.int .i64 0, .int .i64 0, .int .i64 0, .int .u64 0, .int .u64 0, .bool false])
  simp only [World.size_alloc] at h1
  have H1 := hid h1
  have n1 := h.blk.lt
  have n2 : g ≠ w.heap.size := by omega
  have n3 : g ≠ w.heap.size + 1 := by omega
  clear h h1 ha hC
  go_enter Try.func45, Try.ntmps45
  go_wp2_with fail
  have h1 := H1.out
  generalize hW : World.alloc _ _ = W at h1 ⊢
  generalize w.heap.size + 1 = ga at h1 ⊢
  generalize w.heap.size = gr at h1 ⊢
  clear hW H1 n1 n2 n3 
  refine (fe_done w0 _ _ g th n false lim nx (h1.pk3 [2, 0, 1])).mono ?_
  rintro e v1 ⟨rfl, h1⟩
  rw [Bool.false_and]
  have p2 := h1.blk.some_ (i := 2) rfl
  go_wp2_with fail
  clear p2
  refine (mem_load w0 _ _ m C 3 0 (h1.pk4 [3, 0, 1, 2]) (by omega) HK.out.len).mono ?_
  rintro e w1 ⟨rfl, h2⟩
  rw [HA.out]
  generalize opE C 3 0 = er
  have h3 : Hold w0 w1 (blkA 50 ga #[.int .i64 0, .int .i64 0, .int .i64 0, .int .u64 0, .int .u64 0, .bool false] * (feA g th n false lim nx * (blkA 50 gr #[.int .i64 0, .int .i64 0, .int .i64 0, .int .u64 0, .int .u64 0, .bool false] * (memA m C * R)))) := h2.pk4 [2, 1, 3, 0]
  obtain ⟨⟨x0, x1, x2, x3, x4, x5⟩, z0, z1, z2, z3, z4, z5⟩ := blk_acc h3.blk
  have H4 := hid (h3.setAcc (.int .i64 a.kind) (.int .i64 a.cell) (.int .i64 a.index) (.int .u64 a.got) (.int .u64 a.put) (.bool a.done)).swap
  clear h1 h2 h3
  go_upto_region 9 with fail
  have h4 := H4.out
  generalize hW : World.setCell _ _ _ = W4 at h4 ⊢
  clear hW H4 x0 x1 x2 x3 x4 x5 z0 z1 z2 z3 z4 z5
  replace h4 := h4.drew
  refine wp_region_brk [9] (by kernel_rfl) ?_
  refine wpAnyB_now (fun w' => ∃ (b : Bool) (Z : Asr), Hold w0 w' (feA g th n b lim nx * (blkA 50 ga #[.int .i64 a.kind, .int .i64 a.cell, .int .i64 a.index, .int .u64 a.got, .int .u64 a.put, .bool a.done] * Z))) (fun _ _ => trivial) _ _ _ _ ?_
  refine' wpAnyB_bulk [true, true, true, true, true, true] 53 (listed' := #[true, true, true, true, true, true, false, false, false, false]) rfl (by kernel_rfl) (by kernel_rfl) (by kernel_rfl) (by kernel_rfl) (by kernel_rfl) (by kernel_rfl) (by decide) (fun _ _ _ _ h => h) rfl ⟨_, _, h4⟩ (fun wq hq => ?_) ?_; rotate_left 1
  · simp only [maskL]
    obtain ⟨b, Z, hq⟩ := hq
    have q3 := hq.drop.blk.some_ (i := 3) rfl
    repeat (go_big_quiet_step (fail))
    exact wpQuiet_nil rfl
  refine wpAnyB_bar [false, false, false, false, false, false, true] (fuel := 3) (by rfl) (by rfl) (by kernel_rfl) (fun QB hQB hQX => ?_)
  simp only [maskL]
  replace h4 := h4.undrew
  have q2 := h4.blk.some_ (i := 2) (u := .bool false) rfl
  have q3 := h4.blk.some_ (i := 3) (u := .int .u64 lim) rfl
  have s2 := h4.blk.frozen 2
  have s3 := h4.blk.frozen 3
  have H5S := hid (Hold.drew (h4.setBlk 2 (.bool true)))
  have H5 := hid ((h4.setBlk 2 (.bool true)).setBlk 3 (.int .u64 a.got))
  clear h4
  go_wp2_with fail
  refine hQB.out _ _ ⟨_, _, H5S.out⟩ ?_
  clear hQB hQX QB
  refine' wpAnyB_bulkT [false, false, false, false, false, false, false, true, true] 53 (listed' := #[true, true, true, true, true, true, true, true, true, false]) rfl (by kernel_rfl) (by kernel_rfl) (by kernel_rfl) (by kernel_rfl) (by kernel_rfl) (by decide) (fun _ _ _ _ h => h) rfl (by first | exact ⟨_, _, h4⟩ | exact ⟨_, _, H5S.out⟩) (fun wq _ => ?_) ?_; rotate_left 1
  · simp only [maskL]
    repeat (go_big_quiet_step (fail))
    exact wpQuiet_nil rfl
  refine wpAnyB_brk [false, false, false, false, false, false, false, false, false, true] (fuel := 0) (by rfl) (by rfl) (by kernel_rfl) (by kernel_rfl) (fun QB hQB hQX => ?_)
  simp only [maskL]
  go_wp2_with fail
  refine hQB.out _ _ ?_
  clear hQB hQX QB
  refine wpAnyB_forget (by kernel_rfl) ?_
  refine wpAnyB_done (by kernel_rfl) ?_ _
  clear q2 q3 s2 s3 H5S
  have h5 := H5.out
  generalize hW : World.setCell _ _ _ = W5 at h5 ⊢
  clear hW H5
  go_wp2_with fail
  refine (fe_skip w0 _ _ g th n true a.got nx (Hold.drew h5) hb).mono ?_
  rintro e w6 ⟨rfl, h6⟩
  clear h5
  have h7 : Hold w0 w6 (feA g th n true a.got (skipN th nx) * (blkA 50 ga #[.int .i64 a.kind, .int .i64 a.cell, .int .i64 a.index, .int .u64 a.got, .int .u64 a.put, .bool a.done] * (blkA 50 gr #[.int .i64 0, .int .i64 0, .int .i64 0, .int .u64 0, .int .u64 0, .bool false] * (memA m C * R)))) := h6
  clear h6
  obtain ⟨⟨x0, x1, x2, x3, x4, x5⟩, z0, z1, z2, z3, z4, z5⟩ := blk_acc (h7.pk3 [2, 0, 1]).blk
  obtain ⟨⟨y0, y1, y2, y3, y4, y5⟩, _⟩ := blk_acc (h7.pk2 [1, 0]).blk
  have H8 := hid ((h7.pk3 [2, 0, 1]).setAcc (.int .i64 a.kind) (.int .i64 a.cell) (.int .i64 a.index) (.int .u64 a.got) (.int .u64 a.put) (.bool a.done))
  clear h7
  go_wp2_with fail
  have h8 := H8.out
  generalize hW : World.setCell _ _ _ = W8 at h8 ⊢
  clear hW H8 x0 x1 x2 x3 x4 x5 z0 z1 z2 z3 z4 z5 y0 y1 y2 y3 y4 y5
  obtain ⟨⟨y0, y1, y2, y3, y4, y5⟩, _⟩ := blk_acc h8.blk
  have hfin : Hid (RAccPost w0 (feA g th n true a.got (skipN th nx) * (memA m C * R)) a (.returned a.val) W8) := hid ⟨rfl, h8.pk3 [1]⟩
  exact bodyPost_ret (v := a.val) (by simp [results, Try.results45, go_sem, y0, y1, y2, y3, y4, y5]) rfl hfin.out
set_option maxRecDepth 8000 in
set_option maxHeartbeats 4000000 in
theorem fe_step_watch (w0 w : World) (R : Asr) (g m : Nat) (C : Nat → List Int) (th n lim nx : Int) (a : Acc) (h : Hold w0 w (feA g th n true lim nx * (memA m C * R))) (hC : COk C) (hb : 0 ≤ nx ∧ nx ≤ 100) (hn : nx < n) (hg : 0 ≤ a.got ∧ a.got < 18446744073709551616) (ha : opA C 1 6 nx (valC C 6 nx) true = a) :
    Calls Try.prog 45 #[.pointer (some ⟨g, 0, none⟩), .pointer (some ⟨m, 0, none⟩)] w (RAccPost w0 (feA g th n true lim (fenN th lim nx a.got) * (memA m C * R)) a) := by
  have HA := hid ha
  have HK := hid hC
  have en : (true && decide (n ≤ nx)) = false := by simp; omega
  have HN := hid en
  have h1 := (h.newBlk (t := 50) (cs := #[.int .i64 0, .int .i64 0, .int .i64 0, .int .u64 0, .int .u64 0, .bool false])).newBlk (t := 50) (cs := #[.int .i64 0, .int .i64 0, .int .i64 0, .int .u64 0, .int .u64 0, .bool false])
  simp only [World.size_alloc] at h1
  have H1 := hid h1
  have n1 := h.blk.lt
  have n2 : g ≠ w.heap.size := by omega
  have n3 : g ≠ w.heap.size + 1 := by omega
  clear h h1 ha hC hn en
  go_enter Try.func45, Try.ntmps45
  go_wp2_with fail
  have h1 := H1.out
  generalize hW : World.alloc _ _ = W at h1 ⊢
  generalize w.heap.size + 1 = ga at h1 ⊢
  generalize w.heap.size = gr at h1 ⊢
  clear hW H1 n1 n2 n3 
  refine (fe_done w0 _ _ g th n true lim nx (h1.pk3 [2, 0, 1])).mono ?_
  rintro e v1 ⟨rfl, h1⟩
  rw [HN.out]
  have p2 := h1.blk.some_ (i := 2) rfl
  have p4 := h1.blk.some_ (i := 4) rfl
  go_wp2_with fail
  clear p2 p4
  refine (mem_load w0 _ _ m C 6 nx (h1.pk4 [3, 0, 1, 2]) (by omega) HK.out.len).mono ?_
  rintro e w1 ⟨rfl, h2⟩
  rw [HA.out]
  generalize opE C 6 nx = er
  have h3 : Hold w0 w1 (blkA 50 ga #[.int .i64 0, .int .i64 0, .int .i64 0, .int .u64 0, .int .u64 0, .bool false] * (feA g th n true lim nx * (blkA 50 gr #[.int .i64 0, .int .i64 0, .int .i64 0, .int .u64 0, .int .u64 0, .bool false] * (memA m C * R)))) := h2.pk4 [2, 1, 3, 0]
  obtain ⟨⟨x0, x1, x2, x3, x4, x5⟩, z0, z1, z2, z3, z4, z5⟩ := blk_acc h3.blk
  have H4 := hid (h3.setAcc (.int .i64 a.kind) (.int .i64 a.cell) (.int .i64 a.index) (.int .u64 a.got) (.int .u64 a.put) (.bool a.done)).swap
  clear h1 h2 h3
  go_upto_region 3 with fail
  have h4 := H4.out
  generalize hW : World.setCell _ _ _ = W4 at h4 ⊢
  clear hW H4 x0 x1 x2 x3 x4 x5 z0 z1 z2 z3 z4 z5
  have y3 := h4.drop.blk.some_ (i := 3) rfl
  go_wp2_with fail
  refine (fe_passes w0 _ _ g th n true lim nx a.got h4 hg).mono ?_
  rintro e w' ⟨rfl, rfl⟩
  obtain ⟨pb, hpb⟩ : ∃ pb, pb = passB a.got lim := ⟨_, rfl⟩
  have HPB := hid hpb
  rw [← hpb]
  clear hpb
  cases pb
  · have h7 : Hold w0 W4 (feA g th n true lim nx * (blkA 50 ga #[.int .i64 a.kind, .int .i64 a.cell, .int .i64 a.index, .int .u64 a.got, .int .u64 a.put, .bool a.done] * (blkA 50 gr #[.int .i64 0, .int .i64 0, .int .i64 0, .int .u64 0, .int .u64 0, .bool false] * (memA m C * R)))) := h4
    clear h4 y3
    obtain ⟨⟨x0, x1, x2, x3, x4, x5⟩, z0, z1, z2, z3, z4, z5⟩ := blk_acc (h7.pk3 [2, 0, 1]).blk
    obtain ⟨⟨y0, y1, y2, y3, y4, y5⟩, _⟩ := blk_acc (h7.pk2 [1, 0]).blk
    have H8 := hid ((h7.pk3 [2, 0, 1]).setAcc (.int .i64 a.kind) (.int .i64 a.cell) (.int .i64 a.index) (.int .u64 a.got) (.int .u64 a.put) (.bool a.done))
    clear h7
    go_wp2_with fail
    have h8 := H8.out
    generalize hW : World.setCell _ _ _ = W8 at h8 ⊢
    clear hW H8 x0 x1 x2 x3 x4 x5 z0 z1 z2 z3 z4 z5 y0 y1 y2 y3 y4 y5
    obtain ⟨⟨y0, y1, y2, y3, y4, y5⟩, _⟩ := blk_acc h8.blk
    have hfin : Hid (RAccPost w0 (feA g th n true lim (fenN th lim nx a.got) * (memA m C * R)) a (.returned a.val) W8) := hid ⟨rfl, by rw [show fenN th lim nx a.got = nx by unfold fenN; rw [← HPB.out]; rfl]; exact h8.pk3 [1]⟩
    exact bodyPost_ret (v := a.val) (by simp [results, Try.results45, go_sem, y0, y1, y2, y3, y4, y5]) rfl hfin.out
  · clear y3
    have q4 := h4.blk.some_ (i := 4) (u := .int .i64 nx) rfl
    have s4 := h4.blk.frozen 4
    have H5 := hid (h4.setBlk 4 (.int .i64 (nx + 1)))
    clear h4
    go_upto_region 5 with fail
    have h5 := H5.out
    generalize hW : World.setCell _ _ _ = W5 at h5 ⊢
    clear hW H5 q4 s4
    go_wp2_with fail
    refine (fe_skip w0 _ _ g th n true lim (nx + 1) h5 (by omega)).mono ?_
    rintro e w6 ⟨rfl, h6⟩
    clear h5
    have h7 : Hold w0 w6 (feA g th n true lim (skipN th (nx + 1)) * (blkA 50 ga #[.int .i64 a.kind, .int .i64 a.cell, .int .i64 a.index, .int .u64 a.got, .int .u64 a.put, .bool a.done] * (blkA 50 gr #[.int .i64 0, .int .i64 0, .int .i64 0, .int .u64 0, .int .u64 0, .bool false] * (memA m C * R)))) := h6
    clear h6
    obtain ⟨⟨x0, x1, x2, x3, x4, x5⟩, z0, z1, z2, z3, z4, z5⟩ := blk_acc (h7.pk3 [2, 0, 1]).blk
    obtain ⟨⟨y0, y1, y2, y3, y4, y5⟩, _⟩ := blk_acc (h7.pk2 [1, 0]).blk
    have H8 := hid ((h7.pk3 [2, 0, 1]).setAcc (.int .i64 a.kind) (.int .i64 a.cell) (.int .i64 a.index) (.int .u64 a.got) (.int .u64 a.put) (.bool a.done))
    clear h7
    go_wp2_with fail
    have h8 := H8.out
    generalize hW : World.setCell _ _ _ = W8 at h8 ⊢
    clear hW H8 x0 x1 x2 x3 x4 x5 z0 z1 z2 z3 z4 z5 y0 y1 y2 y3 y4 y5
    obtain ⟨⟨y0, y1, y2, y3, y4, y5⟩, _⟩ := blk_acc h8.blk
    have hfin : Hid (RAccPost w0 (feA g th n true lim (fenN th lim nx a.got) * (memA m C * R)) a (.returned a.val) W8) := hid ⟨rfl, by rw [show fenN th lim nx a.got = skipN th (nx + 1) by unfold fenN; rw [← HPB.out]; rfl]; exact h8.pk3 [1]⟩
    exact bodyPost_ret (v := a.val) (by simp [results, Try.results45, go_sem, y0, y1, y2, y3, y4, y5]) rfl hfin.out
set_option maxHeartbeats 2000000 in
theorem ep_leave (w0 w : World) (R : Asr) (m : Nat) (C : Nat → List Int) (th : Int) (h : Hold w0 w (memA m C * R)) (hC : COk C) (hx : -9223372036854775808 ≤ th ∧ th ≤ 9223372036854775807) :
    Calls Try.prog 57 #[.pointer (some ⟨m, 0, none⟩), .int .i64 th] w (RAccPost w0 (memA m (opC C 6 th 0 true) * R) (opA C 2 6 th 0 true)) := by
  obtain ⟨a, ha⟩ : ∃ a, a = opA C 2 6 th 0 true := ⟨_, rfl⟩
  rw [← ha]
  have HA := hid ha
  have HK := hid hC
  have h2 := (h.newBlk (t := 50) (cs := #[.int .i64 0, .int .i64 0, .int .i64 0, .int .u64 0, .int .u64 0, .bool false])).swap
  have H2 := hid h2
  clear ha hC h h2
  go_enter Try.func57, Try.ntmps57
  go_wp2_with fail
  have h2 := H2.out
  generalize hW : World.alloc _ _ = W at h2 ⊢
  generalize w.heap.size = gr at h2 ⊢
  clear hW H2
  refine (mem_store w0 _ _ m C 6 th 0 h2 hx HK.out.len).mono ?_
  rintro e w1 ⟨rfl, h3⟩
  rw [← HA.out]
  generalize opE C 6 th = er
  obtain ⟨⟨x0, x1, x2, x3, x4, x5⟩, z0, z1, z2, z3, z4, z5⟩ := blk_acc h3.swap.blk
  have hlt : gr < w1.heap.size := h3.swap.blk.lt
  have hne : gr ≠ w1.heap.size := by omega
  have h4 := (h3.swap.setAcc (.int .i64 a.kind) (.int .i64 a.cell) (.int .i64 a.index) (.int .u64 a.got) (.int .u64 a.put) (.bool a.done)).alloc (.cells #[.int .i64 a.kind, .int .i64 a.cell, .int .i64 a.index, .int .u64 a.got, .int .u64 a.put, .bool a.done] 50)
  have H4 := hid h4
  clear h2 h3 h4
  go_wp2_with fail
  have h4 := H4.out
  generalize hW : World.alloc _ _ = W4 at h4 ⊢
  clear hW H4 x0 x1 x2 x3 x4 x5 z0 z1 z2 z3 z4 z5
  obtain ⟨⟨y0, y1, y2, y3, y4, y5⟩, _⟩ := blk_acc h4.blk
  have hfin : Hid (RAccPost w0 (memA m (opC C 6 th 0 true) * R) a (.returned a.val) W4) := hid ⟨rfl, h4.drop⟩
  exact bodyPost_ret (v := a.val) (by simp [results, Try.results57, go_sem, y0, y1, y2, y3, y4, y5]) rfl hfin.out
end Go.Proofs.Ytigjpfhjddkckaa
