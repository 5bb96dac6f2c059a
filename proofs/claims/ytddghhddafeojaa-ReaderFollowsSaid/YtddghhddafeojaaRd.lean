/- reader: contracts. -/
import Derived.Test.YtddghhddafeojaaLab
import Derived.Test.YtddghhddafeojaaWd
import Derived.Deep.DeepCutAuto
namespace Go.Proofs.Ytddghhddafeojaa
open Go.RowKit
set_option linter.unusedVariables false

abbrev rdA (g : Nat) (addr orec rv at_ bf vl : Int) (cf : Bool) : Asr := blkA 114 g #[.int .i64 addr, .int .i64 orec, .int .i64 rv, .int .i64 at_, .int .u64 bf, .int .u64 vl, .bool cf]
theorem rd_new (w0 w : World) (R : Asr) (addr orec rv : Int) (h : Hold w0 w R) : Calls Try.prog 42 #[.int .i64 addr, .int .i64 orec, .int .i64 rv] w fun e w' => ∃ g, e = .returned (.pointer (some ⟨g, 0, none⟩)) ∧ Hold w0 w' (rdA g addr orec rv 0 0 0 false * R) := by
  have H := hid (h.newBlk (t := 114) (cs := #[.int .i64 addr, .int .i64 orec, .int .i64 rv, .int .i64 0, .int .u64 0, .int .u64 0, .bool false]))
  clear h
  go_enter Try.func42, Try.ntmps42
  go_wp2
  go_ret
  exact ⟨_, rfl, H.out⟩
theorem rd_done (w0 w : World) (R : Asr) (g : Nat) (addr orec rv at_ bf vl : Int) (cf : Bool) (h : Hold w0 w (rdA g addr orec rv at_ bf vl cf * R)) : Calls Try.prog 47 #[.pointer (some ⟨g, 0, none⟩)] w fun e w' => e = .returned (.bool (at_ == 3)) ∧ w = w' := by
  have q := h.blk.some_ (i := 3) rfl
  clear h
  go_enter Try.func47, Try.ntmps47
  go_wp2
  go_ret
  exact ⟨rfl, rfl⟩
theorem rd_conflict (w0 w : World) (R : Asr) (g : Nat) (addr orec rv at_ bf vl : Int) (cf : Bool) (h : Hold w0 w (rdA g addr orec rv at_ bf vl cf * R)) : Calls Try.prog 48 #[.pointer (some ⟨g, 0, none⟩)] w fun e w' => e = .returned (.bool cf) ∧ w = w' := by
  have q := h.blk.some_ (i := 6) rfl
  clear h
  go_enter Try.func48, Try.ntmps48
  go_wp2
  go_ret
  exact ⟨rfl, rfl⟩
/-- The value that a read returns. -/
def rdVal (at_ vl : Int) (cf : Bool) : Int := if at_ = 3 ∧ cf = false then vl else 0
theorem rd_value (w0 w : World) (R : Asr) (g : Nat) (addr orec rv at_ bf vl : Int) (cf : Bool) (h : Hold w0 w (rdA g addr orec rv at_ bf vl cf * R)) : Calls Try.prog 49 #[.pointer (some ⟨g, 0, none⟩)] w fun e w' => e = .returned (.int .u64 (rdVal at_ vl cf)) ∧ w = w' := by
  have q5 := h.blk.some_ (i := 5) rfl
  have q6 := h.blk.some_ (i := 6) rfl
  by_cases h3 : at_ = 3
  · subst h3
    cases cf
    · rw [show rdVal 3 vl false = vl from if_pos ⟨rfl, rfl⟩]
      go_enter Try.func49, Try.ntmps49
      go_wp2_with fail
      refine (rd_done w0 _ _ g addr orec rv 3 bf vl false h).mono ?_
      rintro e w' ⟨rfl, rfl⟩
      go_wp2_with fail
      go_ret
      exact ⟨rfl, rfl⟩
    · rw [show rdVal 3 vl true = 0 from if_neg (by simp)]
      go_enter Try.func49, Try.ntmps49
      go_wp2_with fail
      refine (rd_done w0 _ _ g addr orec rv 3 bf vl true h).mono ?_
      rintro e w' ⟨rfl, rfl⟩
      go_wp2_with fail
      go_ret
      exact ⟨rfl, rfl⟩
  · rw [show rdVal at_ vl cf = 0 from if_neg (fun h => h3 h.1)]
    have e3 : (at_ == 3) = false := by simp [h3]
    go_enter Try.func49, Try.ntmps49
    go_wp2_with fail
    refine (rd_done w0 _ _ g addr orec rv at_ bf vl cf h).mono ?_
    rintro e w' ⟨rfl, rfl⟩
    rw [e3]
    clear e3
    go_wp2_with fail
    go_ret
    exact ⟨rfl, rfl⟩
set_option maxHeartbeats 2000000 in
theorem rd_step3 (w0 w : World) (R : Asr) (g : Nat) (m : Value) (addr orec rv bf vl : Int) (cf : Bool) (h : Hold w0 w (rdA g addr orec rv 3 bf vl cf * R)) :
    Calls Try.prog 43 #[.pointer (some ⟨g, 0, none⟩), m] w (RAccPost w0 (rdA g addr orec rv 3 bf vl cf * R) acc0) := by
  have p3 := h.blk.some_ (i := 3) rfl
  have hl := h.blk.lt
  have n1 : g ≠ w.heap.size := by omega
  have n2 : g ≠ w.heap.size + 1 := by omega
  have H1 := hid ((h.alloc (.cells #[.int .i64 0, .int .i64 0, .int .i64 0, .int .u64 0, .int .u64 0, .bool false] 45)).alloc (.cells #[.int .i64 0, .int .i64 0, .int .i64 0, .int .u64 0, .int .u64 0, .bool false] 45))
  clear h
  go_enter Try.func43, Try.ntmps43
  go_wp2_with fail
  exact bodyPost_ret (v := acc0.val) (by simp [results, Try.results43, acc0, go_sem]) rfl ⟨rfl, H1.out⟩
set_option maxRecDepth 8000 in
set_option maxHeartbeats 4000000 in
theorem rd_step1 (w0 w : World) (R : Asr) (g m : Nat) (C : Nat → List Int) (addr orec rv bf vl : Int) (cf : Bool) (a : Acc) (h : Hold w0 w (rdA g addr orec rv 1 bf vl cf * (memA m C * R))) (hC : COk C) (hx : -9223372036854775808 ≤ addr ∧ addr ≤ 9223372036854775807) (ha : opA C 1 1 addr (valC C 1 addr) true = a) :
    Calls Try.prog 43 #[.pointer (some ⟨g, 0, none⟩), .pointer (some ⟨m, 0, none⟩)] w (RAccPost w0 (rdA g addr orec rv 2 bf a.got cf * (memA m C * R)) a) := by
  have HA := hid ha
  have HK := hid hC
  have h1 := (h.newBlk (t := 45) (cs := #[.int .i64 0, .int .i64 0, .int .i64 0, .int .u64 0, .int .u64 0, .bool false])).newBlk (t := 45) (cs := #[.int .i64 0, .int .i64 0, .int .i64 0, .int .u64 0, .int .u64 0, .bool false])
  simp only [World.size_alloc] at h1
  have H1 := hid h1
  have n1 := h.blk.lt
  have n2 : g ≠ w.heap.size := by omega
  have n3 : g ≠ w.heap.size + 1 := by omega
  have p0 := h.blk.some_ (i := 0) rfl
  have p1 := h.blk.some_ (i := 1) rfl
  have p3 := h.blk.some_ (i := 3) rfl
  clear h h1 ha hC
  go_enter Try.func43, Try.ntmps43
  go_wp2_with fail
  have h1 := H1.out
  generalize hW : World.alloc _ _ = W at h1 ⊢
  generalize w.heap.size + 1 = ga at h1 ⊢
  generalize w.heap.size = gr at h1 ⊢
  clear hW H1 n1 n2 n3 p0 p1 p3
  refine (mem_load w0 _ _ m C 1 addr (h1.pk4 [3, 0, 1, 2]) hx HK.out.len).mono ?_
  rintro e w1 ⟨rfl, h2⟩
  rw [HA.out]
  generalize opE C 1 addr = er
  have h3 : Hold w0 w1 (blkA 45 ga #[.int .i64 0, .int .i64 0, .int .i64 0, .int .u64 0, .int .u64 0, .bool false] * (rdA g addr orec rv 1 bf vl cf * (blkA 45 gr #[.int .i64 0, .int .i64 0, .int .i64 0, .int .u64 0, .int .u64 0, .bool false] * (memA m C * R)))) := h2.pk4 [1, 3, 2, 0]
  obtain ⟨⟨x0, x1, x2, x3, x4, x5⟩, z0, z1, z2, z3, z4, z5⟩ := blk_acc h3.blk
  have h4 := (h3.setAcc (.int .i64 a.kind) (.int .i64 a.cell) (.int .i64 a.index) (.int .u64 a.got) (.int .u64 a.put) (.bool a.done)).swap
  have H4 := hid h4
  clear h1 h2 h4
  go_upto_region 10 with fail
  have h4 := H4.out
  generalize hW : World.setCell _ _ _ = W4 at h4 ⊢
  clear hW H4 h3 x0 x1 x2 x3 x4 x5 z0 z1 z2 z3 z4 z5
  have y3 := h4.drop.blk.some_ (i := 3) rfl
  have q5 := h4.blk.some_ (i := 5) (u := .int .u64 vl) rfl
  have q3 := h4.blk.some_ (i := 3) (u := .int .i64 1) rfl
  have z5 := h4.blk.frozen 5
  have z3 := h4.blk.frozen 3
  have H5 := hid ((h4.setBlk 5 (.int .u64 a.got)).setBlk 3 (.int .i64 2))
  clear h4
  go_upto_region 14 with fail
  have h5 := H5.out
  generalize hW : World.setCell _ _ _ = W5 at h5 ⊢
  clear hW H5 y3 q5 q3 z5 z3
  have h7 : Hold w0 W5 (rdA g addr orec rv 2 bf a.got cf * (blkA 45 ga #[.int .i64 a.kind, .int .i64 a.cell, .int .i64 a.index, .int .u64 a.got, .int .u64 a.put, .bool a.done] * (blkA 45 gr #[.int .i64 0, .int .i64 0, .int .i64 0, .int .u64 0, .int .u64 0, .bool false] * (memA m C * R)))) := h5
  clear h5
  obtain ⟨⟨x0, x1, x2, x3, x4, x5⟩, z0, z1, z2, z3, z4, z5⟩ := blk_acc (h7.pk3 [2, 0, 1]).blk
  obtain ⟨⟨y0, y1, y2, y3, y4, y5⟩, _⟩ := blk_acc (h7.pk2 [1, 0]).blk
  have H8 := hid ((h7.pk3 [2, 0, 1]).setAcc (.int .i64 a.kind) (.int .i64 a.cell) (.int .i64 a.index) (.int .u64 a.got) (.int .u64 a.put) (.bool a.done))
  clear h7
  go_wp2_with fail
  have h8 := H8.out
  generalize hW : World.setCell _ _ _ = W8 at h8 ⊢
  clear hW H8 x0 x1 x2 x3 x4 x5 z0 z1 z2 z3 z4 z5 y0 y1 y2 y3 y4 y5
  obtain ⟨⟨y0, y1, y2, y3, y4, y5⟩, _⟩ := blk_acc h8.blk
  have hfin : Hid (RAccPost w0 (rdA g addr orec rv 2 bf a.got cf * (memA m C * R)) a (.returned a.val) W8) := hid ⟨rfl, h8.pk3 [1]⟩
  exact bodyPost_ret (v := a.val) (by simp [results, Try.results43, go_sem, y0, y1, y2, y3, y4, y5]) rfl hfin.out
set_option maxRecDepth 8000 in
set_option maxHeartbeats 4000000 in
theorem rd_step0_ok (w0 w : World) (R : Asr) (g m : Nat) (C : Nat → List Int) (addr orec rv bf vl : Int) (cf : Bool) (a : Acc) (h : Hold w0 w (rdA g addr orec rv 0 bf vl cf * (memA m C * R))) (hC : COk C) (hx : -9223372036854775808 ≤ orec ∧ orec ≤ 9223372036854775807) (ha : opA C 1 2 orec (valC C 2 orec) true = a) (h0 : 0 ≤ a.got ∧ a.got < 18446744073709551616) (hb : a.got % 64 = 0 ∧ a.got / 64 ≤ rv) :
    Calls Try.prog 43 #[.pointer (some ⟨g, 0, none⟩), .pointer (some ⟨m, 0, none⟩)] w (RAccPost w0 (rdA g addr orec rv 1 a.got vl cf * (memA m C * R)) a) := by
  have HA := hid ha
  have HK := hid hC
  have h1 := (h.newBlk (t := 45) (cs := #[.int .i64 0, .int .i64 0, .int .i64 0, .int .u64 0, .int .u64 0, .bool false])).newBlk (t := 45) (cs := #[.int .i64 0, .int .i64 0, .int .i64 0, .int .u64 0, .int .u64 0, .bool false])
  simp only [World.size_alloc] at h1
  have H1 := hid h1
  have n1 := h.blk.lt
  have n2 : g ≠ w.heap.size := by omega
  have n3 : g ≠ w.heap.size + 1 := by omega
  have p0 := h.blk.some_ (i := 0) rfl
  have p1 := h.blk.some_ (i := 1) rfl
  have p3 := h.blk.some_ (i := 3) rfl
  clear h h1 ha hC
  go_enter Try.func43, Try.ntmps43
  go_wp2_with fail
  have h1 := H1.out
  generalize hW : World.alloc _ _ = W at h1 ⊢
  generalize w.heap.size + 1 = ga at h1 ⊢
  generalize w.heap.size = gr at h1 ⊢
  clear hW H1 n1 n2 n3 p0 p1 p3
  refine (mem_load w0 _ _ m C 2 orec (h1.pk4 [3, 0, 1, 2]) hx HK.out.len).mono ?_
  rintro e w1 ⟨rfl, h2⟩
  rw [HA.out]
  generalize opE C 2 orec = er
  have h3 : Hold w0 w1 (blkA 45 ga #[.int .i64 0, .int .i64 0, .int .i64 0, .int .u64 0, .int .u64 0, .bool false] * (rdA g addr orec rv 0 bf vl cf * (blkA 45 gr #[.int .i64 0, .int .i64 0, .int .i64 0, .int .u64 0, .int .u64 0, .bool false] * (memA m C * R)))) := h2.pk4 [1, 3, 2, 0]
  obtain ⟨⟨x0, x1, x2, x3, x4, x5⟩, z0, z1, z2, z3, z4, z5⟩ := blk_acc h3.blk
  have h4 := (h3.setAcc (.int .i64 a.kind) (.int .i64 a.cell) (.int .i64 a.index) (.int .u64 a.got) (.int .u64 a.put) (.bool a.done)).swap
  have H4 := hid h4
  clear h1 h2 h4
  go_upto_region 5 with fail
  have h4 := H4.out
  generalize hW : World.setCell _ _ _ = W4 at h4 ⊢
  clear hW H4 h3 x0 x1 x2 x3 x4 x5 z0 z1 z2 z3 z4 z5
  have y3 := h4.drop.blk.some_ (i := 3) rfl
  have q4 := h4.blk.some_ (i := 4) (u := .int .u64 bf) rfl
  have q3 := h4.blk.some_ (i := 3) (u := .int .i64 0) rfl
  have z4 := h4.blk.frozen 4
  have z3 := h4.blk.frozen 3
  have H5 := hid ((h4.setBlk 4 (.int .u64 a.got)).setBlk 3 (.int .i64 1))
  clear h4
  go_wp2_with fail
  have h5 := H5.out
  generalize hW : World.setCell _ _ _ = W5 at h5 ⊢
  clear hW H5 y3 q4 q3 z4 z3
  have h6 : Hold w0 W5 (rdA g addr orec rv 1 a.got vl cf * (blkA 45 ga #[.int .i64 a.kind, .int .i64 a.cell, .int .i64 a.index, .int .u64 a.got, .int .u64 a.put, .bool a.done] * (blkA 45 gr #[.int .i64 0, .int .i64 0, .int .i64 0, .int .u64 0, .int .u64 0, .bool false] * (memA m C * R)))) := h5
  have q4 := h6.blk.some_ (i := 4) (u := .int .u64 a.got) rfl
  have q2 := h6.blk.some_ (i := 2) (u := .int .i64 rv) rfl
  clear h5
  have e1 : decide (0 ≤ a.got % 64 - 1) = false := decide_eq_false (by omega)
  have e2 : decide (1 ≤ a.got % 64) = false := decide_eq_false (by omega)
  have e3 : decide (rv < a.got / 64) = false := decide_eq_false (by omega)
  clear hb
  go_quiet ((first | (go_at_call 66; exact Calls.quiet_of_same ((holder_any _ _ h0.1 h0.2).mono fun e w' h => ⟨h.1, h.2.symm⟩)) | (go_at_call 67; exact Calls.quiet_of_same ((ver_any _ _ h0.1 h0.2).mono fun e w' h => ⟨h.1, h.2.symm⟩))))
  have h7 := h6.drewN nq
  clear h6 q4 q2 e1 e2 e3
  go_upto_region 14 with fail
  generalize World.drewN _ _ = W6 at h7 ⊢
  obtain ⟨⟨x0, x1, x2, x3, x4, x5⟩, z0, z1, z2, z3, z4, z5⟩ := blk_acc (h7.pk3 [2, 0, 1]).blk
  obtain ⟨⟨y0, y1, y2, y3, y4, y5⟩, _⟩ := blk_acc (h7.pk2 [1, 0]).blk
  have H8 := hid ((h7.pk3 [2, 0, 1]).setAcc (.int .i64 a.kind) (.int .i64 a.cell) (.int .i64 a.index) (.int .u64 a.got) (.int .u64 a.put) (.bool a.done))
  clear h7
  go_wp2_with fail
  have h8 := H8.out
  generalize hW : World.setCell _ _ _ = W8 at h8 ⊢
  clear hW H8 x0 x1 x2 x3 x4 x5 z0 z1 z2 z3 z4 z5 y0 y1 y2 y3 y4 y5
  obtain ⟨⟨y0, y1, y2, y3, y4, y5⟩, _⟩ := blk_acc h8.blk
  have hfin : Hid (RAccPost w0 (rdA g addr orec rv 1 a.got vl cf * (memA m C * R)) a (.returned a.val) W8) := hid ⟨rfl, h8.pk3 [1]⟩
  exact bodyPost_ret (v := a.val) (by simp [results, Try.results43, go_sem, y0, y1, y2, y3, y4, y5]) rfl hfin.out
set_option maxRecDepth 8000 in
set_option maxHeartbeats 4000000 in
theorem rd_step0_bad (w0 w : World) (R : Asr) (g m : Nat) (C : Nat → List Int) (addr orec rv bf vl : Int) (cf : Bool) (a : Acc) (h : Hold w0 w (rdA g addr orec rv 0 bf vl cf * (memA m C * R))) (hC : COk C) (hx : -9223372036854775808 ≤ orec ∧ orec ≤ 9223372036854775807) (ha : opA C 1 2 orec (valC C 2 orec) true = a) (h0 : 0 ≤ a.got ∧ a.got < 18446744073709551616) (hb : a.got % 64 ≠ 0 ∨ rv < a.got / 64) :
    Calls Try.prog 43 #[.pointer (some ⟨g, 0, none⟩), .pointer (some ⟨m, 0, none⟩)] w (RAccPost w0 (rdA g addr orec rv 3 a.got vl true * (memA m C * R)) a) := by
  have HA := hid ha
  have HK := hid hC
  have h1 := (h.newBlk (t := 45) (cs := #[.int .i64 0, .int .i64 0, .int .i64 0, .int .u64 0, .int .u64 0, .bool false])).newBlk (t := 45) (cs := #[.int .i64 0, .int .i64 0, .int .i64 0, .int .u64 0, .int .u64 0, .bool false])
  simp only [World.size_alloc] at h1
  have H1 := hid h1
  have n1 := h.blk.lt
  have n2 : g ≠ w.heap.size := by omega
  have n3 : g ≠ w.heap.size + 1 := by omega
  have p0 := h.blk.some_ (i := 0) rfl
  have p1 := h.blk.some_ (i := 1) rfl
  have p3 := h.blk.some_ (i := 3) rfl
  clear h h1 ha hC
  go_enter Try.func43, Try.ntmps43
  go_wp2_with fail
  have h1 := H1.out
  generalize hW : World.alloc _ _ = W at h1 ⊢
  generalize w.heap.size + 1 = ga at h1 ⊢
  generalize w.heap.size = gr at h1 ⊢
  clear hW H1 n1 n2 n3 p0 p1 p3
  refine (mem_load w0 _ _ m C 2 orec (h1.pk4 [3, 0, 1, 2]) hx HK.out.len).mono ?_
  rintro e w1 ⟨rfl, h2⟩
  rw [HA.out]
  generalize opE C 2 orec = er
  have h3 : Hold w0 w1 (blkA 45 ga #[.int .i64 0, .int .i64 0, .int .i64 0, .int .u64 0, .int .u64 0, .bool false] * (rdA g addr orec rv 0 bf vl cf * (blkA 45 gr #[.int .i64 0, .int .i64 0, .int .i64 0, .int .u64 0, .int .u64 0, .bool false] * (memA m C * R)))) := h2.pk4 [1, 3, 2, 0]
  obtain ⟨⟨x0, x1, x2, x3, x4, x5⟩, z0, z1, z2, z3, z4, z5⟩ := blk_acc h3.blk
  have h4 := (h3.setAcc (.int .i64 a.kind) (.int .i64 a.cell) (.int .i64 a.index) (.int .u64 a.got) (.int .u64 a.put) (.bool a.done)).swap
  have H4 := hid h4
  clear h1 h2 h4
  go_upto_region 5 with fail
  have h4 := H4.out
  generalize hW : World.setCell _ _ _ = W4 at h4 ⊢
  clear hW H4 h3 x0 x1 x2 x3 x4 x5 z0 z1 z2 z3 z4 z5
  have y3 := h4.drop.blk.some_ (i := 3) rfl
  have q4 := h4.blk.some_ (i := 4) (u := .int .u64 bf) rfl
  have q3 := h4.blk.some_ (i := 3) (u := .int .i64 0) rfl
  have z4 := h4.blk.frozen 4
  have z3 := h4.blk.frozen 3
  have H5 := hid ((h4.setBlk 4 (.int .u64 a.got)).setBlk 3 (.int .i64 1))
  clear h4
  go_wp2_with fail
  have h5 := H5.out
  generalize hW : World.setCell _ _ _ = W5 at h5 ⊢
  clear hW H5 y3 q4 q3 z4 z3
  have h6 : Hold w0 W5 (rdA g addr orec rv 1 a.got vl cf * (blkA 45 ga #[.int .i64 a.kind, .int .i64 a.cell, .int .i64 a.index, .int .u64 a.got, .int .u64 a.put, .bool a.done] * (blkA 45 gr #[.int .i64 0, .int .i64 0, .int .i64 0, .int .u64 0, .int .u64 0, .bool false] * (memA m C * R)))) := h5
  have q4 := h6.blk.some_ (i := 4) (u := .int .u64 a.got) rfl
  have q2 := h6.blk.some_ (i := 2) (u := .int .i64 rv) rfl
  clear h5
  by_cases hh : 1 ≤ a.got % 64
  · have e1 : decide (0 ≤ a.got % 64 - 1) = true := decide_eq_true (by omega)
    have e2 : decide (1 ≤ a.got % 64) = true := decide_eq_true (by omega)
    clear hb
    go_quiet ((first | (go_at_call 66; exact Calls.quiet_of_same ((holder_any _ _ h0.1 h0.2).mono fun e w' h => ⟨h.1, h.2.symm⟩)) | (go_at_call 67; exact Calls.quiet_of_same ((ver_any _ _ h0.1 h0.2).mono fun e w' h => ⟨h.1, h.2.symm⟩))))
    replace h6 := h6.drewN nq
    clear q4 q2
    generalize World.drewN _ _ = W6 at h6 ⊢
    have q6 := h6.blk.some_ (i := 6) (u := .bool cf) rfl
    have q3 := h6.blk.some_ (i := 3) (u := .int .i64 1) rfl
    have z6 := h6.blk.frozen 6
    have z3 := h6.blk.frozen 3
    have H7 := hid ((h6.setBlk 6 (.bool true)).setBlk 3 (.int .i64 3))
    clear h6
    go_upto_region 14 with fail
    have h7 := H7.out
    generalize hW : World.setCell _ _ _ = W7 at h7 ⊢
    clear hW H7 q6 q3 z6 z3
    replace h7 : Hold w0 W7 (rdA g addr orec rv 3 a.got vl true * (blkA 45 ga #[.int .i64 a.kind, .int .i64 a.cell, .int .i64 a.index, .int .u64 a.got, .int .u64 a.put, .bool a.done] * (blkA 45 gr #[.int .i64 0, .int .i64 0, .int .i64 0, .int .u64 0, .int .u64 0, .bool false] * (memA m C * R)))) := h7
    obtain ⟨⟨x0, x1, x2, x3, x4, x5⟩, z0, z1, z2, z3, z4, z5⟩ := blk_acc (h7.pk3 [2, 0, 1]).blk
    obtain ⟨⟨y0, y1, y2, y3, y4, y5⟩, _⟩ := blk_acc (h7.pk2 [1, 0]).blk
    have H8 := hid ((h7.pk3 [2, 0, 1]).setAcc (.int .i64 a.kind) (.int .i64 a.cell) (.int .i64 a.index) (.int .u64 a.got) (.int .u64 a.put) (.bool a.done))
    clear h7
    go_wp2_with fail
    have h8 := H8.out
    generalize hW : World.setCell _ _ _ = W8 at h8 ⊢
    clear hW H8 x0 x1 x2 x3 x4 x5 z0 z1 z2 z3 z4 z5 y0 y1 y2 y3 y4 y5
    obtain ⟨⟨y0, y1, y2, y3, y4, y5⟩, _⟩ := blk_acc h8.blk
    have hfin : Hid (RAccPost w0 (rdA g addr orec rv 3 a.got vl true * (memA m C * R)) a (.returned a.val) W8) := hid ⟨rfl, h8.pk3 [1]⟩
    exact bodyPost_ret (v := a.val) (by simp [results, Try.results43, go_sem, y0, y1, y2, y3, y4, y5]) rfl hfin.out
  · have e1 : decide (0 ≤ a.got % 64 - 1) = false := decide_eq_false (by omega)
    have e2 : decide (1 ≤ a.got % 64) = false := decide_eq_false (by omega)
    have e3 : decide (rv < a.got / 64) = true := decide_eq_true (by omega)
    clear hb
    go_quiet ((first | (go_at_call 66; exact Calls.quiet_of_same ((holder_any _ _ h0.1 h0.2).mono fun e w' h => ⟨h.1, h.2.symm⟩)) | (go_at_call 67; exact Calls.quiet_of_same ((ver_any _ _ h0.1 h0.2).mono fun e w' h => ⟨h.1, h.2.symm⟩))))
    replace h6 := h6.drewN nq
    clear q4 q2
    generalize World.drewN _ _ = W6 at h6 ⊢
    have q6 := h6.blk.some_ (i := 6) (u := .bool cf) rfl
    have q3 := h6.blk.some_ (i := 3) (u := .int .i64 1) rfl
    have z6 := h6.blk.frozen 6
    have z3 := h6.blk.frozen 3
    have H7 := hid ((h6.setBlk 6 (.bool true)).setBlk 3 (.int .i64 3))
    clear h6
    go_upto_region 14 with fail
    have h7 := H7.out
    generalize hW : World.setCell _ _ _ = W7 at h7 ⊢
    clear hW H7 q6 q3 z6 z3
    replace h7 : Hold w0 W7 (rdA g addr orec rv 3 a.got vl true * (blkA 45 ga #[.int .i64 a.kind, .int .i64 a.cell, .int .i64 a.index, .int .u64 a.got, .int .u64 a.put, .bool a.done] * (blkA 45 gr #[.int .i64 0, .int .i64 0, .int .i64 0, .int .u64 0, .int .u64 0, .bool false] * (memA m C * R)))) := h7
    obtain ⟨⟨x0, x1, x2, x3, x4, x5⟩, z0, z1, z2, z3, z4, z5⟩ := blk_acc (h7.pk3 [2, 0, 1]).blk
    obtain ⟨⟨y0, y1, y2, y3, y4, y5⟩, _⟩ := blk_acc (h7.pk2 [1, 0]).blk
    have H8 := hid ((h7.pk3 [2, 0, 1]).setAcc (.int .i64 a.kind) (.int .i64 a.cell) (.int .i64 a.index) (.int .u64 a.got) (.int .u64 a.put) (.bool a.done))
    clear h7
    go_wp2_with fail
    have h8 := H8.out
    generalize hW : World.setCell _ _ _ = W8 at h8 ⊢
    clear hW H8 x0 x1 x2 x3 x4 x5 z0 z1 z2 z3 z4 z5 y0 y1 y2 y3 y4 y5
    obtain ⟨⟨y0, y1, y2, y3, y4, y5⟩, _⟩ := blk_acc h8.blk
    have hfin : Hid (RAccPost w0 (rdA g addr orec rv 3 a.got vl true * (memA m C * R)) a (.returned a.val) W8) := hid ⟨rfl, h8.pk3 [1]⟩
    exact bodyPost_ret (v := a.val) (by simp [results, Try.results43, go_sem, y0, y1, y2, y3, y4, y5]) rfl hfin.out
set_option maxRecDepth 8000 in
set_option maxHeartbeats 4000000 in
theorem rd_step2 (w0 w : World) (R : Asr) (g m : Nat) (C : Nat → List Int) (addr orec rv bf vl : Int) (cf : Bool) (a : Acc) (h : Hold w0 w (rdA g addr orec rv 2 bf vl cf * (memA m C * R))) (hC : COk C) (hx : -9223372036854775808 ≤ orec ∧ orec ≤ 9223372036854775807) (ha : opA C 1 2 orec (valC C 2 orec) true = a) :
    Calls Try.prog 43 #[.pointer (some ⟨g, 0, none⟩), .pointer (some ⟨m, 0, none⟩)] w (RAccPost w0 (rdA g addr orec rv 3 bf vl (a.got != bf) * (memA m C * R)) a) := by
  have HA := hid ha
  have HK := hid hC
  have h1 := (h.newBlk (t := 45) (cs := #[.int .i64 0, .int .i64 0, .int .i64 0, .int .u64 0, .int .u64 0, .bool false])).newBlk (t := 45) (cs := #[.int .i64 0, .int .i64 0, .int .i64 0, .int .u64 0, .int .u64 0, .bool false])
  simp only [World.size_alloc] at h1
  have H1 := hid h1
  have n1 := h.blk.lt
  have n2 : g ≠ w.heap.size := by omega
  have n3 : g ≠ w.heap.size + 1 := by omega
  have p0 := h.blk.some_ (i := 0) rfl
  have p1 := h.blk.some_ (i := 1) rfl
  have p3 := h.blk.some_ (i := 3) rfl
  clear h h1 ha hC
  go_enter Try.func43, Try.ntmps43
  go_wp2_with fail
  have h1 := H1.out
  generalize hW : World.alloc _ _ = W at h1 ⊢
  generalize w.heap.size + 1 = ga at h1 ⊢
  generalize w.heap.size = gr at h1 ⊢
  clear hW H1 n1 n2 n3 p0 p1 p3
  refine (mem_load w0 _ _ m C 2 orec (h1.pk4 [3, 0, 1, 2]) hx HK.out.len).mono ?_
  rintro e w1 ⟨rfl, h2⟩
  rw [HA.out]
  generalize opE C 2 orec = er
  have h3 : Hold w0 w1 (blkA 45 ga #[.int .i64 0, .int .i64 0, .int .i64 0, .int .u64 0, .int .u64 0, .bool false] * (rdA g addr orec rv 2 bf vl cf * (blkA 45 gr #[.int .i64 0, .int .i64 0, .int .i64 0, .int .u64 0, .int .u64 0, .bool false] * (memA m C * R)))) := h2.pk4 [1, 3, 2, 0]
  obtain ⟨⟨x0, x1, x2, x3, x4, x5⟩, z0, z1, z2, z3, z4, z5⟩ := blk_acc h3.blk
  have h4 := (h3.setAcc (.int .i64 a.kind) (.int .i64 a.cell) (.int .i64 a.index) (.int .u64 a.got) (.int .u64 a.put) (.bool a.done)).swap
  have H4 := hid h4
  clear h1 h2 h4
  go_wp2_with fail
  have h4 := H4.out
  generalize hW : World.setCell _ _ _ = W4 at h4 ⊢
  clear hW H4 h3 x0 x1 x2 x3 x4 x5 z0 z1 z2 z3 z4 z5
  replace h4 := h4.drew
  refine wp_region_brk [11] (by kernel_rfl) ?_
  refine wpAnyB_now (fun w' => ∃ (t : Int) (Z : Asr), Hold w0 w' (rdA g addr orec rv t bf vl cf * (blkA 45 ga #[.int .i64 a.kind, .int .i64 a.cell, .int .i64 a.index, .int .u64 a.got, .int .u64 a.put, .bool a.done] * Z))) (fun _ _ => trivial) _ _ _ _ ?_
  refine' wpAnyB_bulkT [true, true, true, false, true, true, true] 97 (listed' := #[true, true, true, false, true, true, true, false, false, false, false, false, false, false, false]) rfl (by kernel_rfl) (by kernel_rfl) (by kernel_rfl) (by kernel_rfl) (by kernel_rfl) (by decide) (fun _ _ _ _ h => h) rfl ⟨_, _, h4⟩ (fun wq _ => ?_) ?_; rotate_left 1
  · simp only [maskL]
    repeat (go_big_quiet_step (fail))
    exact wpQuiet_nil rfl
  refine' wpAnyB_bulk [false, false, false, true, false, false, false, true, true] 97 (listed' := #[true, true, true, true, true, true, true, true, true, false, false, false, false, false, false]) rfl (by kernel_rfl) (by kernel_rfl) (by kernel_rfl) (by kernel_rfl) (by kernel_rfl) (by kernel_rfl) (by decide) (fun _ _ _ _ h => h) rfl ⟨_, _, h4⟩ (fun wq hq => ?_) ?_; rotate_left 1
  · simp only [maskL]
    obtain ⟨t, Z, hq⟩ := hq
    have q4 := hq.blk.some_ (i := 4) (u := .int .u64 bf) rfl
    have y3 := hq.drop.blk.some_ (i := 3) rfl
    repeat (go_big_quiet_step (fail))
    exact wpQuiet_nil rfl
  refine' wpAnyB_bulkT [false, false, false, false, false, false, false, false, false, true, true] 97 (listed' := #[true, true, true, true, true, true, true, true, true, true, true, false, false, false, false]) rfl (by kernel_rfl) (by kernel_rfl) (by kernel_rfl) (by kernel_rfl) (by kernel_rfl) (by decide) (fun _ _ _ _ h => h) rfl ⟨_, _, h4⟩ (fun wq _ => ?_) ?_; rotate_left 1
  · simp only [maskL]
    repeat (go_big_quiet_step (fail))
    exact wpQuiet_nil rfl
  refine wpAnyB_brk [false, false, false, false, false, false, false, false, false, false, false, true] (fuel := 3) (by rfl) (by rfl) (by kernel_rfl) (by kernel_rfl) (fun QB hQB hQX => ?_)
  simp only [maskL]
  replace h4 := h4.undrew
  have q6 := h4.blk.some_ (i := 6) (u := .bool cf) rfl
  have q3 := h4.blk.some_ (i := 3) (u := .int .i64 2) rfl
  have z6 := h4.blk.frozen 6
  have z3 := h4.blk.frozen 3
  have H5 := hid ((h4.setBlk 6 (.bool (a.got != bf))).setBlk 3 (.int .i64 3))
  clear h4
  go_wp2_with fail
  refine hQB.out _ _ ?_
  clear hQB hQX QB
  refine wpAnyB_forget (by kernel_rfl) ?_
  refine' wpAnyB_bulk [false, false, false, false, false, false, false, false, false, false, false, false, true, true] 97 (listed' := #[true, true, true, true, true, true, true, true, true, true, true, true, true, true, false]) rfl (by kernel_rfl) (by kernel_rfl) (by kernel_rfl) (by kernel_rfl) (by kernel_rfl) (by kernel_rfl) (by decide) (fun _ _ _ _ h => h) rfl trivial (fun wq hq => ?_) ?_; rotate_left 1
  · simp only [maskL]
    repeat (go_big_quiet_step (fail))
    exact wpQuiet_nil rfl
  refine wpAnyB_bar [false, false, false, false, false, false, false, false, false, false, false, false, false, false, true] (fuel := 0) (by rfl) (by rfl) (by kernel_rfl) (fun QB hQB hQX => ?_)
  simp only [maskL]
  go_wp2_with fail
  refine hQB.out _ _ trivial ?_
  clear hQB hQX QB
  refine wpAnyB_done (by kernel_rfl) ?_ _
  have h5 := H5.out
  generalize hW : World.setCell _ _ _ = W5 at h5 ⊢
  clear hW H5 q6 q3 z6 z3
  have h7 : Hold w0 W5 (rdA g addr orec rv 3 bf vl (a.got != bf) * (blkA 45 ga #[.int .i64 a.kind, .int .i64 a.cell, .int .i64 a.index, .int .u64 a.got, .int .u64 a.put, .bool a.done] * (blkA 45 gr #[.int .i64 0, .int .i64 0, .int .i64 0, .int .u64 0, .int .u64 0, .bool false] * (memA m C * R)))) := h5
  clear h5
  obtain ⟨⟨x0, x1, x2, x3, x4, x5⟩, z0, z1, z2, z3, z4, z5⟩ := blk_acc (h7.pk3 [2, 0, 1]).blk
  obtain ⟨⟨y0, y1, y2, y3, y4, y5⟩, _⟩ := blk_acc (h7.pk2 [1, 0]).blk
  have H8 := hid ((h7.pk3 [2, 0, 1]).setAcc (.int .i64 a.kind) (.int .i64 a.cell) (.int .i64 a.index) (.int .u64 a.got) (.int .u64 a.put) (.bool a.done))
  clear h7
  go_wp2_with fail
  have h8 := H8.out
  generalize hW : World.setCell _ _ _ = W8 at h8 ⊢
  clear hW H8 x0 x1 x2 x3 x4 x5 z0 z1 z2 z3 z4 z5 y0 y1 y2 y3 y4 y5
  obtain ⟨⟨y0, y1, y2, y3, y4, y5⟩, _⟩ := blk_acc h8.blk
  have hfin : Hid (RAccPost w0 (rdA g addr orec rv 3 bf vl (a.got != bf) * (memA m C * R)) a (.returned a.val) W8.drew) := hid ⟨rfl, (h8.pk3 [1]).drew⟩
  exact bodyPost_ret (v := a.val) (by simp [results, Try.results43, go_sem, y0, y1, y2, y3, y4, y5]) rfl hfin.out
end Go.Proofs.Ytddghhddafeojaa
