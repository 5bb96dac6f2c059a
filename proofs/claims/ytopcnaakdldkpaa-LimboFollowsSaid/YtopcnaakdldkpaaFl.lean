/- freelist: contracts. -/
import Derived.Test.YtopcnaakdldkpaaLab
import Derived.Test.YtopcnaakdldkpaaSl
import Derived.Test.YtopcnaakdldkpaaWordW
import Derived.Deep.DeepCutAuto
import Derived.Deep.CutBlock
namespace Go.Proofs.Ytopcnaakdldkpaa
open Go.RowKit
set_option linter.unusedVariables false

/-- The head that a machine swaps in. -/
def bumpV (hd t : Int) : Int := W.headW ((hd / 65536 + 1) % 281474976710656) t
abbrev poA (g : Nat) (cl at_ hd nx bk : Int) : Asr := blkA 109 g #[.int .i64 cl, .int .i64 at_, .int .u64 hd, .int .u64 nx, .int .i64 bk]
abbrev puA (g : Nat) (cl bk at_ hd : Int) : Asr := blkA 120 g #[.int .i64 cl, .int .i64 bk, .int .i64 at_, .int .u64 hd]
theorem po_new (w0 w : World) (R : Asr) (cl : Int) (h : Hold w0 w R) : Calls Try.prog 31 #[.int .i64 cl] w fun e w' => ∃ g, e = .returned (.pointer (some ⟨g, 0, none⟩)) ∧ Hold w0 w' (poA g cl 0 0 0 (-1) * R) := by
  have H := hid (h.newBlk (t := 109) (cs := #[.int .i64 cl, .int .i64 0, .int .u64 0, .int .u64 0, .int .i64 (-1)]))
  clear h
  go_enter Try.func31, Try.ntmps31
  go_wp2
  go_ret
  exact ⟨_, rfl, H.out⟩
theorem pu_new (w0 w : World) (R : Asr) (cl bk : Int) (h : Hold w0 w R) : Calls Try.prog 37 #[.int .i64 cl, .int .i64 bk] w fun e w' => ∃ g, e = .returned (.pointer (some ⟨g, 0, none⟩)) ∧ Hold w0 w' (puA g cl bk 0 0 * R) := by
  have H := hid (h.newBlk (t := 120) (cs := #[.int .i64 cl, .int .i64 bk, .int .i64 0, .int .u64 0]))
  clear h
  go_enter Try.func37, Try.ntmps37
  go_wp2
  go_ret
  exact ⟨_, rfl, H.out⟩
theorem po_block (w0 w : World) (R : Asr) (g : Nat) (cl at_ hd nx bk : Int) (h : Hold w0 w (poA g cl at_ hd nx bk * R)) : Calls Try.prog 33 #[.pointer (some ⟨g, 0, none⟩)] w fun e w' => e = .returned (.int .i64 bk) ∧ w = w' := by
  have q := h.blk.some_ (i := 4) rfl
  clear h
  go_enter Try.func33, Try.ntmps33
  go_wp2
  go_ret
  exact ⟨rfl, rfl⟩
theorem pu_done (w0 w : World) (R : Asr) (g : Nat) (cl bk at_ hd : Int) (h : Hold w0 w (puA g cl bk at_ hd * R)) : Calls Try.prog 40 #[.pointer (some ⟨g, 0, none⟩)] w fun e w' => e = .returned (.bool (at_ == 3)) ∧ w = w' := by
  have q := h.blk.some_ (i := 2) rfl
  clear h
  go_enter Try.func40, Try.ntmps40
  go_wp2
  go_ret
  exact ⟨rfl, rfl⟩
set_option maxRecDepth 8000 in
set_option maxHeartbeats 4000000 in
theorem po_step0_some (w0 w : World) (R : Asr) (g m : Nat) (C : Nat → List Int) (cl hd nx bk : Int) (a : Acc) (h : Hold w0 w (poA g cl 0 hd nx bk * (memA m C * R))) (hC : COk C) (hx : -9223372036854775808 ≤ cl ∧ cl ≤ 9223372036854775807) (hg : 0 ≤ a.got ∧ a.got < 18446744073709551616) (ht : 1 ≤ a.got % 65536) (ha : opA C 1 7 cl (valC C 7 cl) true = a) :
    Calls Try.prog 32 #[.pointer (some ⟨g, 0, none⟩), .pointer (some ⟨m, 0, none⟩)] w (RAccPost w0 (poA g cl 1 a.got nx bk * (memA m C * R)) a) := by
  have HA := hid ha
  have HK := hid hC
  have et : decide (a.got % 65536 - 1 < 0) = false := by exact decide_eq_false (by omega)
  have ET := hid et
  have h1 := (h.newBlk (t := 55) (cs := #[.int .i64 0, .int .i64 0, .int .i64 0, .int .u64 0, .int .u64 0, .bool false])).newBlk (t := 55) (cs := #[.int .i64 0, .int .i64 0, .int .i64 0, .int .u64 0, .int .u64 0, .bool false])
  simp only [World.size_alloc] at h1
  have H1 := hid h1
  have n1 := h.blk.lt
  have n2 : g ≠ w.heap.size := by omega
  have n3 : g ≠ w.heap.size + 1 := by omega
  have p0 := h.blk.some_ (i := 0) rfl
  have p1 := h.blk.some_ (i := 1) rfl
  clear h h1 ha hC et ht
  go_enter Try.func32, Try.ntmps32
  go_wp2_with fail
  have h1 := H1.out
  generalize hW : World.alloc _ _ = W at h1 ⊢
  generalize w.heap.size + 1 = ga at h1 ⊢
  generalize w.heap.size = gr at h1 ⊢
  clear hW H1 n1 n2 n3 p0 p1
  refine (mem_load w0 _ _ m C 7 cl (h1.pk4 [3, 0, 1, 2]) hx HK.out.len).mono ?_
  rintro e w1 ⟨rfl, h2⟩
  rw [HA.out]
  generalize opE C 7 cl = er
  have h3 : Hold w0 w1 (blkA 55 ga #[.int .i64 0, .int .i64 0, .int .i64 0, .int .u64 0, .int .u64 0, .bool false] * (poA g cl 0 hd nx bk * (blkA 55 gr #[.int .i64 0, .int .i64 0, .int .i64 0, .int .u64 0, .int .u64 0, .bool false] * (memA m C * R)))) := h2.pk4 [1, 3, 2, 0]
  obtain ⟨⟨x0, x1, x2, x3, x4, x5⟩, z0, z1, z2, z3, z4, z5⟩ := blk_acc h3.blk
  have H4 := hid (h3.setAcc (.int .i64 a.kind) (.int .i64 a.cell) (.int .i64 a.index) (.int .u64 a.got) (.int .u64 a.put) (.bool a.done)).swap
  clear h1 h2 h3
  go_upto_region 5 with fail
  have h4 := H4.out
  generalize hW : World.setCell _ _ _ = W4 at h4 ⊢
  clear hW H4 x0 x1 x2 x3 x4 x5 z0 z1 z2 z3 z4 z5
  have y3 := h4.drop.blk.some_ (i := 3) rfl
  have q2 := h4.blk.some_ (i := 2) (u := .int .u64 hd) rfl
  have s2 := h4.blk.frozen 2
  have q1 := h4.blk.some_ (i := 1) (u := .int .i64 0) rfl
  have s1 := h4.blk.frozen 1
  have H5 := hid ((h4.setBlk 2 (.int .u64 a.got)).setBlk 1 (.int .i64 1))
  clear h4
  go_upto_region 6 with fail
  have h5 := H5.out
  generalize hW : World.setCell _ _ _ = W5 at h5 ⊢
  clear hW H5 q2 s2 q1 s1
  replace h5 : Hold w0 W5 (poA g cl 1 a.got nx bk * (blkA 55 ga #[.int .i64 a.kind, .int .i64 a.cell, .int .i64 a.index, .int .u64 a.got, .int .u64 a.put, .bool a.done] * (blkA 55 gr #[.int .i64 0, .int .i64 0, .int .i64 0, .int .u64 0, .int .u64 0, .bool false] * (memA m C * R)))) := h5
  clear y3
  have q2 := h5.blk.some_ (i := 2) (u := .int .u64 a.got) rfl
  have et := ET.out
  go_wp2_with fail
  refine (Go.Proofs.Ytopcnaakdldkpaa.W.top_any _ a.got hg.1 hg.2).mono ?_
  rintro e w' ⟨rfl, rfl⟩
  clear q2
  go_upto_region 17 with fail
  clear et
  have h7 := h5
  clear h5
  obtain ⟨⟨x0, x1, x2, x3, x4, x5⟩, z0, z1, z2, z3, z4, z5⟩ := blk_acc (h7.pk3 [2, 0, 1]).blk
  obtain ⟨⟨y0, y1, y2, y3, y4, y5⟩, _⟩ := blk_acc (h7.pk2 [1, 0]).blk
  have H8 := hid ((h7.pk3 [2, 0, 1]).setAcc (.int .i64 a.kind) (.int .i64 a.cell) (.int .i64 a.index) (.int .u64 a.got) (.int .u64 a.put) (.bool a.done))
  clear h7
  go_wp2_with fail
  have h8 := H8.out
  generalize hW : World.setCell _ _ _ = W8 at h8 ⊢
  clear hW H8 x0 x1 x2 x3 x4 x5 z0 z1 z2 z3 z4 z5 y0 y1 y2 y3 y4 y5
  obtain ⟨⟨y0, y1, y2, y3, y4, y5⟩, _⟩ := blk_acc h8.blk
  have hfin : Hid (RAccPost w0 (poA g cl 1 a.got nx bk * (memA m C * R)) a (.returned a.val) W8) := hid ⟨rfl, h8.pk3 [1]⟩
  exact bodyPost_ret (v := a.val) (by simp [results, Try.results32, go_sem, y0, y1, y2, y3, y4, y5]) rfl hfin.out
set_option maxRecDepth 8000 in
set_option maxHeartbeats 4000000 in
theorem po_step0_none (w0 w : World) (R : Asr) (g m : Nat) (C : Nat → List Int) (cl hd nx bk : Int) (a : Acc) (h : Hold w0 w (poA g cl 0 hd nx bk * (memA m C * R))) (hC : COk C) (hx : -9223372036854775808 ≤ cl ∧ cl ≤ 9223372036854775807) (hg : 0 ≤ a.got ∧ a.got < 18446744073709551616) (ht : a.got % 65536 = 0) (ha : opA C 1 7 cl (valC C 7 cl) true = a) :
    Calls Try.prog 32 #[.pointer (some ⟨g, 0, none⟩), .pointer (some ⟨m, 0, none⟩)] w (RAccPost w0 (poA g cl 3 a.got nx bk * (memA m C * R)) a) := by
  have HA := hid ha
  have HK := hid hC
  have et : decide (a.got % 65536 - 1 < 0) = true := by exact decide_eq_true (by omega)
  have ET := hid et
  have h1 := (h.newBlk (t := 55) (cs := #[.int .i64 0, .int .i64 0, .int .i64 0, .int .u64 0, .int .u64 0, .bool false])).newBlk (t := 55) (cs := #[.int .i64 0, .int .i64 0, .int .i64 0, .int .u64 0, .int .u64 0, .bool false])
  simp only [World.size_alloc] at h1
  have H1 := hid h1
  have n1 := h.blk.lt
  have n2 : g ≠ w.heap.size := by omega
  have n3 : g ≠ w.heap.size + 1 := by omega
  have p0 := h.blk.some_ (i := 0) rfl
  have p1 := h.blk.some_ (i := 1) rfl
  clear h h1 ha hC et ht
  go_enter Try.func32, Try.ntmps32
  go_wp2_with fail
  have h1 := H1.out
  generalize hW : World.alloc _ _ = W at h1 ⊢
  generalize w.heap.size + 1 = ga at h1 ⊢
  generalize w.heap.size = gr at h1 ⊢
  clear hW H1 n1 n2 n3 p0 p1
  refine (mem_load w0 _ _ m C 7 cl (h1.pk4 [3, 0, 1, 2]) hx HK.out.len).mono ?_
  rintro e w1 ⟨rfl, h2⟩
  rw [HA.out]
  generalize opE C 7 cl = er
  have h3 : Hold w0 w1 (blkA 55 ga #[.int .i64 0, .int .i64 0, .int .i64 0, .int .u64 0, .int .u64 0, .bool false] * (poA g cl 0 hd nx bk * (blkA 55 gr #[.int .i64 0, .int .i64 0, .int .i64 0, .int .u64 0, .int .u64 0, .bool false] * (memA m C * R)))) := h2.pk4 [1, 3, 2, 0]
  obtain ⟨⟨x0, x1, x2, x3, x4, x5⟩, z0, z1, z2, z3, z4, z5⟩ := blk_acc h3.blk
  have H4 := hid (h3.setAcc (.int .i64 a.kind) (.int .i64 a.cell) (.int .i64 a.index) (.int .u64 a.got) (.int .u64 a.put) (.bool a.done)).swap
  clear h1 h2 h3
  go_upto_region 5 with fail
  have h4 := H4.out
  generalize hW : World.setCell _ _ _ = W4 at h4 ⊢
  clear hW H4 x0 x1 x2 x3 x4 x5 z0 z1 z2 z3 z4 z5
  have y3 := h4.drop.blk.some_ (i := 3) rfl
  have q2 := h4.blk.some_ (i := 2) (u := .int .u64 hd) rfl
  have s2 := h4.blk.frozen 2
  have q1 := h4.blk.some_ (i := 1) (u := .int .i64 0) rfl
  have s1 := h4.blk.frozen 1
  have H5 := hid ((h4.setBlk 2 (.int .u64 a.got)).setBlk 1 (.int .i64 1))
  clear h4
  go_upto_region 6 with fail
  have h5 := H5.out
  generalize hW : World.setCell _ _ _ = W5 at h5 ⊢
  clear hW H5 q2 s2 q1 s1
  replace h5 : Hold w0 W5 (poA g cl 1 a.got nx bk * (blkA 55 ga #[.int .i64 a.kind, .int .i64 a.cell, .int .i64 a.index, .int .u64 a.got, .int .u64 a.put, .bool a.done] * (blkA 55 gr #[.int .i64 0, .int .i64 0, .int .i64 0, .int .u64 0, .int .u64 0, .bool false] * (memA m C * R)))) := h5
  clear y3
  have q2 := h5.blk.some_ (i := 2) (u := .int .u64 a.got) rfl
  have et := ET.out
  go_wp2_with fail
  refine (Go.Proofs.Ytopcnaakdldkpaa.W.top_any _ a.got hg.1 hg.2).mono ?_
  rintro e w' ⟨rfl, rfl⟩
  have q1 := h5.blk.some_ (i := 1) (u := .int .i64 1) rfl
  have s1 := h5.blk.frozen 1
  have H6 := hid (h5.setBlk 1 (.int .i64 3))
  clear h5 q2
  go_upto_region 17 with fail
  have h6 := H6.out
  generalize hW : World.setCell _ _ _ = W6 at h6 ⊢
  clear hW H6 q1 s1 et
  have h7 : Hold w0 W6 (poA g cl 3 a.got nx bk * (blkA 55 ga #[.int .i64 a.kind, .int .i64 a.cell, .int .i64 a.index, .int .u64 a.got, .int .u64 a.put, .bool a.done] * (blkA 55 gr #[.int .i64 0, .int .i64 0, .int .i64 0, .int .u64 0, .int .u64 0, .bool false] * (memA m C * R)))) := h6
  clear h6
  obtain ⟨⟨x0, x1, x2, x3, x4, x5⟩, z0, z1, z2, z3, z4, z5⟩ := blk_acc (h7.pk3 [2, 0, 1]).blk
  obtain ⟨⟨y0, y1, y2, y3, y4, y5⟩, _⟩ := blk_acc (h7.pk2 [1, 0]).blk
  have H8 := hid ((h7.pk3 [2, 0, 1]).setAcc (.int .i64 a.kind) (.int .i64 a.cell) (.int .i64 a.index) (.int .u64 a.got) (.int .u64 a.put) (.bool a.done))
  clear h7
  go_wp2_with fail
  have h8 := H8.out
  generalize hW : World.setCell _ _ _ = W8 at h8 ⊢
  clear hW H8 x0 x1 x2 x3 x4 x5 z0 z1 z2 z3 z4 z5 y0 y1 y2 y3 y4 y5
  obtain ⟨⟨y0, y1, y2, y3, y4, y5⟩, _⟩ := blk_acc h8.blk
  have hfin : Hid (RAccPost w0 (poA g cl 3 a.got nx bk * (memA m C * R)) a (.returned a.val) W8) := hid ⟨rfl, h8.pk3 [1]⟩
  exact bodyPost_ret (v := a.val) (by simp [results, Try.results32, go_sem, y0, y1, y2, y3, y4, y5]) rfl hfin.out
set_option maxRecDepth 8000 in
set_option maxHeartbeats 4000000 in
theorem po_step1 (w0 w : World) (R : Asr) (g m : Nat) (C : Nat → List Int) (cl hd nx bk : Int) (a : Acc) (h : Hold w0 w (poA g cl 1 hd nx bk * (memA m C * R))) (hC : COk C) (hh : 0 ≤ hd ∧ hd < 18446744073709551616) (ha : opA C 1 8 (hd % 65536 - 1) (valC C 8 (hd % 65536 - 1)) true = a) :
    Calls Try.prog 32 #[.pointer (some ⟨g, 0, none⟩), .pointer (some ⟨m, 0, none⟩)] w (RAccPost w0 (poA g cl 2 hd a.got bk * (memA m C * R)) a) := by
  have HA := hid ha
  have HK := hid hC
  obtain ⟨tp, htp⟩ : ∃ tp, tp = hd % 65536 - 1 := ⟨_, rfl⟩
  have tp0 : -1 ≤ tp ∧ tp ≤ 65535 := by omega
  rw [← htp] at ha
  have HTP := hid htp
  replace HA := hid ha
  have h1 := (h.newBlk (t := 55) (cs := #[.int .i64 0, .int .i64 0, .int .i64 0, .int .u64 0, .int .u64 0, .bool false])).newBlk (t := 55) (cs := #[.int .i64 0, .int .i64 0, .int .i64 0, .int .u64 0, .int .u64 0, .bool false])
  simp only [World.size_alloc] at h1
  have H1 := hid h1
  have n1 := h.blk.lt
  have n2 : g ≠ w.heap.size := by omega
  have n3 : g ≠ w.heap.size + 1 := by omega
  have p1 := h.blk.some_ (i := 1) rfl
  have p2 := h.blk.some_ (i := 2) rfl
  clear h h1 ha hC htp
  go_enter Try.func32, Try.ntmps32
  go_wp2_with fail
  have h1 := H1.out
  generalize hW : World.alloc _ _ = W at h1 ⊢
  generalize w.heap.size + 1 = ga at h1 ⊢
  generalize w.heap.size = gr at h1 ⊢
  clear hW H1 n1 n2 n3 p1
  clear p2
  refine (Go.Proofs.Ytopcnaakdldkpaa.W.top_any _ hd hh.1 hh.2).mono ?_
  rintro e w' ⟨rfl, rfl⟩
  rw [← HTP.out]
  go_wp2_with fail
  refine (mem_load w0 _ _ m C 8 tp (h1.pk4 [3, 0, 1, 2]) (by omega) HK.out.len).mono ?_
  rintro e w1 ⟨rfl, h2⟩
  rw [HA.out]
  generalize opE C 8 tp = er
  have h3 : Hold w0 w1 (blkA 55 ga #[.int .i64 0, .int .i64 0, .int .i64 0, .int .u64 0, .int .u64 0, .bool false] * (poA g cl 1 hd nx bk * (blkA 55 gr #[.int .i64 0, .int .i64 0, .int .i64 0, .int .u64 0, .int .u64 0, .bool false] * (memA m C * R)))) := h2.pk4 [1, 3, 2, 0]
  obtain ⟨⟨x0, x1, x2, x3, x4, x5⟩, z0, z1, z2, z3, z4, z5⟩ := blk_acc h3.blk
  have H4 := hid (h3.setAcc (.int .i64 a.kind) (.int .i64 a.cell) (.int .i64 a.index) (.int .u64 a.got) (.int .u64 a.put) (.bool a.done)).swap
  clear h1 h2 h3
  go_upto_region 10 with fail
  have h4 := H4.out
  generalize hW : World.setCell _ _ _ = W4 at h4 ⊢
  clear hW H4 x0 x1 x2 x3 x4 x5 z0 z1 z2 z3 z4 z5
  have y3 := h4.drop.blk.some_ (i := 3) rfl
  have q3 := h4.blk.some_ (i := 3) (u := .int .u64 nx) rfl
  have s3 := h4.blk.frozen 3
  have q1 := h4.blk.some_ (i := 1) (u := .int .i64 1) rfl
  have s1 := h4.blk.frozen 1
  have H5 := hid ((h4.setBlk 3 (.int .u64 a.got)).setBlk 1 (.int .i64 2))
  clear h4
  go_upto_region 17 with fail
  have h5 := H5.out
  generalize hW : World.setCell _ _ _ = W5 at h5 ⊢
  clear hW H5 q3 s3 q1 s1
  replace h5 : Hold w0 W5 (poA g cl 2 hd a.got bk * (blkA 55 ga #[.int .i64 a.kind, .int .i64 a.cell, .int .i64 a.index, .int .u64 a.got, .int .u64 a.put, .bool a.done] * (blkA 55 gr #[.int .i64 0, .int .i64 0, .int .i64 0, .int .u64 0, .int .u64 0, .bool false] * (memA m C * R)))) := h5
  clear y3
  have h7 := h5
  clear h5
  obtain ⟨⟨x0, x1, x2, x3, x4, x5⟩, z0, z1, z2, z3, z4, z5⟩ := blk_acc (h7.pk3 [2, 0, 1]).blk
  obtain ⟨⟨y0, y1, y2, y3, y4, y5⟩, _⟩ := blk_acc (h7.pk2 [1, 0]).blk
  have H8 := hid ((h7.pk3 [2, 0, 1]).setAcc (.int .i64 a.kind) (.int .i64 a.cell) (.int .i64 a.index) (.int .u64 a.got) (.int .u64 a.put) (.bool a.done))
  clear h7
  go_wp2_with fail
  have h8 := H8.out
  generalize hW : World.setCell _ _ _ = W8 at h8 ⊢
  clear hW H8 x0 x1 x2 x3 x4 x5 z0 z1 z2 z3 z4 z5 y0 y1 y2 y3 y4 y5
  obtain ⟨⟨y0, y1, y2, y3, y4, y5⟩, _⟩ := blk_acc h8.blk
  have hfin : Hid (RAccPost w0 (poA g cl 2 hd a.got bk * (memA m C * R)) a (.returned a.val) W8) := hid ⟨rfl, h8.pk3 [1]⟩
  exact bodyPost_ret (v := a.val) (by simp [results, Try.results32, go_sem, y0, y1, y2, y3, y4, y5]) rfl hfin.out
set_option maxRecDepth 8000 in
set_option maxHeartbeats 4000000 in
theorem po_step2_yes (w0 w : World) (R : Asr) (g m : Nat) (C C2 : Nat → List Int) (cl hd nx bk : Int) (a : Acc) (h : Hold w0 w (poA g cl 2 hd nx bk * (memA m C * R))) (hC : COk C) (hx : -9223372036854775808 ≤ cl ∧ cl ≤ 9223372036854775807) (hh : 0 ≤ hd ∧ hd < 18446744073709551616) (hn : 0 ≤ nx ∧ nx ≤ 9223372036854775807) (hdn : a.done = true) (ha : opA C 3 7 cl (bumpV hd (nx - 1)) (valC C 7 cl == hd) = a) (hC2 : opC C 7 cl (bumpV hd (nx - 1)) (valC C 7 cl == hd) = C2) :
    Calls Try.prog 32 #[.pointer (some ⟨g, 0, none⟩), .pointer (some ⟨m, 0, none⟩)] w (RAccPost w0 (poA g cl 3 hd nx (hd % 65536 - 1) * (memA m C2 * R)) a) := by
  obtain ⟨bv, hbv⟩ : ∃ bv, bv = bumpV hd (nx - 1) := ⟨_, rfl⟩
  rw [← hbv] at ha hC2
  have HB := hid hbv
  have HA := hid ha
  have HK := hid hC
  have HC2 := hid hC2
  have HDN := hid hdn
  have h1 := (h.newBlk (t := 55) (cs := #[.int .i64 0, .int .i64 0, .int .i64 0, .int .u64 0, .int .u64 0, .bool false])).newBlk (t := 55) (cs := #[.int .i64 0, .int .i64 0, .int .i64 0, .int .u64 0, .int .u64 0, .bool false])
  simp only [World.size_alloc] at h1
  have H1 := hid h1
  have n1 := h.blk.lt
  have n2 : g ≠ w.heap.size := by omega
  have n3 : g ≠ w.heap.size + 1 := by omega
  have p1 := h.blk.some_ (i := 1) rfl
  clear h h1 ha hC hbv hC2 hdn
  go_enter Try.func32, Try.ntmps32
  go_upto_region 12 with fail
  have h1 := H1.out
  generalize hW : World.alloc _ _ = W at h1 ⊢
  generalize w.heap.size + 1 = ga at h1 ⊢
  generalize w.heap.size = gr at h1 ⊢
  clear hW H1 n1 n2 n3 p1
  replace h1 := h1.drew
  refine wp_region_brk [] (by kernel_rfl) ?_
  refine wpAnyB_now (fun w' => ∃ (Y Z : Asr), Hold w0 w' (Y * (Z * (poA g cl 2 hd nx bk * (memA m C * R))))) (fun _ _ => trivial) _ _ _ _ ?_
  refine' wpAnyB_bulk [true, true, true, true, true, true, true, true, true, true] 107 (listed' := #[true, true, true, true, true, true, true, true, true, true, false, false, false, false, false, false]) rfl (by kernel_rfl) (by kernel_rfl) (by kernel_rfl) (by kernel_rfl) (by kernel_rfl) (by kernel_rfl) (by decide) (fun _ _ _ _ h => h) rfl ⟨_, _, h1⟩ (fun wq hq => ?_) ?_; rotate_left 1
  · simp only [maskL]
    obtain ⟨Y, Z, hq⟩ := hq
    have q2 := hq.drop.drop.blk.some_ (i := 2) rfl
    have q3 := hq.drop.drop.blk.some_ (i := 3) rfl
    repeat (go_big_quiet_step (fail))
    exact wpQuiet_nil rfl
  refine wpAnyB_bar [false, false, false, false, false, false, false, false, false, false, true] (fuel := 5) (by rfl) (by rfl) (by kernel_rfl) (fun QB hQB hQX => ?_)
  simp only [maskL]
  go_wp2_with fail
  refine (Go.Proofs.Ytopcnaakdldkpaa.W.bump_any _ hd (nx - 1) hh.1 hh.2).mono ?_
  rintro e w' ⟨rfl, rfl⟩
  rw [show Go.Proofs.Ytopcnaakdldkpaa.W.headW ((hd / 65536 + 1) % 281474976710656) (nx - 1) = bv from HB.out.symm]
  generalize Go.Proofs.Ytopcnaakdldkpaa.W.errIf _ = er
  go_wp2_with fail
  refine hQB.out _ _ ⟨_, _, h1⟩ ?_
  clear hQB hQX QB
  refine' wpAnyB_bulk [false, false, false, false, false, false, false, false, false, false, false, true, true, true, true, true] 107 (listed' := #[true, true, true, true, true, true, true, true, true, true, true, true, true, true, true, true]) rfl (by kernel_rfl) (by kernel_rfl) (by kernel_rfl) (by kernel_rfl) (by kernel_rfl) (by kernel_rfl) (by decide) (fun _ _ _ _ h => h) rfl ⟨_, _, h1⟩ (fun wq hq => ?_) ?_; rotate_left 1
  · simp only [maskL]
    repeat (go_big_quiet_step (fail))
    exact wpQuiet_nil rfl
  refine wpAnyB_done (by kernel_rfl) ?_ _
  go_upto_region 13 with fail
  replace h1 := h1.drew
  refine wp_region_brk [14] (by kernel_rfl) ?_
  refine wpAnyB_now (fun w' => ∃ (Y Z : Asr) (D : Nat → List Int), Hold w0 w' (Y * (Z * (poA g cl 2 hd nx bk * (memA m D * R))))) (fun _ _ => trivial) _ _ _ _ ?_
  refine' wpAnyB_bulk [true, true, true, true, true, true, true, true, true, true] 107 (listed' := #[true, true, true, true, true, true, true, true, true, true, false, false, false, false, false]) rfl (by kernel_rfl) (by kernel_rfl) (by kernel_rfl) (by kernel_rfl) (by kernel_rfl) (by kernel_rfl) (by decide) (fun _ _ _ _ h => h) rfl ⟨_, _, _, h1⟩ (fun wq hq => ?_) ?_; rotate_left 1
  · simp only [maskL]
    obtain ⟨Y, Z, D, hq⟩ := hq
    have q0 := hq.drop.drop.blk.some_ (i := 0) rfl
    have q2 := hq.drop.drop.blk.some_ (i := 2) rfl
    repeat (go_big_quiet_step (fail))
    exact wpQuiet_nil rfl
  refine wpAnyB_bar [false, false, false, false, false, false, false, false, false, false, true] (fuel := 4) (by rfl) (by rfl) (by kernel_rfl) (fun QB hQB hQX => ?_)
  simp only [maskL]
  go_wp2_with fail
  refine (mem_swap w0 _ _ m C 7 cl hd bv (h1.pk4 [3, 0, 1, 2]) hx HK.out.len).mono ?_
  rintro e w1 ⟨rfl, h2⟩
  rw [HA.out]
  rw [HC2.out] at h2
  generalize opE C 7 cl = er
  clear h1
  go_wp2_with fail
  refine hQB.out _ _ ⟨_, _, _, h2.pk4 [1, 2, 3, 0]⟩ ?_
  clear hQB hQX QB
  have h3 : Hold w0 w1 (blkA 55 ga #[.int .i64 0, .int .i64 0, .int .i64 0, .int .u64 0, .int .u64 0, .bool false] * (poA g cl 2 hd nx bk * (blkA 55 gr #[.int .i64 0, .int .i64 0, .int .i64 0, .int .u64 0, .int .u64 0, .bool false] * (memA m C2 * R)))) := h2.pk4 [1, 3, 2, 0]
  obtain ⟨⟨x0, x1, x2, x3, x4, x5⟩, z0, z1, z2, z3, z4, z5⟩ := blk_acc h3.blk
  have H4 := hid (h3.setAcc (.int .i64 a.kind) (.int .i64 a.cell) (.int .i64 a.index) (.int .u64 a.got) (.int .u64 a.put) (.bool a.done)).swap
  have H3S := hid (h2.pk4 [1, 2, 3, 0])
  clear h2 h3
  refine' wpAnyB_bulkT [false, false, false, false, false, false, false, false, false, false, false, true, true, true] 107 (listed' := #[true, true, true, true, true, true, true, true, true, true, true, true, true, true, false]) rfl (by kernel_rfl) (by kernel_rfl) (by kernel_rfl) (by kernel_rfl) (by kernel_rfl) (by decide) (fun _ _ _ _ h => h) rfl (by first | exact ⟨_, _, _, h1⟩ | exact ⟨_, _, _, H3S.out⟩) (fun wq _ => ?_) ?_; rotate_left 1
  · simp only [maskL]
    repeat (go_big_quiet_step (fail))
    exact wpQuiet_nil rfl
  refine wpAnyB_brk [false, false, false, false, false, false, false, false, false, false, false, false, false, false, true] (fuel := 0) (by rfl) (by rfl) (by kernel_rfl) (by kernel_rfl) (fun QB hQB hQX => ?_)
  simp only [maskL]
  go_wp2_with fail
  refine hQB.out _ _ ?_
  clear hQB hQX QB
  refine wpAnyB_forget (by kernel_rfl) ?_
  refine wpAnyB_done (by kernel_rfl) ?_ _
  have h4 := H4.out
  generalize hW : World.setCell _ _ _ = W4 at h4 ⊢
  clear hW H4 x0 x1 x2 x3 x4 x5 z0 z1 z2 z3 z4 z5
  have q1 := h4.blk.some_ (i := 1) (u := .int .i64 2) rfl
  have s1 := h4.blk.frozen 1
  have H5 := hid (h4.setBlk 1 (.int .i64 0))
  clear h4
  go_upto_region 15 with fail
  have h5 := H5.out
  generalize hW : World.setCell _ _ _ = W5 at h5 ⊢
  clear hW H5 q1 s1
  replace h5 : Hold w0 W5 (poA g cl 0 hd nx bk * (blkA 55 ga #[.int .i64 a.kind, .int .i64 a.cell, .int .i64 a.index, .int .u64 a.got, .int .u64 a.put, .bool a.done] * (blkA 55 gr #[.int .i64 0, .int .i64 0, .int .i64 0, .int .u64 0, .int .u64 0, .bool false] * (memA m C2 * R)))) := h5
  have y5 : W5.cell? ⟨ga, 5, none⟩ = some (.bool true) := by
    have := h5.drop.blk.some_ (i := 5) (u := .bool a.done) rfl
    rwa [HDN.out] at this
  have q2 := h5.blk.some_ (i := 2) (u := .int .u64 hd) rfl
  go_wp2_with fail
  refine (Go.Proofs.Ytopcnaakdldkpaa.W.top_any _ hd hh.1 hh.2).mono ?_
  rintro e w' ⟨rfl, rfl⟩
  have q4 := h5.blk.some_ (i := 4) (u := .int .i64 bk) rfl
  have q1 := h5.blk.some_ (i := 1) (u := .int .i64 0) rfl
  have s4 := h5.blk.frozen 4
  have s1 := h5.blk.frozen 1
  have H6 := hid ((h5.setBlk 4 (.int .i64 (hd % 65536 - 1))).setBlk 1 (.int .i64 3))
  clear h5 q2 y5
  go_upto_region 17 with fail
  have h6 := H6.out
  generalize hW : World.setCell _ _ _ = W6 at h6 ⊢
  clear hW H6 q1 s1 q4 s4
  have h7 : Hold w0 W6 (poA g cl 3 hd nx (hd % 65536 - 1) * (blkA 55 ga #[.int .i64 a.kind, .int .i64 a.cell, .int .i64 a.index, .int .u64 a.got, .int .u64 a.put, .bool a.done] * (blkA 55 gr #[.int .i64 0, .int .i64 0, .int .i64 0, .int .u64 0, .int .u64 0, .bool false] * (memA m C2 * R)))) := h6
  clear h6
  obtain ⟨⟨x0, x1, x2, x3, x4, x5⟩, z0, z1, z2, z3, z4, z5⟩ := blk_acc (h7.pk3 [2, 0, 1]).blk
  obtain ⟨⟨y0, y1, y2, y3, y4, y5⟩, _⟩ := blk_acc (h7.pk2 [1, 0]).blk
  have H8 := hid ((h7.pk3 [2, 0, 1]).setAcc (.int .i64 a.kind) (.int .i64 a.cell) (.int .i64 a.index) (.int .u64 a.got) (.int .u64 a.put) (.bool a.done))
  clear h7
  go_wp2_with fail
  have h8 := H8.out
  generalize hW : World.setCell _ _ _ = W8 at h8 ⊢
  clear hW H8 x0 x1 x2 x3 x4 x5 z0 z1 z2 z3 z4 z5 y0 y1 y2 y3 y4 y5
  obtain ⟨⟨y0, y1, y2, y3, y4, y5⟩, _⟩ := blk_acc h8.blk
  have hfin : Hid (RAccPost w0 (poA g cl 3 hd nx (hd % 65536 - 1) * (memA m C2 * R)) a (.returned a.val) W8) := hid ⟨rfl, h8.pk3 [1]⟩
  exact bodyPost_ret (v := a.val) (by simp [results, Try.results32, go_sem, y0, y1, y2, y3, y4, y5]) rfl hfin.out
set_option maxRecDepth 8000 in
set_option maxHeartbeats 4000000 in
theorem po_step2_no (w0 w : World) (R : Asr) (g m : Nat) (C C2 : Nat → List Int) (cl hd nx bk : Int) (a : Acc) (h : Hold w0 w (poA g cl 2 hd nx bk * (memA m C * R))) (hC : COk C) (hx : -9223372036854775808 ≤ cl ∧ cl ≤ 9223372036854775807) (hh : 0 ≤ hd ∧ hd < 18446744073709551616) (hn : 0 ≤ nx ∧ nx ≤ 9223372036854775807) (hdn : a.done = false) (ha : opA C 3 7 cl (bumpV hd (nx - 1)) (valC C 7 cl == hd) = a) (hC2 : opC C 7 cl (bumpV hd (nx - 1)) (valC C 7 cl == hd) = C2) :
    Calls Try.prog 32 #[.pointer (some ⟨g, 0, none⟩), .pointer (some ⟨m, 0, none⟩)] w (RAccPost w0 (poA g cl 0 hd nx bk * (memA m C2 * R)) a) := by
  obtain ⟨bv, hbv⟩ : ∃ bv, bv = bumpV hd (nx - 1) := ⟨_, rfl⟩
  rw [← hbv] at ha hC2
  have HB := hid hbv
  have HA := hid ha
  have HK := hid hC
  have HC2 := hid hC2
  have HDN := hid hdn
  have h1 := (h.newBlk (t := 55) (cs := #[.int .i64 0, .int .i64 0, .int .i64 0, .int .u64 0, .int .u64 0, .bool false])).newBlk (t := 55) (cs := #[.int .i64 0, .int .i64 0, .int .i64 0, .int .u64 0, .int .u64 0, .bool false])
  simp only [World.size_alloc] at h1
  have H1 := hid h1
  have n1 := h.blk.lt
  have n2 : g ≠ w.heap.size := by omega
  have n3 : g ≠ w.heap.size + 1 := by omega
  have p1 := h.blk.some_ (i := 1) rfl
  clear h h1 ha hC hbv hC2 hdn
  go_enter Try.func32, Try.ntmps32
  go_upto_region 12 with fail
  have h1 := H1.out
  generalize hW : World.alloc _ _ = W at h1 ⊢
  generalize w.heap.size + 1 = ga at h1 ⊢
  generalize w.heap.size = gr at h1 ⊢
  clear hW H1 n1 n2 n3 p1
  replace h1 := h1.drew
  refine wp_region_brk [] (by kernel_rfl) ?_
  refine wpAnyB_now (fun w' => ∃ (Y Z : Asr), Hold w0 w' (Y * (Z * (poA g cl 2 hd nx bk * (memA m C * R))))) (fun _ _ => trivial) _ _ _ _ ?_
  refine' wpAnyB_bulk [true, true, true, true, true, true, true, true, true, true] 107 (listed' := #[true, true, true, true, true, true, true, true, true, true, false, false, false, false, false, false]) rfl (by kernel_rfl) (by kernel_rfl) (by kernel_rfl) (by kernel_rfl) (by kernel_rfl) (by kernel_rfl) (by decide) (fun _ _ _ _ h => h) rfl ⟨_, _, h1⟩ (fun wq hq => ?_) ?_; rotate_left 1
  · simp only [maskL]
    obtain ⟨Y, Z, hq⟩ := hq
    have q2 := hq.drop.drop.blk.some_ (i := 2) rfl
    have q3 := hq.drop.drop.blk.some_ (i := 3) rfl
    repeat (go_big_quiet_step (fail))
    exact wpQuiet_nil rfl
  refine wpAnyB_bar [false, false, false, false, false, false, false, false, false, false, true] (fuel := 5) (by rfl) (by rfl) (by kernel_rfl) (fun QB hQB hQX => ?_)
  simp only [maskL]
  go_wp2_with fail
  refine (Go.Proofs.Ytopcnaakdldkpaa.W.bump_any _ hd (nx - 1) hh.1 hh.2).mono ?_
  rintro e w' ⟨rfl, rfl⟩
  rw [show Go.Proofs.Ytopcnaakdldkpaa.W.headW ((hd / 65536 + 1) % 281474976710656) (nx - 1) = bv from HB.out.symm]
  generalize Go.Proofs.Ytopcnaakdldkpaa.W.errIf _ = er
  go_wp2_with fail
  refine hQB.out _ _ ⟨_, _, h1⟩ ?_
  clear hQB hQX QB
  refine' wpAnyB_bulk [false, false, false, false, false, false, false, false, false, false, false, true, true, true, true, true] 107 (listed' := #[true, true, true, true, true, true, true, true, true, true, true, true, true, true, true, true]) rfl (by kernel_rfl) (by kernel_rfl) (by kernel_rfl) (by kernel_rfl) (by kernel_rfl) (by kernel_rfl) (by decide) (fun _ _ _ _ h => h) rfl ⟨_, _, h1⟩ (fun wq hq => ?_) ?_; rotate_left 1
  · simp only [maskL]
    repeat (go_big_quiet_step (fail))
    exact wpQuiet_nil rfl
  refine wpAnyB_done (by kernel_rfl) ?_ _
  go_upto_region 13 with fail
  replace h1 := h1.drew
  refine wp_region_brk [14] (by kernel_rfl) ?_
  refine wpAnyB_now (fun w' => ∃ (Y Z : Asr) (D : Nat → List Int), Hold w0 w' (Y * (Z * (poA g cl 2 hd nx bk * (memA m D * R))))) (fun _ _ => trivial) _ _ _ _ ?_
  refine' wpAnyB_bulk [true, true, true, true, true, true, true, true, true, true] 107 (listed' := #[true, true, true, true, true, true, true, true, true, true, false, false, false, false, false]) rfl (by kernel_rfl) (by kernel_rfl) (by kernel_rfl) (by kernel_rfl) (by kernel_rfl) (by kernel_rfl) (by decide) (fun _ _ _ _ h => h) rfl ⟨_, _, _, h1⟩ (fun wq hq => ?_) ?_; rotate_left 1
  · simp only [maskL]
    obtain ⟨Y, Z, D, hq⟩ := hq
    have q0 := hq.drop.drop.blk.some_ (i := 0) rfl
    have q2 := hq.drop.drop.blk.some_ (i := 2) rfl
    repeat (go_big_quiet_step (fail))
    exact wpQuiet_nil rfl
  refine wpAnyB_bar [false, false, false, false, false, false, false, false, false, false, true] (fuel := 4) (by rfl) (by rfl) (by kernel_rfl) (fun QB hQB hQX => ?_)
  simp only [maskL]
  go_wp2_with fail
  refine (mem_swap w0 _ _ m C 7 cl hd bv (h1.pk4 [3, 0, 1, 2]) hx HK.out.len).mono ?_
  rintro e w1 ⟨rfl, h2⟩
  rw [HA.out]
  rw [HC2.out] at h2
  generalize opE C 7 cl = er
  clear h1
  go_wp2_with fail
  refine hQB.out _ _ ⟨_, _, _, h2.pk4 [1, 2, 3, 0]⟩ ?_
  clear hQB hQX QB
  have h3 : Hold w0 w1 (blkA 55 ga #[.int .i64 0, .int .i64 0, .int .i64 0, .int .u64 0, .int .u64 0, .bool false] * (poA g cl 2 hd nx bk * (blkA 55 gr #[.int .i64 0, .int .i64 0, .int .i64 0, .int .u64 0, .int .u64 0, .bool false] * (memA m C2 * R)))) := h2.pk4 [1, 3, 2, 0]
  obtain ⟨⟨x0, x1, x2, x3, x4, x5⟩, z0, z1, z2, z3, z4, z5⟩ := blk_acc h3.blk
  have H4 := hid (h3.setAcc (.int .i64 a.kind) (.int .i64 a.cell) (.int .i64 a.index) (.int .u64 a.got) (.int .u64 a.put) (.bool a.done)).swap
  have H3S := hid (h2.pk4 [1, 2, 3, 0])
  clear h2 h3
  refine' wpAnyB_bulkT [false, false, false, false, false, false, false, false, false, false, false, true, true, true] 107 (listed' := #[true, true, true, true, true, true, true, true, true, true, true, true, true, true, false]) rfl (by kernel_rfl) (by kernel_rfl) (by kernel_rfl) (by kernel_rfl) (by kernel_rfl) (by decide) (fun _ _ _ _ h => h) rfl (by first | exact ⟨_, _, _, h1⟩ | exact ⟨_, _, _, H3S.out⟩) (fun wq _ => ?_) ?_; rotate_left 1
  · simp only [maskL]
    repeat (go_big_quiet_step (fail))
    exact wpQuiet_nil rfl
  refine wpAnyB_brk [false, false, false, false, false, false, false, false, false, false, false, false, false, false, true] (fuel := 0) (by rfl) (by rfl) (by kernel_rfl) (by kernel_rfl) (fun QB hQB hQX => ?_)
  simp only [maskL]
  go_wp2_with fail
  refine hQB.out _ _ ?_
  clear hQB hQX QB
  refine wpAnyB_forget (by kernel_rfl) ?_
  refine wpAnyB_done (by kernel_rfl) ?_ _
  have h4 := H4.out
  generalize hW : World.setCell _ _ _ = W4 at h4 ⊢
  clear hW H4 x0 x1 x2 x3 x4 x5 z0 z1 z2 z3 z4 z5
  have q1 := h4.blk.some_ (i := 1) (u := .int .i64 2) rfl
  have s1 := h4.blk.frozen 1
  have H5 := hid (h4.setBlk 1 (.int .i64 0))
  clear h4
  go_upto_region 15 with fail
  have h5 := H5.out
  generalize hW : World.setCell _ _ _ = W5 at h5 ⊢
  clear hW H5 q1 s1
  replace h5 : Hold w0 W5 (poA g cl 0 hd nx bk * (blkA 55 ga #[.int .i64 a.kind, .int .i64 a.cell, .int .i64 a.index, .int .u64 a.got, .int .u64 a.put, .bool a.done] * (blkA 55 gr #[.int .i64 0, .int .i64 0, .int .i64 0, .int .u64 0, .int .u64 0, .bool false] * (memA m C2 * R)))) := h5
  have y5 : W5.cell? ⟨ga, 5, none⟩ = some (.bool false) := by
    have := h5.drop.blk.some_ (i := 5) (u := .bool a.done) rfl
    rwa [HDN.out] at this
  go_upto_region 17 with fail
  clear y5
  have h7 := h5
  clear h5
  obtain ⟨⟨x0, x1, x2, x3, x4, x5⟩, z0, z1, z2, z3, z4, z5⟩ := blk_acc (h7.pk3 [2, 0, 1]).blk
  obtain ⟨⟨y0, y1, y2, y3, y4, y5⟩, _⟩ := blk_acc (h7.pk2 [1, 0]).blk
  have H8 := hid ((h7.pk3 [2, 0, 1]).setAcc (.int .i64 a.kind) (.int .i64 a.cell) (.int .i64 a.index) (.int .u64 a.got) (.int .u64 a.put) (.bool a.done))
  clear h7
  go_wp2_with fail
  have h8 := H8.out
  generalize hW : World.setCell _ _ _ = W8 at h8 ⊢
  clear hW H8 x0 x1 x2 x3 x4 x5 z0 z1 z2 z3 z4 z5 y0 y1 y2 y3 y4 y5
  obtain ⟨⟨y0, y1, y2, y3, y4, y5⟩, _⟩ := blk_acc h8.blk
  have hfin : Hid (RAccPost w0 (poA g cl 0 hd nx bk * (memA m C2 * R)) a (.returned a.val) W8) := hid ⟨rfl, h8.pk3 [1]⟩
  exact bodyPost_ret (v := a.val) (by simp [results, Try.results32, go_sem, y0, y1, y2, y3, y4, y5]) rfl hfin.out
set_option maxRecDepth 8000 in
set_option maxHeartbeats 4000000 in
theorem pu_step0 (w0 w : World) (R : Asr) (g m : Nat) (C : Nat → List Int) (cl bk hd : Int) (a : Acc) (h : Hold w0 w (puA g cl bk 0 hd * (memA m C * R))) (hC : COk C) (hx : -9223372036854775808 ≤ cl ∧ cl ≤ 9223372036854775807) (ha : opA C 1 7 cl (valC C 7 cl) true = a) :
    Calls Try.prog 39 #[.pointer (some ⟨g, 0, none⟩), .pointer (some ⟨m, 0, none⟩)] w (RAccPost w0 (puA g cl bk 1 a.got * (memA m C * R)) a) := by
  have HA := hid ha
  have HK := hid hC
  have h1 := (h.newBlk (t := 55) (cs := #[.int .i64 0, .int .i64 0, .int .i64 0, .int .u64 0, .int .u64 0, .bool false])).newBlk (t := 55) (cs := #[.int .i64 0, .int .i64 0, .int .i64 0, .int .u64 0, .int .u64 0, .bool false])
  simp only [World.size_alloc] at h1
  have H1 := hid h1
  have n1 := h.blk.lt
  have n2 : g ≠ w.heap.size := by omega
  have n3 : g ≠ w.heap.size + 1 := by omega
  have p0 := h.blk.some_ (i := 0) rfl
  have p2 := h.blk.some_ (i := 2) rfl
  clear h h1 ha hC
  go_enter Try.func39, Try.ntmps39
  go_wp2_with fail
  have h1 := H1.out
  generalize hW : World.alloc _ _ = W at h1 ⊢
  generalize w.heap.size + 1 = ga at h1 ⊢
  generalize w.heap.size = gr at h1 ⊢
  clear hW H1 n1 n2 n3 p0 p2
  refine (mem_load w0 _ _ m C 7 cl (h1.pk4 [3, 0, 1, 2]) hx HK.out.len).mono ?_
  rintro e w1 ⟨rfl, h2⟩
  rw [HA.out]
  generalize opE C 7 cl = er
  have h3 : Hold w0 w1 (blkA 55 ga #[.int .i64 0, .int .i64 0, .int .i64 0, .int .u64 0, .int .u64 0, .bool false] * (puA g cl bk 0 hd * (blkA 55 gr #[.int .i64 0, .int .i64 0, .int .i64 0, .int .u64 0, .int .u64 0, .bool false] * (memA m C * R)))) := h2.pk4 [1, 3, 2, 0]
  obtain ⟨⟨x0, x1, x2, x3, x4, x5⟩, z0, z1, z2, z3, z4, z5⟩ := blk_acc h3.blk
  have H4 := hid (h3.setAcc (.int .i64 a.kind) (.int .i64 a.cell) (.int .i64 a.index) (.int .u64 a.got) (.int .u64 a.put) (.bool a.done)).swap
  clear h1 h2 h3
  go_upto_region 5 with fail
  have h4 := H4.out
  generalize hW : World.setCell _ _ _ = W4 at h4 ⊢
  clear hW H4 x0 x1 x2 x3 x4 x5 z0 z1 z2 z3 z4 z5
  have y3 := h4.drop.blk.some_ (i := 3) rfl
  have q3 := h4.blk.some_ (i := 3) (u := .int .u64 hd) rfl
  have s3 := h4.blk.frozen 3
  have q2 := h4.blk.some_ (i := 2) (u := .int .i64 0) rfl
  have s2 := h4.blk.frozen 2
  have H5 := hid ((h4.setBlk 3 (.int .u64 a.got)).setBlk 2 (.int .i64 1))
  clear h4
  go_upto_region 15 with fail
  have h5 := H5.out
  generalize hW : World.setCell _ _ _ = W5 at h5 ⊢
  clear hW H5 q3 s3 q2 s2
  replace h5 : Hold w0 W5 (puA g cl bk 1 a.got * (blkA 55 ga #[.int .i64 a.kind, .int .i64 a.cell, .int .i64 a.index, .int .u64 a.got, .int .u64 a.put, .bool a.done] * (blkA 55 gr #[.int .i64 0, .int .i64 0, .int .i64 0, .int .u64 0, .int .u64 0, .bool false] * (memA m C * R)))) := h5
  clear y3
  have h7 := h5
  clear h5
  obtain ⟨⟨x0, x1, x2, x3, x4, x5⟩, z0, z1, z2, z3, z4, z5⟩ := blk_acc (h7.pk3 [2, 0, 1]).blk
  obtain ⟨⟨y0, y1, y2, y3, y4, y5⟩, _⟩ := blk_acc (h7.pk2 [1, 0]).blk
  have H8 := hid ((h7.pk3 [2, 0, 1]).setAcc (.int .i64 a.kind) (.int .i64 a.cell) (.int .i64 a.index) (.int .u64 a.got) (.int .u64 a.put) (.bool a.done))
  clear h7
  go_wp2_with fail
  have h8 := H8.out
  generalize hW : World.setCell _ _ _ = W8 at h8 ⊢
  clear hW H8 x0 x1 x2 x3 x4 x5 z0 z1 z2 z3 z4 z5 y0 y1 y2 y3 y4 y5
  obtain ⟨⟨y0, y1, y2, y3, y4, y5⟩, _⟩ := blk_acc h8.blk
  have hfin : Hid (RAccPost w0 (puA g cl bk 1 a.got * (memA m C * R)) a (.returned a.val) W8) := hid ⟨rfl, h8.pk3 [1]⟩
  exact bodyPost_ret (v := a.val) (by simp [results, Try.results39, go_sem, y0, y1, y2, y3, y4, y5]) rfl hfin.out
set_option maxRecDepth 8000 in
set_option maxHeartbeats 4000000 in
theorem pu_step1 (w0 w : World) (R : Asr) (g m : Nat) (C : Nat → List Int) (C2 : Nat → List Int) (cl bk hd : Int) (a : Acc) (h : Hold w0 w (puA g cl bk 1 hd * (memA m C * R))) (hC : COk C) (hx : -9223372036854775808 ≤ bk ∧ bk ≤ 9223372036854775807) (hh : 0 ≤ hd ∧ hd < 18446744073709551616) (ha : opA C 2 8 bk (hd % 65536) true = a) (hC2 : opC C 8 bk (hd % 65536) true = C2) :
    Calls Try.prog 39 #[.pointer (some ⟨g, 0, none⟩), .pointer (some ⟨m, 0, none⟩)] w (RAccPost w0 (puA g cl bk 2 hd * (memA m C2 * R)) a) := by
  obtain ⟨tp, htp⟩ : ∃ tp, tp = hd % 65536 - 1 := ⟨_, rfl⟩
  have tp0 : -1 ≤ tp ∧ tp ≤ 65535 := by omega
  have htq : hd % 65536 = tp + 1 := by omega
  rw [htq] at ha hC2
  have HTP := hid htp
  have HA := hid ha
  have HK := hid hC
  have HC2 := hid hC2
  have h1 := (h.newBlk (t := 55) (cs := #[.int .i64 0, .int .i64 0, .int .i64 0, .int .u64 0, .int .u64 0, .bool false])).newBlk (t := 55) (cs := #[.int .i64 0, .int .i64 0, .int .i64 0, .int .u64 0, .int .u64 0, .bool false])
  simp only [World.size_alloc] at h1
  have H1 := hid h1
  have n1 := h.blk.lt
  have n2 : g ≠ w.heap.size := by omega
  have n3 : g ≠ w.heap.size + 1 := by omega
  have p2 := h.blk.some_ (i := 2) rfl
  clear h h1 ha hC hC2 htp htq
  go_enter Try.func39, Try.ntmps39
  go_upto_region 7 with fail
  have h1 := H1.out
  generalize hW : World.alloc _ _ = W at h1 ⊢
  generalize w.heap.size + 1 = ga at h1 ⊢
  generalize w.heap.size = gr at h1 ⊢
  clear hW H1 n1 n2 n3 p2
  replace h1 := h1.drew
  refine wp_region_brk [16] (by kernel_rfl) ?_
  refine wpAnyB_now (fun w' => ∃ (Y Z : Asr) (D : Nat → List Int), Hold w0 w' (Y * (Z * (puA g cl bk 1 hd * (memA m D * R))))) (fun _ _ => trivial) _ _ _ _ ?_
  refine' wpAnyB_bulk [true, true, true, true, true, true, true, true, true] 89 (listed' := #[true, true, true, true, true, true, true, true, true, false, false, false, false, false, false, false, false]) rfl (by kernel_rfl) (by kernel_rfl) (by kernel_rfl) (by kernel_rfl) (by kernel_rfl) (by kernel_rfl) (by decide) (fun _ _ _ _ h => h) rfl ⟨_, _, _, h1⟩ (fun wq hq => ?_) ?_; rotate_left 1
  · simp only [maskL]
    obtain ⟨Y, Z, D, hq⟩ := hq
    have q1 := hq.drop.drop.blk.some_ (i := 1) rfl
    have q3 := hq.drop.drop.blk.some_ (i := 3) rfl
    repeat (go_big_quiet_step (fail))
    exact wpQuiet_nil rfl
  refine wpAnyB_bar [false, false, false, false, false, false, false, false, false, true] (fuel := 7) (by rfl) (by rfl) (by kernel_rfl) (fun QB hQB hQX => ?_)
  simp only [maskL]
  go_wp2_with fail
  refine (Go.Proofs.Ytopcnaakdldkpaa.W.top_any _ hd hh.1 hh.2).mono ?_
  rintro e w' ⟨rfl, rfl⟩
  rw [← HTP.out]
  go_wp2_with fail
  refine hQB.out _ _ ⟨_, _, _, h1⟩ ?_
  clear hQB hQX QB
  refine' wpAnyB_bulk [false, false, false, false, false, false, false, false, false, false, true, true] 89 (listed' := #[true, true, true, true, true, true, true, true, true, true, true, true, false, false, false, false, false]) rfl (by kernel_rfl) (by kernel_rfl) (by kernel_rfl) (by kernel_rfl) (by kernel_rfl) (by kernel_rfl) (by decide) (fun _ _ _ _ h => h) rfl ⟨_, _, _, h1⟩ (fun wq hq => ?_) ?_; rotate_left 1
  · simp only [maskL]
    repeat (go_big_quiet_step (fail))
    exact wpQuiet_nil rfl
  refine wpAnyB_bar [false, false, false, false, false, false, false, false, false, false, false, false, true] (fuel := 4) (by rfl) (by rfl) (by kernel_rfl) (fun QB hQB hQX => ?_)
  simp only [maskL]
  go_wp2_with fail
  refine (mem_store w0 _ _ m C 8 bk (tp + 1) (h1.pk4 [3, 0, 1, 2]) hx HK.out.len).mono ?_
  rintro e w1 ⟨rfl, h2⟩
  rw [HA.out]
  rw [HC2.out] at h2
  generalize opE C 8 bk = er
  clear h1
  go_wp2_with fail
  refine hQB.out _ _ ⟨_, _, _, h2.pk4 [1, 2, 3, 0]⟩ ?_
  clear hQB hQX QB
  have h3 : Hold w0 w1 (blkA 55 ga #[.int .i64 0, .int .i64 0, .int .i64 0, .int .u64 0, .int .u64 0, .bool false] * (puA g cl bk 1 hd * (blkA 55 gr #[.int .i64 0, .int .i64 0, .int .i64 0, .int .u64 0, .int .u64 0, .bool false] * (memA m C2 * R)))) := h2.pk4 [1, 3, 2, 0]
  obtain ⟨⟨x0, x1, x2, x3, x4, x5⟩, z0, z1, z2, z3, z4, z5⟩ := blk_acc h3.blk
  have H4 := hid (h3.setAcc (.int .i64 a.kind) (.int .i64 a.cell) (.int .i64 a.index) (.int .u64 a.got) (.int .u64 a.put) (.bool a.done)).swap
  have H3S := hid (h2.pk4 [1, 2, 3, 0])
  clear h2 h3
  refine' wpAnyB_bulkT [false, false, false, false, false, false, false, false, false, false, false, false, false, true, true, true] 89 (listed' := #[true, true, true, true, true, true, true, true, true, true, true, true, true, true, true, true, false]) rfl (by kernel_rfl) (by kernel_rfl) (by kernel_rfl) (by kernel_rfl) (by kernel_rfl) (by decide) (fun _ _ _ _ h => h) rfl (by first | exact ⟨_, _, _, h1⟩ | exact ⟨_, _, _, H3S.out⟩) (fun wq _ => ?_) ?_; rotate_left 1
  · simp only [maskL]
    repeat (go_big_quiet_step (fail))
    exact wpQuiet_nil rfl
  refine wpAnyB_brk [false, false, false, false, false, false, false, false, false, false, false, false, false, false, false, false, true] (fuel := 0) (by rfl) (by rfl) (by kernel_rfl) (by kernel_rfl) (fun QB hQB hQX => ?_)
  simp only [maskL]
  go_wp2_with fail
  refine hQB.out _ _ ?_
  clear hQB hQX QB
  refine wpAnyB_forget (by kernel_rfl) ?_
  refine wpAnyB_done (by kernel_rfl) ?_ _
  have h4 := H4.out
  generalize hW : World.setCell _ _ _ = W4 at h4 ⊢
  clear hW H4 x0 x1 x2 x3 x4 x5 z0 z1 z2 z3 z4 z5
  have q2 := h4.blk.some_ (i := 2) (u := .int .i64 1) rfl
  have s2 := h4.blk.frozen 2
  have H5 := hid (h4.setBlk 2 (.int .i64 2))
  clear h4
  go_upto_region 15 with fail
  have h5 := H5.out
  generalize hW : World.setCell _ _ _ = W5 at h5 ⊢
  clear hW H5 q2 s2
  replace h5 : Hold w0 W5 (puA g cl bk 2 hd * (blkA 55 ga #[.int .i64 a.kind, .int .i64 a.cell, .int .i64 a.index, .int .u64 a.got, .int .u64 a.put, .bool a.done] * (blkA 55 gr #[.int .i64 0, .int .i64 0, .int .i64 0, .int .u64 0, .int .u64 0, .bool false] * (memA m C2 * R)))) := h5
  have h7 := h5
  clear h5
  obtain ⟨⟨x0, x1, x2, x3, x4, x5⟩, z0, z1, z2, z3, z4, z5⟩ := blk_acc (h7.pk3 [2, 0, 1]).blk
  obtain ⟨⟨y0, y1, y2, y3, y4, y5⟩, _⟩ := blk_acc (h7.pk2 [1, 0]).blk
  have H8 := hid ((h7.pk3 [2, 0, 1]).setAcc (.int .i64 a.kind) (.int .i64 a.cell) (.int .i64 a.index) (.int .u64 a.got) (.int .u64 a.put) (.bool a.done))
  clear h7
  go_wp2_with fail
  have h8 := H8.out
  generalize hW : World.setCell _ _ _ = W8 at h8 ⊢
  clear hW H8 x0 x1 x2 x3 x4 x5 z0 z1 z2 z3 z4 z5 y0 y1 y2 y3 y4 y5
  obtain ⟨⟨y0, y1, y2, y3, y4, y5⟩, _⟩ := blk_acc h8.blk
  have hfin : Hid (RAccPost w0 (puA g cl bk 2 hd * (memA m C2 * R)) a (.returned a.val) W8) := hid ⟨rfl, h8.pk3 [1]⟩
  exact bodyPost_ret (v := a.val) (by simp [results, Try.results39, go_sem, y0, y1, y2, y3, y4, y5]) rfl hfin.out
set_option maxRecDepth 8000 in
set_option maxHeartbeats 4000000 in
theorem pu_step2_yes (w0 w : World) (R : Asr) (g m : Nat) (C : Nat → List Int) (C2 : Nat → List Int) (cl bk hd : Int) (a : Acc) (h : Hold w0 w (puA g cl bk 2 hd * (memA m C * R))) (hC : COk C) (hx : -9223372036854775808 ≤ cl ∧ cl ≤ 9223372036854775807) (hh : 0 ≤ hd ∧ hd < 18446744073709551616) (hdn : a.done = true) (ha : opA C 3 7 cl (bumpV hd bk) (valC C 7 cl == hd) = a) (hC2 : opC C 7 cl (bumpV hd bk) (valC C 7 cl == hd) = C2) :
    Calls Try.prog 39 #[.pointer (some ⟨g, 0, none⟩), .pointer (some ⟨m, 0, none⟩)] w (RAccPost w0 (puA g cl bk 3 hd * (memA m C2 * R)) a) := by
  obtain ⟨bv, hbv⟩ : ∃ bv, bv = bumpV hd bk := ⟨_, rfl⟩
  rw [← hbv] at ha hC2
  have HB := hid hbv
  have HA := hid ha
  have HK := hid hC
  have HC2 := hid hC2
  have HDN := hid hdn
  have h1 := (h.newBlk (t := 55) (cs := #[.int .i64 0, .int .i64 0, .int .i64 0, .int .u64 0, .int .u64 0, .bool false])).newBlk (t := 55) (cs := #[.int .i64 0, .int .i64 0, .int .i64 0, .int .u64 0, .int .u64 0, .bool false])
  simp only [World.size_alloc] at h1
  have H1 := hid h1
  have n1 := h.blk.lt
  have n2 : g ≠ w.heap.size := by omega
  have n3 : g ≠ w.heap.size + 1 := by omega
  have p2 := h.blk.some_ (i := 2) rfl
  clear h h1 ha hC hbv hC2 hdn
  go_enter Try.func39, Try.ntmps39
  go_upto_region 10 with fail
  have h1 := H1.out
  generalize hW : World.alloc _ _ = W at h1 ⊢
  generalize w.heap.size + 1 = ga at h1 ⊢
  generalize w.heap.size = gr at h1 ⊢
  clear hW H1 n1 n2 n3 p2
  replace h1 := h1.drew
  refine wp_region_brk [] (by kernel_rfl) ?_
  refine wpAnyB_now (fun w' => ∃ (Y Z : Asr), Hold w0 w' (Y * (Z * (puA g cl bk 2 hd * (memA m C * R))))) (fun _ _ => trivial) _ _ _ _ ?_
  refine' wpAnyB_bulk [true, true, true, true, true, true, true, true] 89 (listed' := #[true, true, true, true, true, true, true, true, false, false, false, false, false, false]) rfl (by kernel_rfl) (by kernel_rfl) (by kernel_rfl) (by kernel_rfl) (by kernel_rfl) (by kernel_rfl) (by decide) (fun _ _ _ _ h => h) rfl ⟨_, _, h1⟩ (fun wq hq => ?_) ?_; rotate_left 1
  · simp only [maskL]
    obtain ⟨Y, Z, hq⟩ := hq
    have q1 := hq.drop.drop.blk.some_ (i := 1) rfl
    have q3 := hq.drop.drop.blk.some_ (i := 3) rfl
    repeat (go_big_quiet_step (fail))
    exact wpQuiet_nil rfl
  refine wpAnyB_bar [false, false, false, false, false, false, false, false, true] (fuel := 5) (by rfl) (by rfl) (by kernel_rfl) (fun QB hQB hQX => ?_)
  simp only [maskL]
  go_wp2_with fail
  refine (Go.Proofs.Ytopcnaakdldkpaa.W.bump_any _ hd bk hh.1 hh.2).mono ?_
  rintro e w' ⟨rfl, rfl⟩
  rw [show Go.Proofs.Ytopcnaakdldkpaa.W.headW ((hd / 65536 + 1) % 281474976710656) bk = bv from HB.out.symm]
  generalize Go.Proofs.Ytopcnaakdldkpaa.W.errIf _ = er
  go_wp2_with fail
  refine hQB.out _ _ ⟨_, _, h1⟩ ?_
  clear hQB hQX QB
  refine' wpAnyB_bulk [false, false, false, false, false, false, false, false, false, true, true, true, true, true] 89 (listed' := #[true, true, true, true, true, true, true, true, true, true, true, true, true, true]) rfl (by kernel_rfl) (by kernel_rfl) (by kernel_rfl) (by kernel_rfl) (by kernel_rfl) (by kernel_rfl) (by decide) (fun _ _ _ _ h => h) rfl ⟨_, _, h1⟩ (fun wq hq => ?_) ?_; rotate_left 1
  · simp only [maskL]
    repeat (go_big_quiet_step (fail))
    exact wpQuiet_nil rfl
  refine wpAnyB_done (by kernel_rfl) ?_ _
  go_upto_region 11 with fail
  replace h1 := h1.drew
  refine wp_region_brk [14] (by kernel_rfl) ?_
  refine wpAnyB_now (fun w' => ∃ (Y Z : Asr) (D : Nat → List Int), Hold w0 w' (Y * (Z * (puA g cl bk 2 hd * (memA m D * R))))) (fun _ _ => trivial) _ _ _ _ ?_
  refine' wpAnyB_bulk [true, true, true, true, true, true, true, true, true, true] 89 (listed' := #[true, true, true, true, true, true, true, true, true, true, false, false, false, false, false]) rfl (by kernel_rfl) (by kernel_rfl) (by kernel_rfl) (by kernel_rfl) (by kernel_rfl) (by kernel_rfl) (by decide) (fun _ _ _ _ h => h) rfl ⟨_, _, _, h1⟩ (fun wq hq => ?_) ?_; rotate_left 1
  · simp only [maskL]
    obtain ⟨Y, Z, D, hq⟩ := hq
    have q0 := hq.drop.drop.blk.some_ (i := 0) rfl
    have q3 := hq.drop.drop.blk.some_ (i := 3) rfl
    repeat (go_big_quiet_step (fail))
    exact wpQuiet_nil rfl
  refine wpAnyB_bar [false, false, false, false, false, false, false, false, false, false, true] (fuel := 4) (by rfl) (by rfl) (by kernel_rfl) (fun QB hQB hQX => ?_)
  simp only [maskL]
  go_wp2_with fail
  refine (mem_swap w0 _ _ m C 7 cl hd bv (h1.pk4 [3, 0, 1, 2]) hx HK.out.len).mono ?_
  rintro e w1 ⟨rfl, h2⟩
  rw [HA.out]
  rw [HC2.out] at h2
  generalize opE C 7 cl = er
  clear h1
  go_wp2_with fail
  refine hQB.out _ _ ⟨_, _, _, h2.pk4 [1, 2, 3, 0]⟩ ?_
  clear hQB hQX QB
  have h3 : Hold w0 w1 (blkA 55 ga #[.int .i64 0, .int .i64 0, .int .i64 0, .int .u64 0, .int .u64 0, .bool false] * (puA g cl bk 2 hd * (blkA 55 gr #[.int .i64 0, .int .i64 0, .int .i64 0, .int .u64 0, .int .u64 0, .bool false] * (memA m C2 * R)))) := h2.pk4 [1, 3, 2, 0]
  obtain ⟨⟨x0, x1, x2, x3, x4, x5⟩, z0, z1, z2, z3, z4, z5⟩ := blk_acc h3.blk
  have H4 := hid (h3.setAcc (.int .i64 a.kind) (.int .i64 a.cell) (.int .i64 a.index) (.int .u64 a.got) (.int .u64 a.put) (.bool a.done)).swap
  have H3S := hid (h2.pk4 [1, 2, 3, 0])
  clear h2 h3
  refine' wpAnyB_bulkT [false, false, false, false, false, false, false, false, false, false, false, true, true, true] 89 (listed' := #[true, true, true, true, true, true, true, true, true, true, true, true, true, true, false]) rfl (by kernel_rfl) (by kernel_rfl) (by kernel_rfl) (by kernel_rfl) (by kernel_rfl) (by decide) (fun _ _ _ _ h => h) rfl (by first | exact ⟨_, _, _, h1⟩ | exact ⟨_, _, _, H3S.out⟩) (fun wq _ => ?_) ?_; rotate_left 1
  · simp only [maskL]
    repeat (go_big_quiet_step (fail))
    exact wpQuiet_nil rfl
  refine wpAnyB_brk [false, false, false, false, false, false, false, false, false, false, false, false, false, false, true] (fuel := 0) (by rfl) (by rfl) (by kernel_rfl) (by kernel_rfl) (fun QB hQB hQX => ?_)
  simp only [maskL]
  go_wp2_with fail
  refine hQB.out _ _ ?_
  clear hQB hQX QB
  refine wpAnyB_forget (by kernel_rfl) ?_
  refine wpAnyB_done (by kernel_rfl) ?_ _
  have h4 := H4.out
  generalize hW : World.setCell _ _ _ = W4 at h4 ⊢
  clear hW H4 x0 x1 x2 x3 x4 x5 z0 z1 z2 z3 z4 z5
  have q2 := h4.blk.some_ (i := 2) (u := .int .i64 2) rfl
  have s2 := h4.blk.frozen 2
  have H5 := hid (h4.setBlk 2 (.int .i64 0))
  clear h4
  go_upto_region 13 with fail
  have h5 := H5.out
  generalize hW : World.setCell _ _ _ = W5 at h5 ⊢
  clear hW H5 q2 s2
  replace h5 : Hold w0 W5 (puA g cl bk 0 hd * (blkA 55 ga #[.int .i64 a.kind, .int .i64 a.cell, .int .i64 a.index, .int .u64 a.got, .int .u64 a.put, .bool a.done] * (blkA 55 gr #[.int .i64 0, .int .i64 0, .int .i64 0, .int .u64 0, .int .u64 0, .bool false] * (memA m C2 * R)))) := h5
  have y5 : W5.cell? ⟨ga, 5, none⟩ = some (.bool true) := by
    have := h5.drop.blk.some_ (i := 5) (u := .bool a.done) rfl
    rwa [HDN.out] at this
  have q2 := h5.blk.some_ (i := 2) (u := .int .i64 0) rfl
  have s2 := h5.blk.frozen 2
  have H6 := hid (h5.setBlk 2 (.int .i64 3))
  clear h5
  go_upto_region 15 with fail
  have h6 := H6.out
  generalize hW : World.setCell _ _ _ = W6 at h6 ⊢
  clear hW H6 q2 s2 y5
  have h7 : Hold w0 W6 (puA g cl bk 3 hd * (blkA 55 ga #[.int .i64 a.kind, .int .i64 a.cell, .int .i64 a.index, .int .u64 a.got, .int .u64 a.put, .bool a.done] * (blkA 55 gr #[.int .i64 0, .int .i64 0, .int .i64 0, .int .u64 0, .int .u64 0, .bool false] * (memA m C2 * R)))) := h6
  clear h6
  obtain ⟨⟨x0, x1, x2, x3, x4, x5⟩, z0, z1, z2, z3, z4, z5⟩ := blk_acc (h7.pk3 [2, 0, 1]).blk
  obtain ⟨⟨y0, y1, y2, y3, y4, y5⟩, _⟩ := blk_acc (h7.pk2 [1, 0]).blk
  have H8 := hid ((h7.pk3 [2, 0, 1]).setAcc (.int .i64 a.kind) (.int .i64 a.cell) (.int .i64 a.index) (.int .u64 a.got) (.int .u64 a.put) (.bool a.done))
  clear h7
  go_wp2_with fail
  have h8 := H8.out
  generalize hW : World.setCell _ _ _ = W8 at h8 ⊢
  clear hW H8 x0 x1 x2 x3 x4 x5 z0 z1 z2 z3 z4 z5 y0 y1 y2 y3 y4 y5
  obtain ⟨⟨y0, y1, y2, y3, y4, y5⟩, _⟩ := blk_acc h8.blk
  have hfin : Hid (RAccPost w0 (puA g cl bk 3 hd * (memA m C2 * R)) a (.returned a.val) W8) := hid ⟨rfl, h8.pk3 [1]⟩
  exact bodyPost_ret (v := a.val) (by simp [results, Try.results39, go_sem, y0, y1, y2, y3, y4, y5]) rfl hfin.out
set_option maxRecDepth 8000 in
set_option maxHeartbeats 4000000 in
theorem pu_step2_no (w0 w : World) (R : Asr) (g m : Nat) (C : Nat → List Int) (C2 : Nat → List Int) (cl bk hd : Int) (a : Acc) (h : Hold w0 w (puA g cl bk 2 hd * (memA m C * R))) (hC : COk C) (hx : -9223372036854775808 ≤ cl ∧ cl ≤ 9223372036854775807) (hh : 0 ≤ hd ∧ hd < 18446744073709551616) (hdn : a.done = false) (ha : opA C 3 7 cl (bumpV hd bk) (valC C 7 cl == hd) = a) (hC2 : opC C 7 cl (bumpV hd bk) (valC C 7 cl == hd) = C2) :
    Calls Try.prog 39 #[.pointer (some ⟨g, 0, none⟩), .pointer (some ⟨m, 0, none⟩)] w (RAccPost w0 (puA g cl bk 0 hd * (memA m C2 * R)) a) := by
  obtain ⟨bv, hbv⟩ : ∃ bv, bv = bumpV hd bk := ⟨_, rfl⟩
  rw [← hbv] at ha hC2
  have HB := hid hbv
  have HA := hid ha
  have HK := hid hC
  have HC2 := hid hC2
  have HDN := hid hdn
  have h1 := (h.newBlk (t := 55) (cs := #[.int .i64 0, .int .i64 0, .int .i64 0, .int .u64 0, .int .u64 0, .bool false])).newBlk (t := 55) (cs := #[.int .i64 0, .int .i64 0, .int .i64 0, .int .u64 0, .int .u64 0, .bool false])
  simp only [World.size_alloc] at h1
  have H1 := hid h1
  have n1 := h.blk.lt
  have n2 : g ≠ w.heap.size := by omega
  have n3 : g ≠ w.heap.size + 1 := by omega
  have p2 := h.blk.some_ (i := 2) rfl
  clear h h1 ha hC hbv hC2 hdn
  go_enter Try.func39, Try.ntmps39
  go_upto_region 10 with fail
  have h1 := H1.out
  generalize hW : World.alloc _ _ = W at h1 ⊢
  generalize w.heap.size + 1 = ga at h1 ⊢
  generalize w.heap.size = gr at h1 ⊢
  clear hW H1 n1 n2 n3 p2
  replace h1 := h1.drew
  refine wp_region_brk [] (by kernel_rfl) ?_
  refine wpAnyB_now (fun w' => ∃ (Y Z : Asr), Hold w0 w' (Y * (Z * (puA g cl bk 2 hd * (memA m C * R))))) (fun _ _ => trivial) _ _ _ _ ?_
  refine' wpAnyB_bulk [true, true, true, true, true, true, true, true] 89 (listed' := #[true, true, true, true, true, true, true, true, false, false, false, false, false, false]) rfl (by kernel_rfl) (by kernel_rfl) (by kernel_rfl) (by kernel_rfl) (by kernel_rfl) (by kernel_rfl) (by decide) (fun _ _ _ _ h => h) rfl ⟨_, _, h1⟩ (fun wq hq => ?_) ?_; rotate_left 1
  · simp only [maskL]
    obtain ⟨Y, Z, hq⟩ := hq
    have q1 := hq.drop.drop.blk.some_ (i := 1) rfl
    have q3 := hq.drop.drop.blk.some_ (i := 3) rfl
    repeat (go_big_quiet_step (fail))
    exact wpQuiet_nil rfl
  refine wpAnyB_bar [false, false, false, false, false, false, false, false, true] (fuel := 5) (by rfl) (by rfl) (by kernel_rfl) (fun QB hQB hQX => ?_)
  simp only [maskL]
  go_wp2_with fail
  refine (Go.Proofs.Ytopcnaakdldkpaa.W.bump_any _ hd bk hh.1 hh.2).mono ?_
  rintro e w' ⟨rfl, rfl⟩
  rw [show Go.Proofs.Ytopcnaakdldkpaa.W.headW ((hd / 65536 + 1) % 281474976710656) bk = bv from HB.out.symm]
  generalize Go.Proofs.Ytopcnaakdldkpaa.W.errIf _ = er
  go_wp2_with fail
  refine hQB.out _ _ ⟨_, _, h1⟩ ?_
  clear hQB hQX QB
  refine' wpAnyB_bulk [false, false, false, false, false, false, false, false, false, true, true, true, true, true] 89 (listed' := #[true, true, true, true, true, true, true, true, true, true, true, true, true, true]) rfl (by kernel_rfl) (by kernel_rfl) (by kernel_rfl) (by kernel_rfl) (by kernel_rfl) (by kernel_rfl) (by decide) (fun _ _ _ _ h => h) rfl ⟨_, _, h1⟩ (fun wq hq => ?_) ?_; rotate_left 1
  · simp only [maskL]
    repeat (go_big_quiet_step (fail))
    exact wpQuiet_nil rfl
  refine wpAnyB_done (by kernel_rfl) ?_ _
  go_upto_region 11 with fail
  replace h1 := h1.drew
  refine wp_region_brk [14] (by kernel_rfl) ?_
  refine wpAnyB_now (fun w' => ∃ (Y Z : Asr) (D : Nat → List Int), Hold w0 w' (Y * (Z * (puA g cl bk 2 hd * (memA m D * R))))) (fun _ _ => trivial) _ _ _ _ ?_
  refine' wpAnyB_bulk [true, true, true, true, true, true, true, true, true, true] 89 (listed' := #[true, true, true, true, true, true, true, true, true, true, false, false, false, false, false]) rfl (by kernel_rfl) (by kernel_rfl) (by kernel_rfl) (by kernel_rfl) (by kernel_rfl) (by kernel_rfl) (by decide) (fun _ _ _ _ h => h) rfl ⟨_, _, _, h1⟩ (fun wq hq => ?_) ?_; rotate_left 1
  · simp only [maskL]
    obtain ⟨Y, Z, D, hq⟩ := hq
    have q0 := hq.drop.drop.blk.some_ (i := 0) rfl
    have q3 := hq.drop.drop.blk.some_ (i := 3) rfl
    repeat (go_big_quiet_step (fail))
    exact wpQuiet_nil rfl
  refine wpAnyB_bar [false, false, false, false, false, false, false, false, false, false, true] (fuel := 4) (by rfl) (by rfl) (by kernel_rfl) (fun QB hQB hQX => ?_)
  simp only [maskL]
  go_wp2_with fail
  refine (mem_swap w0 _ _ m C 7 cl hd bv (h1.pk4 [3, 0, 1, 2]) hx HK.out.len).mono ?_
  rintro e w1 ⟨rfl, h2⟩
  rw [HA.out]
  rw [HC2.out] at h2
  generalize opE C 7 cl = er
  clear h1
  go_wp2_with fail
  refine hQB.out _ _ ⟨_, _, _, h2.pk4 [1, 2, 3, 0]⟩ ?_
  clear hQB hQX QB
  have h3 : Hold w0 w1 (blkA 55 ga #[.int .i64 0, .int .i64 0, .int .i64 0, .int .u64 0, .int .u64 0, .bool false] * (puA g cl bk 2 hd * (blkA 55 gr #[.int .i64 0, .int .i64 0, .int .i64 0, .int .u64 0, .int .u64 0, .bool false] * (memA m C2 * R)))) := h2.pk4 [1, 3, 2, 0]
  obtain ⟨⟨x0, x1, x2, x3, x4, x5⟩, z0, z1, z2, z3, z4, z5⟩ := blk_acc h3.blk
  have H4 := hid (h3.setAcc (.int .i64 a.kind) (.int .i64 a.cell) (.int .i64 a.index) (.int .u64 a.got) (.int .u64 a.put) (.bool a.done)).swap
  have H3S := hid (h2.pk4 [1, 2, 3, 0])
  clear h2 h3
  refine' wpAnyB_bulkT [false, false, false, false, false, false, false, false, false, false, false, true, true, true] 89 (listed' := #[true, true, true, true, true, true, true, true, true, true, true, true, true, true, false]) rfl (by kernel_rfl) (by kernel_rfl) (by kernel_rfl) (by kernel_rfl) (by kernel_rfl) (by decide) (fun _ _ _ _ h => h) rfl (by first | exact ⟨_, _, _, h1⟩ | exact ⟨_, _, _, H3S.out⟩) (fun wq _ => ?_) ?_; rotate_left 1
  · simp only [maskL]
    repeat (go_big_quiet_step (fail))
    exact wpQuiet_nil rfl
  refine wpAnyB_brk [false, false, false, false, false, false, false, false, false, false, false, false, false, false, true] (fuel := 0) (by rfl) (by rfl) (by kernel_rfl) (by kernel_rfl) (fun QB hQB hQX => ?_)
  simp only [maskL]
  go_wp2_with fail
  refine hQB.out _ _ ?_
  clear hQB hQX QB
  refine wpAnyB_forget (by kernel_rfl) ?_
  refine wpAnyB_done (by kernel_rfl) ?_ _
  have h4 := H4.out
  generalize hW : World.setCell _ _ _ = W4 at h4 ⊢
  clear hW H4 x0 x1 x2 x3 x4 x5 z0 z1 z2 z3 z4 z5
  have q2 := h4.blk.some_ (i := 2) (u := .int .i64 2) rfl
  have s2 := h4.blk.frozen 2
  have H5 := hid (h4.setBlk 2 (.int .i64 0))
  clear h4
  go_upto_region 13 with fail
  have h5 := H5.out
  generalize hW : World.setCell _ _ _ = W5 at h5 ⊢
  clear hW H5 q2 s2
  replace h5 : Hold w0 W5 (puA g cl bk 0 hd * (blkA 55 ga #[.int .i64 a.kind, .int .i64 a.cell, .int .i64 a.index, .int .u64 a.got, .int .u64 a.put, .bool a.done] * (blkA 55 gr #[.int .i64 0, .int .i64 0, .int .i64 0, .int .u64 0, .int .u64 0, .bool false] * (memA m C2 * R)))) := h5
  have y5 : W5.cell? ⟨ga, 5, none⟩ = some (.bool false) := by
    have := h5.drop.blk.some_ (i := 5) (u := .bool a.done) rfl
    rwa [HDN.out] at this
  go_upto_region 15 with fail
  clear y5
  have h7 := h5
  clear h5
  obtain ⟨⟨x0, x1, x2, x3, x4, x5⟩, z0, z1, z2, z3, z4, z5⟩ := blk_acc (h7.pk3 [2, 0, 1]).blk
  obtain ⟨⟨y0, y1, y2, y3, y4, y5⟩, _⟩ := blk_acc (h7.pk2 [1, 0]).blk
  have H8 := hid ((h7.pk3 [2, 0, 1]).setAcc (.int .i64 a.kind) (.int .i64 a.cell) (.int .i64 a.index) (.int .u64 a.got) (.int .u64 a.put) (.bool a.done))
  clear h7
  go_wp2_with fail
  have h8 := H8.out
  generalize hW : World.setCell _ _ _ = W8 at h8 ⊢
  clear hW H8 x0 x1 x2 x3 x4 x5 z0 z1 z2 z3 z4 z5 y0 y1 y2 y3 y4 y5
  obtain ⟨⟨y0, y1, y2, y3, y4, y5⟩, _⟩ := blk_acc h8.blk
  have hfin : Hid (RAccPost w0 (puA g cl bk 0 hd * (memA m C2 * R)) a (.returned a.val) W8) := hid ⟨rfl, h8.pk3 [1]⟩
  exact bodyPost_ret (v := a.val) (by simp [results, Try.results39, go_sem, y0, y1, y2, y3, y4, y5]) rfl hfin.out
end Go.Proofs.Ytopcnaakdldkpaa
