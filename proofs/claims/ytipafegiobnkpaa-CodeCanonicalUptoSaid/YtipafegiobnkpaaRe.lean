/- Decode, of the reference: its errors. -/
import Derived.Test.YtipafegiobnkpaaDk
namespace Go.Proofs.Ytipafegiobnkpaa
open Go.RowKit
set_option linter.unusedVariables false
set_option maxRecDepth 8000 in
set_option maxHeartbeats 16000000 in
theorem rdec_long (w0 w : World) (R : Asr) (A : Option Addr) (n c : Nat) (bs : List Nat) (h : Hold w0 w R) (hS : Still w0 R ⟨A, n, c⟩ bs) (hb : ∀ x ∈ bs, x < 256) (hl : bs.length = n) (hbig : 262144 < n) (hnc : n ≤ c) (hn : n ≤ 4611686018427387904) :
    Calls Try.prog 15 #[.slice A n c] w (DecPost w0 R (decode5 bs)) := by
  have HS := hid hS
  have HB := hid hb
  have HL := hid hl
  have H1 := hid (h.newBlk (t := 29) (cs := z16))
  clear hS hb hl h
  have e1 : decide ((262144 : Int) < (n : Int)) = true := decide_eq_true (by omega)
  have HD : Hid (decode5 bs = (.zero, 3)) := hid (by unfold decode5; rw [if_pos (by rw [HL.out]; exact hbig)])
  go_enter Try.func15, Try.ntmps15
  go_upto_region 2 with fail
  have h1 := H1.out
  unfold z16 at h1
  generalize hW : World.alloc _ _ = W at h1 ⊢
  clear hW H1
  generalize w.heap.size = gs at h1 ⊢
  obtain ⟨⟨x0, x1, x2, x3, x4, x5, x6, x7, x8, x9, x10, x11, x12, x13, x14, x15⟩, y0, y1, y2, y3, y4, y5, y6, y7, y8, y9, y10, y11, y12, y13, y14, y15⟩ := blk_16 h1.blk
  have H2 := hid (h1.set16 (b0 := .int .i64 0) (b1 := .int .i64 0) (b2 := .int .i64 0) (b3 := .int .i64 0) (b4 := .int .i64 0) (b5 := .int .i64 0) (b6 := .int .i64 0) (b7 := .int .i64 0) (b8 := .int .i64 0) (b9 := .int .i64 0) (b10 := .int .i64 0) (b11 := .int .i64 0) (b12 := .bool false) (b13 := .slice none 0 0) (b14 := .slice none 0 0) (b15 := .slice none 0 0))
  clear h1
  go_wp2_with fail
  have h2 := H2.out
  generalize hW : World.setCell _ _ _ = W2 at h2 ⊢
  clear hW H2 x0 x1 x2 x3 x4 x5 x6 x7 x8 x9 x10 x11 x12 x13 x14 x15 y0 y1 y2 y3 y4 y5 y6 y7 y8 y9 y10 y11 y12 y13 y14 y15
  obtain ⟨⟨x0, x1, x2, x3, x4, x5, x6, x7, x8, x9, x10, x11, x12, x13, x14, x15⟩, _⟩ := blk_16 h2.blk
  rw [HD.out]
  have hfin : Hid (DecPost w0 R (.zero, 3) (.returned (.tuple #[scrV .zero (.slice none 0 0) (.slice none 0 0) (.slice none 0 0), .int .i64 3])) W2) := hid ⟨_, _, _, rfl, h2.drop.zeroScr⟩
  exact bodyPost_ret (v := .tuple #[scrV .zero (.slice none 0 0) (.slice none 0 0) (.slice none 0 0), .int .i64 3]) (by simp [results, Try.results15, go_sem, x0, x1, x2, x3, x4, x5, x6, x7, x8, x9, x10, x11, x12, x13, x14, x15, scrV, Scr.zero, List.replicate]) rfl hfin.out
set_option maxRecDepth 8000 in
set_option maxHeartbeats 16000000 in
theorem rdec_short (w0 w : World) (R : Asr) (A : Option Addr) (n c : Nat) (bs : List Nat) (h : Hold w0 w R) (hS : Still w0 R ⟨A, n, c⟩ bs) (hb : ∀ x ∈ bs, x < 256) (hl : bs.length = n) (hbig : ¬ 262144 < n) (h4 : n < 4) (hnc : n ≤ c) (hn : n ≤ 4611686018427387904) :
    Calls Try.prog 15 #[.slice A n c] w (DecPost w0 R (decode5 bs)) := by
  have HS := hid hS
  have HB := hid hb
  have HL := hid hl
  have H1 := hid (h.newBlk (t := 29) (cs := z16))
  clear hS hb hl h
  have e1 : decide ((262144 : Int) < (n : Int)) = false := decide_eq_false (by omega)
  have e2 : decide ((n : Int) < 4) = true := decide_eq_true (by omega)
  have HD : Hid (decode5 bs = (.zero, 30)) := hid (by unfold decode5; rw [if_neg (by rw [HL.out]; exact hbig), if_pos (.inl (by rw [HL.out]; exact h4))])
  go_enter Try.func15, Try.ntmps15
  go_upto_region 4 with fail
  have h1 := H1.out
  unfold z16 at h1
  generalize hW : World.alloc _ _ = W at h1 ⊢
  clear hW H1
  generalize w.heap.size = gs at h1 ⊢
  obtain ⟨⟨x0, x1, x2, x3, x4, x5, x6, x7, x8, x9, x10, x11, x12, x13, x14, x15⟩, y0, y1, y2, y3, y4, y5, y6, y7, y8, y9, y10, y11, y12, y13, y14, y15⟩ := blk_16 h1.blk
  have H2 := hid (h1.set16 (b0 := .int .i64 0) (b1 := .int .i64 0) (b2 := .int .i64 0) (b3 := .int .i64 0) (b4 := .int .i64 0) (b5 := .int .i64 0) (b6 := .int .i64 0) (b7 := .int .i64 0) (b8 := .int .i64 0) (b9 := .int .i64 0) (b10 := .int .i64 0) (b11 := .int .i64 0) (b12 := .bool false) (b13 := .slice none 0 0) (b14 := .slice none 0 0) (b15 := .slice none 0 0))
  clear h1
  go_wp2_with fail
  have h2 := H2.out
  generalize hW : World.setCell _ _ _ = W2 at h2 ⊢
  clear hW H2 x0 x1 x2 x3 x4 x5 x6 x7 x8 x9 x10 x11 x12 x13 x14 x15 y0 y1 y2 y3 y4 y5 y6 y7 y8 y9 y10 y11 y12 y13 y14 y15
  obtain ⟨⟨x0, x1, x2, x3, x4, x5, x6, x7, x8, x9, x10, x11, x12, x13, x14, x15⟩, _⟩ := blk_16 h2.blk
  rw [HD.out]
  have hfin : Hid (DecPost w0 R (.zero, 30) (.returned (.tuple #[scrV .zero (.slice none 0 0) (.slice none 0 0) (.slice none 0 0), .int .i64 30])) W2) := hid ⟨_, _, _, rfl, h2.drop.zeroScr⟩
  exact bodyPost_ret (v := .tuple #[scrV .zero (.slice none 0 0) (.slice none 0 0) (.slice none 0 0), .int .i64 30]) (by simp [results, Try.results15, go_sem, x0, x1, x2, x3, x4, x5, x6, x7, x8, x9, x10, x11, x12, x13, x14, x15, scrV, Scr.zero, List.replicate]) rfl hfin.out
set_option maxRecDepth 8000 in
set_option maxHeartbeats 16000000 in
theorem rdec_mark (w0 w : World) (R : Asr) (A : Option Addr) (n c : Nat) (bs : List Nat) (h : Hold w0 w R) (hS : Still w0 R ⟨A, n, c⟩ bs) (hb : ∀ x ∈ bs, x < 256) (hl : bs.length = n) (hbig : ¬ 262144 < n) (h4 : ¬ n < 4) (hmk : bs.take 4 ≠ mark5) (hnc : n ≤ c) (hn : n ≤ 4611686018427387904) :
    Calls Try.prog 15 #[.slice A n c] w (DecPost w0 R (decode5 bs)) := by
  have HS := hid hS
  have HB := hid hb
  have HL := hid hl
  have H1 := hid (h.newBlk (t := 29) (cs := z16))
  clear hS hb hl h
  have e1 : decide ((262144 : Int) < (n : Int)) = false := decide_eq_false (by omega)
  have e2 : decide ((n : Int) < 4) = false := decide_eq_false (by omega)
  have hsl : ∀ w, (Instr.slice 31 (.slice A n c) none (some (.int .i64 4)) none).run Try.prog w = .ok (.slice A 4 c) w := fun w => slice_headP 31 (by kernel_rfl) sz_u8 w A n c 4 (by omega)
  have h1 := H1.out
  obtain ⟨b, hr⟩ := HS.out _ _ h1
  simp only at hr
  obtain ⟨ad, hA, hb9, hc9⟩ := hr.cellAt (k := 0) (by omega)
  have hr4 := hr.take (k := 4) (by omega)
  rw [show (bv bs).take 4 = bv (bs.take 4) by unfold bv; rw [List.map_take]] at hr4
  have hcv := conv_bytes _ A b 4 c (bs.take 4) hr4 (fun h => by rw [hA] at h; cases h)
  unfold z16 at hcv
  have HA := hid hA
  have e3 : ((strB (bs.take 4)).toList == [83, 84, 88, 49]) = decide (bs.take 4 = mark5) := by
    have h9 := strB_beq (bs.take 4) mark5 (fun x hx => HB.out x (List.mem_of_mem_take hx)) (by decide)
    rw [strB_list mark5] at h9
    exact h9
  clear hc9
  clear hr hr4 h1 hA hb9
  rw [decide_eq_false hmk] at e3
  have HD : Hid (decode5 bs = (.zero, 30)) := hid (by unfold decode5; rw [if_neg (by rw [HL.out]; exact hbig), if_pos (.inr hmk)])
  clear hmk
  go_enter Try.func15, Try.ntmps15
  go_upto_region 4 with fail
  have h1 := H1.out
  unfold z16 at h1
  generalize hW : World.alloc _ _ = W at h1 ⊢
  clear hW H1
  generalize w.heap.size = gs at h1 ⊢
  obtain ⟨⟨x0, x1, x2, x3, x4, x5, x6, x7, x8, x9, x10, x11, x12, x13, x14, x15⟩, y0, y1, y2, y3, y4, y5, y6, y7, y8, y9, y10, y11, y12, y13, y14, y15⟩ := blk_16 h1.blk
  have H2 := hid (h1.set16 (b0 := .int .i64 0) (b1 := .int .i64 0) (b2 := .int .i64 0) (b3 := .int .i64 0) (b4 := .int .i64 0) (b5 := .int .i64 0) (b6 := .int .i64 0) (b7 := .int .i64 0) (b8 := .int .i64 0) (b9 := .int .i64 0) (b10 := .int .i64 0) (b11 := .int .i64 0) (b12 := .bool false) (b13 := .slice none 0 0) (b14 := .slice none 0 0) (b15 := .slice none 0 0))
  clear h1
  go_wp2_with fail
  have h2 := H2.out
  generalize hW : World.setCell _ _ _ = W2 at h2 ⊢
  clear hW H2 x0 x1 x2 x3 x4 x5 x6 x7 x8 x9 x10 x11 x12 x13 x14 x15 y0 y1 y2 y3 y4 y5 y6 y7 y8 y9 y10 y11 y12 y13 y14 y15
  obtain ⟨⟨x0, x1, x2, x3, x4, x5, x6, x7, x8, x9, x10, x11, x12, x13, x14, x15⟩, _⟩ := blk_16 h2.blk
  rw [HD.out]
  have hfin : Hid (DecPost w0 R (.zero, 30) (.returned (.tuple #[scrV .zero (.slice none 0 0) (.slice none 0 0) (.slice none 0 0), .int .i64 30])) W2) := hid ⟨_, _, _, rfl, h2.drop.zeroScr⟩
  exact bodyPost_ret (v := .tuple #[scrV .zero (.slice none 0 0) (.slice none 0 0) (.slice none 0 0), .int .i64 30]) (by simp [results, Try.results15, go_sem, x0, x1, x2, x3, x4, x5, x6, x7, x8, x9, x10, x11, x12, x13, x14, x15, scrV, Scr.zero, List.replicate]) rfl hfin.out
end Go.Proofs.Ytipafegiobnkpaa
