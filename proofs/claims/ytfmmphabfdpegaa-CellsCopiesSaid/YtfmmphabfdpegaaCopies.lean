/- CellsCopies: the methods of nil cells, the walk. -/
import Derived.Test.YtfmmphabfdpegaaCounts
import Derived.Test.YtfmmphabfdpegaaLab
import Derived.Deep.DeepCutAuto
namespace Go.Proofs.Ytfmmphabfdpegaa
open Go.RowKit
set_option linter.unusedVariables false

def NilPost (w0 : World) (R : Asr) (e : Ending) (w' : World) : Prop := e = .returned (.tuple #[acc0.val, .int .i64 1]) ∧ Hold w0 w' R
theorem operate_nil (w0 w : World) (R : Asr) (kind cell index : Int) (f : Value) (h : Hold w0 w R) :
    Calls Try.prog 47 #[.pointer none, .int .i64 kind, .int .i64 cell, .int .i64 index, f] w (NilPost w0 R) := by
  go_enter Try.func47, Try.ntmps47
  go_wp2_with fail
  exact bodyPost_ret (v := .tuple #[acc0.val, .int .i64 1]) (by simp [results, Try.results47, acc0, go_sem]) rfl ⟨rfl, h.alloc _⟩
set_option maxHeartbeats 2000000 in
theorem nil_load (w0 w : World) (R : Asr) (cell index : Int) (h : Hold w0 w R) :
    Calls Try.prog 17 #[.pointer none, .int .i64 cell, .int .i64 index] w (NilPost w0 R) := by
  have h1 := h.newBlk (t := 39) (cs := #[.int .i64 0, .int .i64 0, .int .i64 0, .int .u64 0, .int .u64 0, .bool false])
  go_enter Try.func17, Try.ntmps17
  go_wp2_with fail
  refine (operate_nil w0 _ _ 1 cell index _ h1).mono ?_
  rintro e w1 ⟨rfl, h2⟩
  generalize hgr : w.heap.size = gr at h2 ⊢
  obtain ⟨⟨x0, x1, x2, x3, x4, x5⟩, z0, z1, z2, z3, z4, z5⟩ := blk_acc h2.blk
  have H3 := hid (h2.setAcc (.int .i64 0) (.int .i64 0) (.int .i64 0) (.int .u64 0) (.int .u64 0) (.bool false))
  unfold acc0
  clear h2 h1 h hgr
  go_wp2_with fail
  have h3 := H3.out
  generalize hW : World.setCell _ _ _ = W3 at h3 ⊢
  clear hW H3 x0 x1 x2 x3 x4 x5 z0 z1 z2 z3 z4 z5
  obtain ⟨⟨y0, y1, y2, y3, y4, y5⟩, _⟩ := blk_acc h3.blk
  exact bodyPost_ret (v := .tuple #[acc0.val, .int .i64 1]) (by simp [results, Try.results17, acc0, go_sem, y0, y1, y2, y3, y4, y5]) rfl ⟨rfl, h3.drop⟩
set_option maxHeartbeats 2000000 in
theorem nil_store (w0 w : World) (R : Asr) (cell index v : Int) (h : Hold w0 w R) :
    Calls Try.prog 19 #[.pointer none, .int .i64 cell, .int .i64 index, .int .u64 v] w (NilPost w0 R) := by
  have h1 := (h.newBlk (t := 33) (cs := #[.int .u64 v])).newBlk (t := 39) (cs := #[.int .i64 0, .int .i64 0, .int .i64 0, .int .u64 0, .int .u64 0, .bool false])
  simp only [World.size_alloc] at h1
  go_enter Try.func19, Try.ntmps19
  go_wp2_with fail
  refine (operate_nil w0 _ _ 2 cell index _ h1).mono ?_
  rintro e w1 ⟨rfl, h2⟩
  generalize hgr : w.heap.size + 1 = gr at h2 ⊢
  obtain ⟨⟨x0, x1, x2, x3, x4, x5⟩, z0, z1, z2, z3, z4, z5⟩ := blk_acc h2.blk
  have H3 := hid (h2.setAcc (.int .i64 0) (.int .i64 0) (.int .i64 0) (.int .u64 0) (.int .u64 0) (.bool false))
  unfold acc0
  clear h2 h1 h hgr
  go_wp2_with fail
  have h3 := H3.out
  generalize hW : World.setCell _ _ _ = W3 at h3 ⊢
  clear hW H3 x0 x1 x2 x3 x4 x5 z0 z1 z2 z3 z4 z5
  obtain ⟨⟨y0, y1, y2, y3, y4, y5⟩, _⟩ := blk_acc h3.blk
  exact bodyPost_ret (v := .tuple #[acc0.val, .int .i64 1]) (by simp [results, Try.results19, acc0, go_sem, y0, y1, y2, y3, y4, y5]) rfl ⟨rfl, h3.drop.drop⟩
set_option maxHeartbeats 2000000 in
theorem nil_swap (w0 w : World) (R : Asr) (cell index old v : Int) (h : Hold w0 w R) :
    Calls Try.prog 16 #[.pointer none, .int .i64 cell, .int .i64 index, .int .u64 old, .int .u64 v] w (NilPost w0 R) := by
  have h1 := ((h.newBlk (t := 33) (cs := #[.int .u64 old])).newBlk (t := 33) (cs := #[.int .u64 v])).newBlk (t := 39) (cs := #[.int .i64 0, .int .i64 0, .int .i64 0, .int .u64 0, .int .u64 0, .bool false])
  simp only [World.size_alloc, Nat.add_assoc, Nat.reduceAdd] at h1
  go_enter Try.func16, Try.ntmps16
  go_wp2_with fail
  refine (operate_nil w0 _ _ 3 cell index _ h1).mono ?_
  rintro e w1 ⟨rfl, h2⟩
  generalize hgr : w.heap.size + 2 = gr at h2 ⊢
  obtain ⟨⟨x0, x1, x2, x3, x4, x5⟩, z0, z1, z2, z3, z4, z5⟩ := blk_acc h2.blk
  have H3 := hid (h2.setAcc (.int .i64 0) (.int .i64 0) (.int .i64 0) (.int .u64 0) (.int .u64 0) (.bool false))
  unfold acc0
  clear h2 h1 h hgr
  go_wp2_with fail
  have h3 := H3.out
  generalize hW : World.setCell _ _ _ = W3 at h3 ⊢
  clear hW H3 x0 x1 x2 x3 x4 x5 z0 z1 z2 z3 z4 z5
  obtain ⟨⟨y0, y1, y2, y3, y4, y5⟩, _⟩ := blk_acc h3.blk
  exact bodyPost_ret (v := .tuple #[acc0.val, .int .i64 1]) (by simp [results, Try.results16, acc0, go_sem, y0, y1, y2, y3, y4, y5]) rfl ⟨rfl, h3.drop.drop.drop⟩
set_option maxHeartbeats 2000000 in
theorem nil_add (w0 w : World) (R : Asr) (cell index v : Int) (h : Hold w0 w R) :
    Calls Try.prog 25 #[.pointer none, .int .i64 cell, .int .i64 index, .int .u64 v] w (NilPost w0 R) := by
  have h1 := (h.newBlk (t := 33) (cs := #[.int .u64 v])).newBlk (t := 39) (cs := #[.int .i64 0, .int .i64 0, .int .i64 0, .int .u64 0, .int .u64 0, .bool false])
  simp only [World.size_alloc] at h1
  go_enter Try.func25, Try.ntmps25
  go_wp2_with fail
  refine (operate_nil w0 _ _ 4 cell index _ h1).mono ?_
  rintro e w1 ⟨rfl, h2⟩
  generalize hgr : w.heap.size + 1 = gr at h2 ⊢
  obtain ⟨⟨x0, x1, x2, x3, x4, x5⟩, z0, z1, z2, z3, z4, z5⟩ := blk_acc h2.blk
  have H3 := hid (h2.setAcc (.int .i64 0) (.int .i64 0) (.int .i64 0) (.int .u64 0) (.int .u64 0) (.bool false))
  unfold acc0
  clear h2 h1 h hgr
  go_wp2_with fail
  have h3 := H3.out
  generalize hW : World.setCell _ _ _ = W3 at h3 ⊢
  clear hW H3 x0 x1 x2 x3 x4 x5 z0 z1 z2 z3 z4 z5
  obtain ⟨⟨y0, y1, y2, y3, y4, y5⟩, _⟩ := blk_acc h3.blk
  exact bodyPost_ret (v := .tuple #[acc0.val, .int .i64 1]) (by simp [results, Try.results25, acc0, go_sem, y0, y1, y2, y3, y4, y5]) rfl ⟨rfl, h3.drop.drop⟩
theorem nil_image (w0 w : World) (R : Asr) (h : Hold w0 w R) :
    Calls Try.prog 24 #[.pointer none] w (BothPost w0 (.agg #[.slice none 0 0, .slice none 0 0, .int .u64 0, .int .u64 0, .int .u64 0, .slice none 0 0, .slice none 0 0, .slice none 0 0]) R) := by
  go_enter Try.func24, Try.ntmps24
  go_wp2_with fail
  exact bodyPost_ret (v := .agg #[.slice none 0 0, .slice none 0 0, .int .u64 0, .int .u64 0, .int .u64 0, .slice none 0 0, .slice none 0 0, .slice none 0 0]) (by simp [results, Try.results24, go_sem]) rfl ⟨rfl, h.alloc _⟩
theorem field_data8 (v0 v1 v2 v3 v4 v5 v6 v7 : Value) (w : World) : (Instr.field 35 (.agg #[v0, v1, v2, v3, v4, v5, v6, v7]) 0).run Try.prog w = .ok v0 w := by kernel_rfl
set_option maxRecDepth 8000 in
set_option maxHeartbeats 8000000 in
theorem cellsCopies_any (w : World) (c : Cfg) (l0 l1 l2 l3 l4 v : Int) (hcfg : ∀ w, Calls Try.prog 27 #[.int .i64 l0, .int .i64 l1, .int .i64 l2, .int .i64 l3, .int .i64 l4] w (fun e w' => e = .returned c.val ∧ Chg [] w w')) (hok : cfgErr c = 0) :
    Calls Try.prog 8 #[.agg #[.int .i64 l0, .int .i64 l1, .int .i64 l2, .int .i64 l3, .int .i64 l4], .int .u64 v] w (fun e w' => e = .returned (.bool true) ∧ Below w.heap.size w w') := by
  obtain ⟨iU, hiU, hzU0, hzU1, hzU2⟩ := info_parts info_u64
  obtain ⟨n, hn⟩ : ∃ n : Nat, c.words = n := ⟨c.words.toNat, by have := (cfgOk_of hok).w; omega⟩
  have n64 : 1 ≤ n ∧ n ≤ 64 := by have := (cfgOk_of hok).w; omega
  obtain ⟨b, hb⟩ : ∃ b, b = nbl c := ⟨_, rfl⟩
  have b64 : b ≤ 64 := by rw [hb]; exact nbl_le (cfgOk_of hok)
  have HC := hid hok
  have HF := hid hcfg
  have Hn := hid hn
  have Hb := hid hb
  have h0 := hid ((Hold.start w).alloc (.cells #[.int .i64 l0, .int .i64 l1, .int .i64 l2, .int .i64 l3, .int .i64 l4] 22))
  clear hok hcfg hn hb
  go_enter Try.func8, Try.ntmps8
  go_wp2_with fail
  refine (HF.out _).mono ?_
  rintro e u1 ⟨rfl, hc⟩
  have h1 := (h0.out.chg0 hc).newBlk (t := 32) (cs := c.cells)
  have q0 := h1.blk.some_ (i := 0) (u := .int .i64 n) (by rw [← Hn.out]; rfl)
  have H1 := hid h1
  clear h1 hc h0
  go_wp2_with (at_make; refine wpList_make_full _ rfl _ _ 23 rfl _ 33 iU (.int .u64 0) 1 Try.underlying23 hiU hzU0 hzU1 .i64 .i64 (n : Int) (n : Int) n rfl rfl rfl rfl (by rw [hzU2]; omega) (by unfold maxLen; omega) (Nat.le_refl _) ?_)
  intro u2 hown hgrow
  have h2 := H1.out.make (k := .u64) hown hgrow (by simp)
  obtain ⟨gi, hgi⟩ : ∃ gi, gi = u1.heap.size + 1 := ⟨_, rfl⟩
  rw [show (List.replicate n (0 : Int)) = zerosN n from rfl, ← hgi] at h2
  rw [← hgi]
  generalize u1.heap.size = gc at h2 ⊢
  clear hgi H1 hown hgrow q0
  obtain ⟨q0, q1, q2, q3, q4, q5, q6, q7, q8, q9, q10, q11, q12⟩ := blk_cfg h2.drop.blk
  go_wp2_with fail
  have hzl : (zerosN n).length = n := by simp [zerosN]
  have hN := cells_new w u2 _ c 2 (some ⟨gi, 0, none⟩) n _ (zerosN n) HC.out (by decide) (by decide) (by rw [hzl]; exact Hn.out.symm) h2 (fun w' h => by rw [hzl]; exact h.rowReads)
  rw [hzl] at hN
  refine hN.mono ?_
  clear hN hzl
  rintro e u3 ⟨g, rfl, h3⟩
  have hC0 := COk.newC (init := zerosN n) HC.out (th := 2) (by decide) (by rw [Hn.out]; simp [zerosN])
  obtain ⟨C, hC⟩ : ∃ C, C = newC c 2 (zerosN n) := ⟨_, rfl⟩
  have hC1 : C 1 = zerosN n ++ zerosN b := by rw [hC, Hb.out]; rfl
  have hC6 : C 6 = zerosN 2 := by rw [hC]; rfl
  rw [← hC] at h3 hC0
  have HK := hid (And.intro hC0 (And.intro hC1 hC6))
  clear h2 q0 q1 q2 q3 q4 q5 q6 q7 q8 q9 q10 q11 q12 hC0 hC hC1 hC6
  obtain ⟨_, hg, q1, q2, hs⟩ := h3.swap.setRow (k := 0) (by omega)
  obtain rfl : gi = _ := by injection hg with hg; injection hg
  have h4 := hs (.int .u64 (IntKind.u64.wrap (v + 1)))
  have q0 : (zerosN n |>.map (Value.int .u64))[0]? = some (.int .u64 0) := by
    obtain ⟨m, rfl⟩ : ∃ m, n = m + 1 := ⟨n - 1, by omega⟩
    simp [zerosN, List.replicate_succ]
  rw [q0] at q1
  have H4 := hid h4.swap
  clear h3 hs hg h4 q0
  go_wp2_with fail
  have h4 := H4.out
  generalize hW : World.setCell _ _ _ = W4 at h4 ⊢
  clear hW H4 q1 q2
  refine (image_any w W4 _ g C h4 HK.out.1).mono ?_
  rintro e u4 ⟨y, rfl, h5⟩
  have hl1 : (C 1).length = n + b := by rw [HK.out.2.1]; simp [zerosN]
  have hl6 : (C 6).length = 2 := by rw [HK.out.2.2]; simp [zerosN]
  have hp1 : 0 < (C 1).length := by omega
  have hp6 : 1 < (C 6).length := by omega
  have hne1 : (((C 1).length : Int) != wrap64 (c.words + (b : Int))) = false := by rw [IntWalk.wrap64_in _ ⟨by rw [Hn.out]; omega, by rw [Hn.out]; omega⟩, hl1, Hn.out]; simp
  have hne6 : (((C 6).length : Int) != 2) = false := by rw [hl6]; rfl
  have hle1 := HK.out.1.len 1
  have H6 := hid (h5.newBlk (t := 35) (cs := #[slV C y 1, slV C y 2, .int .u64 (w1 C 3), .int .u64 (w1 C 4), .int .u64 (w1 C 5), slV C y 6, slV C y 7, slV C y 8]))
  have HE := hid (And.intro hne1 hne6)
  clear h4 h5 hne1 hne6 hl1 hl6
  go_wp2_with fail
  have h6 := H6.out
  generalize hW : World.alloc _ _ = W6 at h6 ⊢
  generalize u4.heap.size = gm at h6 ⊢
  clear hW H6
  replace h6 := h6.drew
  refine wp_region_brk [] (by kernel_rfl) ?_
  refine wpAnyB_now (fun w' => Hold w w' (blkA 35 gm #[slV C y 1, slV C y 2, .int .u64 (w1 C 3), .int .u64 (w1 C 4), .int .u64 (w1 C 5), slV C y 6, slV C y 7, slV C y 8] * sepR (refL C y) (memA g C * (rowA 33 (.slice (some ⟨gi, 0, none⟩) n n) n (((zerosN n).map (Value.int .u64)).set 0 (.int .u64 (IntKind.u64.wrap (v + 1)))) * (blkA 32 gc c.cells * Asr.emp))))) (fun _ _ => trivial) _ _ _ _ ?_
  refine' wpAnyB_bulk [true, true, true, true, true, true] 154 (listed' := #[true, true, true, true, true, true, false, false, false, false, false, false, false, false, false]) rfl (by kernel_rfl) (by kernel_rfl) (by kernel_rfl) (by kernel_rfl) (by kernel_rfl) (by kernel_rfl) (by decide) (fun _ _ _ _ h => h) rfl h6 (fun wq hq => ?_) ?_; rotate_left 1
  · simp only [maskL]
    have hx := hq.drop.drop.drop.drop.drop.drop.drop.drop.blk
    have x0 := hq.blk.some_ (i := 0) rfl
    have x5 := hq.blk.some_ (i := 5) rfl
    obtain ⟨q0, q1, q2, q3, q4, q5, q6, q7, q8, q9, q10, q11, q12⟩ := blk_cfg hx
    obtain ⟨e1, e2⟩ := HE.out
    repeat (go_big_quiet_step (fail))
    exact wpQuiet_nil rfl
  refine wpAnyB_bar [false, false, false, false, false, false, true] (fuel := 8) (by rfl) (by rfl) (by kernel_rfl) (fun QB hQB hQX => ?_)
  simp only [maskL]
  go_wp2_with fail
  refine (rblocks_any _ c HC.out).mono ?_
  rintro e u5 ⟨rfl, hc⟩
  rw [← Hb.out]
  have h7 := h6.chg0 hc
  clear h6 hc
  go_wp2_with fail
  refine hQB.out _ _ h7 ?_
  clear hQB hQX QB
  refine' wpAnyB_bulk [false, false, false, false, false, false, false, true, true, true, true, true, true, true, true] 154 (listed' := #[true, true, true, true, true, true, true, true, true, true, true, true, true, true, true]) rfl (by kernel_rfl) (by kernel_rfl) (by kernel_rfl) (by kernel_rfl) (by kernel_rfl) (by kernel_rfl) (by decide) (fun _ _ _ _ h => h) rfl h7 (fun wq hq => ?_) ?_; rotate_left 1
  · simp only [maskL]
    have x0 := hq.blk.some_ (i := 0) rfl
    have x5 := hq.blk.some_ (i := 5) rfl
    obtain ⟨e1, e2⟩ := HE.out
    repeat (go_big_quiet_step (fail))
    exact wpQuiet_nil rfl
  refine wpAnyB_done (by kernel_rfl) ?_ _
  clear HE
  obtain ⟨g1, hg1, c1, f1, s1⟩ := h7.swap.setRow (k := 0) hp1
  have x0 := h7.blk.some_ (i := 0) (u := slV C y 1) rfl
  have hz1 : ((C 1).map (Value.int .u64))[0]? = some (.int .u64 0) := by
    rw [HK.out.2.1]
    obtain ⟨m, rfl⟩ : ∃ m, n = m + 1 := ⟨n - 1, by omega⟩
    simp [zerosN, List.replicate_succ]
  unfold slV at x0
  rw [hg1] at x0
  rw [hz1] at c1
  have H8 := hid (s1 (.int .u64 (IntKind.u64.wrap (v + 2)))).swap
  clear h7 hg1 s1 hz1
  go_upto_region 11 with fail
  have h8 := H8.out
  generalize hW : World.setCell _ _ _ = W8 at h8 ⊢
  clear hW H8 x0 c1 f1
  obtain ⟨g6, hg6, c6, f6, s6⟩ := h8.fourth.setRow (k := 1) hp6
  have x5 := h8.blk.some_ (i := 5) (u := slV C y 6) rfl
  have hz6 : ((C 6).map (Value.int .u64))[1]? = some (.int .u64 0) := by
    rw [HK.out.2.2]
    simp [zerosN, List.replicate_succ]
  unfold slV at x5
  rw [hg6] at x5
  rw [hz6] at c6
  have H9 := hid (s6 (.int .u64 (IntKind.u64.wrap (v + 3)))).drop.drop.drop.drop.drop.drop
  clear h8 hg6 s6 hz6
  go_wp2_with fail
  have h9 := H9.out
  generalize hW : World.setCell _ _ _ = W9 at h9 ⊢
  clear hW H9 x5 c6 f6
  have hA1 : opE C 1 0 = 0 ∧ opA C 1 1 0 (valC C 1 0) true = ⟨1, 1, 0, 0, 0, true⟩ := by
    have hg : getC C 1 = C 1 := getC_at (k := 1) (by decide) (by decide)
    have hh : hasC C 1 0 := ⟨by decide, by rw [hg]; omega⟩
    have hv : valC C 1 0 = 0 := by
      unfold valC
      rw [hg, HK.out.2.1]
      obtain ⟨m, rfl⟩ : ∃ m, n = m + 1 := ⟨n - 1, by omega⟩
      simp [zerosN, List.replicate_succ]
    exact ⟨if_pos hh, by rw [(op_yes hh _ _).1, hv]⟩
  have hA6 : opE C 6 1 = 0 ∧ opA C 1 6 1 (valC C 6 1) true = ⟨1, 6, 1, 0, 0, true⟩ := by
    have hg : getC C 6 = C 6 := getC_at (k := 6) (by decide) (by decide)
    have hh : hasC C 6 1 := ⟨by decide, by rw [hg]; omega⟩
    have hv : valC C 6 1 = 0 := by
      unfold valC
      rw [hg, HK.out.2.2]
      simp [zerosN, List.replicate_succ]
    exact ⟨if_pos hh, by rw [(op_yes hh _ _).1, hv]⟩
  have HA1 := hid hA1
  have HA6 := hid hA6
  clear hA1 hA6 hp1 hp6 hle1
  refine (mem_load w _ _ g C 1 0 h9 (by omega) HK.out.1.len).mono ?_
  rintro e v1 ⟨rfl, k1⟩
  rw [HA1.out.1, HA1.out.2]
  have K2 := hid (k1.newBlk (t := 39) (cs := #[.int .i64 1, .int .i64 1, .int .i64 0, .int .u64 0, .int .u64 0, .bool true]))
  clear h9 k1 HA1
  go_wp2_with fail
  have k2 := K2.out
  generalize hW : World.alloc _ _ = W10 at k2 ⊢
  generalize v1.heap.size = ga at k2 ⊢
  clear hW K2
  refine (mem_load w _ _ g C 6 1 k2.swap (by omega) HK.out.1.len).mono ?_
  rintro e v2 ⟨rfl, k3⟩
  rw [HA6.out.1, HA6.out.2]
  have K4 := hid (k3.swap.newBlk (t := 39) (cs := #[.int .i64 1, .int .i64 6, .int .i64 1, .int .u64 0, .int .u64 0, .bool true]))
  clear k2 k3 HA6
  go_wp2_with fail
  have k4 := K4.out
  generalize hW : World.alloc _ _ = W11 at k4 ⊢
  generalize v2.heap.size = gb at k4 ⊢
  clear hW K4
  refine (nil_load w _ _ 3 0 k4).mono ?_
  rintro e v3 ⟨rfl, k5⟩
  unfold acc0
  have K5 := hid (k5.alloc (.cells #[.int .i64 0, .int .i64 0, .int .i64 0, .int .u64 0, .int .u64 0, .bool false] 39))
  clear k4 k5
  go_wp2_with fail
  refine (nil_store w _ _ 3 0 v K5.out).mono ?_
  rintro e v4 ⟨rfl, k5⟩
  unfold acc0
  have K6 := hid (k5.alloc (.cells #[.int .i64 0, .int .i64 0, .int .i64 0, .int .u64 0, .int .u64 0, .bool false] 39))
  clear K5 k5
  go_wp2_with fail
  refine (nil_swap w _ _ 3 0 v v K6.out).mono ?_
  rintro e v5 ⟨rfl, k5⟩
  unfold acc0
  have K7 := hid (k5.alloc (.cells #[.int .i64 0, .int .i64 0, .int .i64 0, .int .u64 0, .int .u64 0, .bool false] 39))
  clear K6 k5
  go_wp2_with fail
  refine (nil_add w _ _ 3 0 v K7.out).mono ?_
  rintro e v6 ⟨rfl, k5⟩
  unfold acc0
  have K8 := hid (k5.alloc (.cells #[.int .i64 0, .int .i64 0, .int .i64 0, .int .u64 0, .int .u64 0, .bool false] 39))
  clear K7 k5
  go_wp2_with fail
  refine (nil_image w _ _ K8.out).mono ?_
  rintro e v7 ⟨rfl, k9⟩
  have fd := field_data8 (.slice none 0 0) (.slice none 0 0) (.int .u64 0) (.int .u64 0) (.int .u64 0) (.slice none 0 0) (.slice none 0 0) (.slice none 0 0) v7
  have x3 := k9.blk.some_ (i := 3) rfl
  have y3 := k9.drop.blk.some_ (i := 3) rfl
  have K9 := hid k9
  clear k9 K8
  go_wp2_with fail
  refine (awake_any w _ _ K9.out).mono ?_
  rintro e v8 ⟨rfl, k10⟩
  have K10 := hid k10.below
  clear k10 K9 x3 y3 fd
  go_wp2_with fail
  go_ret
  exact ⟨rfl, K10.out⟩
end Go.Proofs.Ytfmmphabfdpegaa
