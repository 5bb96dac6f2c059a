/- strongtxlaw17: NewStores, awake, WriterFollows. -/
import Derived.Test.YtddghhddafeojaaWr
import Derived.Test.YtddghhddafeojaaLa17
namespace Go.Proofs.Ytddghhddafeojaa
open Go.RowKit
set_option linter.unusedVariables false

theorem Imp.slTake (A : Option Addr) (n c k : Nat) (xs : List Value) (hk : k ≤ n) : Imp (slA A n c xs) (slA A k c (xs.take k)) := by
  rintro w fp ⟨h1, h2, b, h, rfl⟩
  refine ⟨_, ⟨by omega, h2, b, h.take hk, rfl⟩, fun y hy => ?_⟩
  by_cases hk0 : k = 0
  · rw [if_pos hk0] at hy; cases hy
  · rw [if_neg hk0] at hy; rw [if_neg (by omega)]; exact hy
set_option maxHeartbeats 2000000 in
theorem st_new (w0 w : World) (R : Asr) (A B : Option Addr) (cl : Int) (n c m d : Nat) (xs : List Int) (k : Nat) (hk : k = min n m) (h : Hold w0 w (slA A n c (xs.map (Value.int .i64)) * R)) (hc : n ≤ c) (hd : m ≤ d) (hn : n ≤ 1000) (hm : m ≤ 1000) :
    Calls Try.prog 19 #[.int .i64 cl, .slice A n c, .slice B m d] w fun e w' => ∃ g, e = .returned (.pointer (some ⟨g, 0, none⟩)) ∧ Hold w0 w' (stX g cl (xs.take k) B d 0 (A, c) * R) := by
  have lx : xs.length = n := by simpa using h.slLen
  have hk1 : k ≤ n ∧ k ≤ m := by omega
  have s1 := fun w => slice_headP (P := Try.prog) 22 (by kernel_rfl) sz_int w A n c k (by omega)
  have s2 := fun w => slice_headP (P := Try.prog) 23 (by kernel_rfl) sz_u64 w B m d k (by omega)
  have hl : (xs.take k).length = k := by simp; omega
  have h1 := h.imp (Imp.on _ (Imp.slTake A n c k _ hk1.1))
  rw [← List.map_take] at h1
  have h2 := (h1.newBlk (t := 42) (cs := #[.int .i64 cl, .slice A k c, .slice B k d, .int .i64 (0 : Nat)])).drew
  have h3 : Hold w0 _ (stX w.heap.size cl (xs.take k) B d 0 (A, c) * R) := Hold.join (by rw [hl]; exact h2)
  have H3 := hid h3
  clear h h1 h2 h3 lx hl
  rcases Nat.lt_or_ge m n with hnm | hnm
  · obtain rfl : m = k := by omega
    clear hk hk1
    go_enter Try.func19, Try.ntmps19
    go_wp2_with fail
    refine wp_region_brk [] (by kernel_rfl) ?_
    refine' wpAnyB_bulk [true, true, true, true, true, true, true, true] 22 (listed' := #[true, true, true, true, true, true, true, true, false, false]) rfl (by kernel_rfl) (by kernel_rfl) (by kernel_rfl) (by kernel_rfl) (by kernel_rfl) (by kernel_rfl) (by decide) (fun _ _ _ _ h => h) rfl trivial (fun wq hq => ?_) ?_; rotate_left 1
    · simp only [maskL]
      repeat (go_big_quiet_step (fail))
      exact wpQuiet_nil rfl
    refine wpAnyB_bar [false, false, false, false, false, false, false, false, true] (fuel := 1) (by rfl) (by rfl) (by kernel_rfl) (fun QB hQB hQX => ?_)
    simp only [maskL]
    go_wp2_with fail
    refine hQB.out _ _ trivial ?_
    clear hQB hQX QB
    refine' wpAnyB_bulk [false, false, false, false, false, false, false, false, false, true] 22 (listed' := #[true, true, true, true, true, true, true, true, true, true]) rfl (by kernel_rfl) (by kernel_rfl) (by kernel_rfl) (by kernel_rfl) (by kernel_rfl) (by kernel_rfl) (by decide) (fun _ _ _ _ h => h) rfl trivial (fun wq hq => ?_) ?_; rotate_left 1
    · simp only [maskL]
      repeat (go_big_quiet_step (fail))
      exact wpQuiet_nil rfl
    refine wpAnyB_done (by kernel_rfl) ?_ _
    clear s1 s2
    go_wp2_with fail
    go_ret
    exact ⟨_, rfl, H3.out⟩
  · obtain rfl : n = k := by omega
    clear hk hk1
    go_enter Try.func19, Try.ntmps19
    go_wp2_with fail
    refine wp_region_brk [] (by kernel_rfl) ?_
    refine' wpAnyB_bulk [true, true, true, true, true, true, true, true] 22 (listed' := #[true, true, true, true, true, true, true, true, false, false]) rfl (by kernel_rfl) (by kernel_rfl) (by kernel_rfl) (by kernel_rfl) (by kernel_rfl) (by kernel_rfl) (by decide) (fun _ _ _ _ h => h) rfl trivial (fun wq hq => ?_) ?_; rotate_left 1
    · simp only [maskL]
      repeat (go_big_quiet_step (fail))
      exact wpQuiet_nil rfl
    refine wpAnyB_bar [false, false, false, false, false, false, false, false, true] (fuel := 1) (by rfl) (by rfl) (by kernel_rfl) (fun QB hQB hQX => ?_)
    simp only [maskL]
    go_wp2_with fail
    refine hQB.out _ _ trivial ?_
    clear hQB hQX QB
    refine' wpAnyB_bulk [false, false, false, false, false, false, false, false, false, true] 22 (listed' := #[true, true, true, true, true, true, true, true, true, true]) rfl (by kernel_rfl) (by kernel_rfl) (by kernel_rfl) (by kernel_rfl) (by kernel_rfl) (by kernel_rfl) (by decide) (fun _ _ _ _ h => h) rfl trivial (fun wq hq => ?_) ?_; rotate_left 1
    · simp only [maskL]
      repeat (go_big_quiet_step (fail))
      exact wpQuiet_nil rfl
    refine wpAnyB_done (by kernel_rfl) ?_ _
    clear s1 s2
    go_wp2_with fail
    go_ret
    exact ⟨_, rfl, H3.out⟩
def ws0 : Nat → List Int := newC cf17 2 (initL 8)
def ws1 : Nat → List Int := opC ws0 1 3 7 true
def ws2 : Nat → List Int := opC ws1 1 1 8 true
theorem ws0_ok : COk ws0 := COk.newC cf17_ok (by decide) (by decide)
theorem ws1_ok : COk ws1 := ws0_ok.opC _ _ _ _
theorem ws2_ok : COk ws2 := ws1_ok.opC _ _ _ _
theorem ws_a0 : opA ws0 2 1 3 7 true = ⟨2, 1, 3, 31, 7, true⟩ := rfl
theorem ws_a1 : opA ws1 2 1 1 8 true = ⟨2, 1, 1, 11, 8, true⟩ := rfl
theorem ws_d : ws2 1 = [1, 8, 21, 7, 41, 51, 61, 71] := rfl
theorem field_data17 (v0 v1 v2 v3 v4 v5 v6 v7 : Value) (w : World) : (Instr.field 51 (.agg #[v0, v1, v2, v3, v4, v5, v6, v7]) 0).run Try.prog w = .ok v0 w := by kernel_rfl
set_option maxRecDepth 8000 in
set_option maxHeartbeats 4000000 in
theorem awake17_any (w0 w : World) (R : Asr) (h : Hold w0 w R) : Calls Try.prog 16 #[] w (BothPost w0 (.bool true) R) := by
  go_enter Try.func16, Try.ntmps16
  go_wp2_with fail
  refine (config17 w0 _ _ h).mono ?_
  rintro e v1 ⟨rfl, h1⟩
  clear h
  go_wp2_with fail
  refine (lab_start w0 _ _ cf17 2 cf17_ok (by decide) h1).mono ?_
  rintro e w2 ⟨m, r, rfl, h2⟩
  have h3 : Hold w0 w2 (memA m ws0 * (refA r cf17 ws0 * R)) := h2
  have h4 := ((h3.newBlk (t := 27) (cs := #[.pointer (some ⟨m, 0, none⟩), .pointer (some ⟨r, 0, none⟩)])).newBlk (t := 3) (cs := #[.int .i64 3, .int .i64 1])).newBlk (t := 43) (cs := #[.int .u64 7, .int .u64 8])
  simp only [World.size_alloc, Nat.add_assoc, Nat.reduceAdd] at h4
  have H4 := hid h4
  clear h1 h2 h3 h4
  go_wp2_with fail
  have h4 := H4.out
  generalize hW : World.alloc _ _ = W4 at h4 ⊢
  generalize w2.heap.size + 2 = gl at h4 ⊢
  generalize w2.heap.size + 1 = gk at h4 ⊢
  generalize w2.heap.size = gp at h4 ⊢
  clear hW H4
  refine (wr_new w0 _ _ _ _ 2 2 2 2 [3, 1] [7, 8] h4 (fun w' h' => ⟨_, h'.drop.blk.reads rfl rfl⟩) (fun w' h' => ⟨_, h'.blk.reads rfl rfl⟩) (by decide) (by decide) (by decide) (by decide) 2 rfl).mono ?_
  rintro e w3 ⟨g, rfl, h5⟩
  have h6 : Hold w0 w3 (wrA g [3, 1] [7, 8] * (memA m ws0 * (refA r cf17 ws0 * (prA gp m r * R)))) := h5.pk6 [0, 4, 5, 3]
  clear h4 h5
  go_wp2_with fail
  refine (wr_left w0 _ _ g [3, 1] [7, 8] h6).mono ?_
  rintro e w' ⟨rfl, rfl⟩
  rw [show (([3, 1] : List Int).length : Int) = 2 from rfl]
  have p0 := h6.drop.drop.drop.blk.some_ (i := 0) rfl
  go_wp2_with fail
  refine (wr_step w0 _ _ g m ws0 3 7 [1] [8] h6 ws0_ok (by decide)).mono ?_
  rintro e w4 ⟨rfl, h7⟩
  rw [ws_a0]
  have h8 : Hold w0 w4 (wrA g [1] [8] * (memA m ws1 * (refA r cf17 ws0 * (prA gp m r * R)))) := h7
  have h9 := h8.newBlk (t := 45) (cs := #[.int .i64 2, .int .i64 1, .int .i64 3, .int .u64 31, .int .u64 7, .bool true])
  have H9 := hid h9
  clear h6 h7 h8 h9 p0
  go_wp2_with fail
  have h9 := H9.out
  generalize hW : World.alloc _ _ = W9 at h9 ⊢
  generalize w4.heap.size = ga at h9 ⊢
  clear hW H9
  refine (wr_done w0 _ _ g [1] [8] h9.swap).mono ?_
  rintro e w' ⟨rfl, rfl⟩
  rw [show ([1] : List Int).isEmpty = false from rfl]
  have p0 := h9.drop.drop.drop.drop.blk.some_ (i := 0) rfl
  go_wp2_with fail
  refine (wr_step w0 _ _ g m ws1 1 8 [] [] (h9.pk3 [1, 2, 0]) ws1_ok (by decide)).mono ?_
  rintro e w5 ⟨rfl, h10⟩
  have h11 : Hold w0 w5 (memA m ws2 * (wrA g [] [] * (blkA 45 ga #[.int .i64 2, .int .i64 1, .int .i64 3, .int .u64 31, .int .u64 7, .bool true] * (refA r cf17 ws0 * (prA gp m r * R))))) := h10.pk3 [1, 0, 2]
  clear h9 h10 p0
  have p0 := h11.drop.drop.drop.drop.blk.some_ (i := 0) rfl
  go_wp2_with fail
  refine (image_any w0 _ _ m ws2 h11 ws2_ok).mono ?_
  rintro e w6 ⟨y, rfl, h12⟩
  have fd := field_data17 (slV ws2 y 1) (slV ws2 y 2) (.int .u64 (w1 ws2 3)) (.int .u64 (w1 ws2 4)) (.int .u64 (w1 ws2 5)) (slV ws2 y 6) (slV ws2 y 7) (slV ws2 y 8) w6
  obtain ⟨gd, hgd, c3, _, _⟩ := set_at (zs := ws2 1) (k := .u64) (A := y.A 1) (cp := y.c 1) (n := (ws2 1).length) (e := 43) h12 (i := 3) (by decide)
  obtain ⟨gd', hgd', c1, _, _⟩ := set_at (zs := ws2 1) (k := .u64) (A := y.A 1) (cp := y.c 1) (n := (ws2 1).length) (e := 43) h12 (i := 1) (by decide)
  obtain rfl : gd' = gd := by rw [hgd] at hgd'; injection hgd' with h; injection h with h; exact h.symm
  have c3' : w6.cell? ⟨gd', 3, none⟩ = some (.int .u64 7) := c3
  have c1' : w6.cell? ⟨gd', 1, none⟩ = some (.int .u64 8) := c1
  unfold imgV
  have hs1 : slV ws2 y 1 = .slice (some ⟨gd', 0, none⟩) 8 (y.c 1) := by unfold slV; rw [hgd]; rfl
  rw [hs1] at fd ⊢
  have h13 : Hold w0 w6 (memA m ws2 * (wrA g [] [] * (blkA 45 ga #[.int .i64 2, .int .i64 1, .int .i64 3, .int .u64 31, .int .u64 7, .bool true] * (refA r cf17 ws0 * (prA gp m r * R))))) := h12.rest
  clear h11 h12 hgd hgd' c3 c1 hs1 p0
  go_wp2_with fail
  refine (wr_done w0 _ _ g [] [] h13.swap).mono ?_
  rintro e w' ⟨rfl, rfl⟩
  rw [show ([] : List Int).isEmpty = true from rfl]
  go_wp2_with fail
  refine (wr_left w0 _ _ g [] [] h13.swap).mono ?_
  rintro e w' ⟨rfl, rfl⟩
  rw [show (([] : List Int).length : Int) = 0 from rfl]
  obtain ⟨⟨x0, x1, x2, x3, x4, x5⟩, _⟩ := blk_acc h13.drop.drop.blk
  have H14 := hid (h13.pk5 [])
  clear h13
  go_wp2_with fail
  go_ret
  exact ⟨rfl, H14.out⟩
end Go.Proofs.Ytddghhddafeojaa
