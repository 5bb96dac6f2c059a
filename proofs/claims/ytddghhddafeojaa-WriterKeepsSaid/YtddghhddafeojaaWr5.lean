/- WriterKeeps. -/
import Derived.Test.YtddghhddafeojaaWr3
import Derived.Test.YtddghhddafeojaaWalk17a
namespace Go.Proofs.Ytddghhddafeojaa
open Go.RowKit
set_option linter.unusedVariables false

def fillL (M : Nat) (v : Int) (i : Nat) : List Int := (List.range M).map fun t => if t < i then v else 0
theorem fillL_zero (M : Nat) (v : Int) : List.replicate M (0 : Int) = fillL M v 0 := by
  unfold fillL
  symm
  rw [List.eq_replicate_iff]
  refine ⟨by simp, fun b hb => ?_⟩
  obtain ⟨t, ht, rfl⟩ := List.mem_map.1 hb
  rw [if_neg (by omega)]
theorem fillL_set (M : Nat) (v : Int) {i : Nat} (hi : i < M) : (fillL M v i).set i v = fillL M v (i + 1) :=
  map_range_set _ _ _ hi (by simp) fun t _ ht => by
    by_cases h : t < i
    · simp [h, show t < i + 1 by omega]
    · simp [h, show ¬ t < i + 1 by omega]
theorem fillL_all (M : Nat) (v : Int) : fillL M v M = List.replicate M v := by
  unfold fillL
  rw [List.eq_replicate_iff]
  refine ⟨by simp, fun b hb => ?_⟩
  obtain ⟨t, ht, rfl⟩ := List.mem_map.1 hb
  rw [if_pos (List.mem_range.1 ht)]
set_option maxRecDepth 8000 in
set_option maxHeartbeats 8000000 in
theorem writerKeeps_any (w : World) (A0 : Option Addr) (n0 c0 b0 : Nat) (x0 : List Int) (v : Int)
    (hA0 : Reads w b0 A0 n0 (x0.map (Value.int .i64))) (l0 : n0 ≤ 9223372036854775807) :
    Calls Try.prog 5 #[.slice A0 n0 c0, .int .u64 v] w (fun e w' => e = .returned (.bool true) ∧ Below w.heap.size w w') := by
  obtain ⟨iU, hiU, hzU0, hzU1, hzU2⟩ := info_parts info_int
  obtain ⟨iV, hiV, hzV0, hzV1, hzV2⟩ := info_parts info_u64
  have H0 := hid hA0
  clear hA0
  go_enter Try.func5, Try.ntmps5
  go_wp2_with fail
  refine (config17 w _ _ (Hold.start w)).mono ?_
  rintro e v1 ⟨rfl, h1⟩
  go_wp2_with fail
  refine (lab_start w _ _ cf17 2 cf17_ok (by decide) h1).mono ?_
  rintro e w2 ⟨m, r, rfl, h2⟩
  have h3 : Hold w _ (prA w2.heap.size m r * (memA m ws0 * (refA r cf17 ws0 * Asr.emp))) := h2.newBlk (t := 27) (cs := #[.pointer (some ⟨m, 0, none⟩), .pointer (some ⟨r, 0, none⟩)])
  have H4 := hid h3
  clear h1 h2 h3
  go_wp2_with fail
  have h4 := H4.out
  generalize hW : World.alloc _ _ = W at h4 ⊢
  generalize w2.heap.size = gp at h4 ⊢
  clear hW H4
  refine (addrs_any w _ _ A0 n0 c0 _ x0 h4 H0.out l0).mono ?_
  rintro e w6 ⟨A6, c6, rfl, h6⟩
  obtain ⟨xs, hxs⟩ : ∃ xs, xs = lst17 (x0.take (min n0 12)) := ⟨_, rfl⟩
  have hxl : xs.length = min n0 12 := by
    rw [hxs]; have := H0.out.len; simp [lst17] at this ⊢; omega
  have hxe := lst17_lt (x0.take (min n0 12))
  rw [← hxs] at h6 hxe
  have HXS := hid hxs
  obtain ⟨N, hN⟩ : ∃ N, N = min n0 12 := ⟨_, rfl⟩
  have HN := hid hN
  rw [← hN] at h6 hxl ⊢
  have hN12 : N ≤ 12 := by omega
  obtain ⟨D, hD⟩ : ∃ D, D = xs.map (Value.int .i64) := ⟨_, rfl⟩
  rw [← hD] at h6
  have HD := hid hD
  clear hxs h4 hN hD
  go_wp2_with (at_builtin; refine wpList_append1 rfl _ _ 22 rfl 3 iU (.int .i64 0) 8 Try.underlying22 hiU hzU0 hzU1 hzU2 rfl (.slice A6 N c6) N D (.int .i64 5) _ rfl h6.row rfl rfl (by omega) (by decide) ?_)
  intro A7 c7 W7 ho hc hs
  have h7 := h6.grow ho hc hs
  obtain ⟨M, hM⟩ : ∃ M, M = N + 1 := ⟨_, rfl⟩
  rw [← hM] at h7 ⊢
  have hxM : (xs ++ [5]).length = M := by simp; omega
  have hM1 : 1 ≤ M ∧ M ≤ 13 := by omega
  rw [HD.out, show xs.map (Value.int .i64) ++ [.int .i64 5] = (xs ++ [5]).map (Value.int .i64) by simp] at h7
  obtain ⟨ys, hys⟩ : ∃ ys, ys = xs ++ [5] := ⟨_, rfl⟩
  rw [← hys] at h7 hxM
  have hye : ∀ y ∈ ys, 0 ≤ y ∧ y < 8 := fun y hy => by
    rw [hys] at hy
    rcases List.mem_append.1 hy with h | h
    · exact hxe y h
    · simp at h; omega
  have HY := hid (And.intro hys (And.intro hxM hye))
  have HM := hid hM
  have H7 := hid h7
  clear h6 h7 ho hc hs hxl hxe hM hys hxM hye HD
  go_wp2_with (at_make; refine wpList_make_full _ rfl _ _ 23 rfl _ 43 iV (.int .u64 0) 1 Try.underlying23 hiV hzV0 hzV1 .i64 .i64 (M : Int) (M : Int) M rfl rfl rfl rfl (by rw [hzV2]; omega) (by unfold maxLen; omega) (Nat.le_refl _) ?_)
  intro w8 hown hgrow
  have h8 := H7.out.make (k := .u64) hown hgrow (Nat.le_refl _)
  rw [fillL_zero M v] at h8
  generalize W7.heap.size = gv at h8 ⊢
  have H8 := hid h8
  clear hown hgrow h8 H7
  go_wp2_with fail
  go_loopw [9] (fun s wr => ∃ i : Nat, i ≤ M ∧ s = .int .i64 i ∧ Hold w wr (rowA 43 (.slice (some ⟨gv, 0, none⟩) M M) M ((fillL M v i).map (Value.int .u64)) * (rowA 3 (.slice A7 M c7) M (ys.map (Value.int .i64)) * (prA gp m r * (memA m ws0 * (refA r cf17 ws0 * Asr.emp)))))) (fun s _ => M - (intOf s).toNat)
  case atStart => exact ⟨0, by omega, rfl, H8.out⟩
  case round =>
    clear H8
    obtain ⟨i, hi, rfl, h8⟩ := hrel
    by_cases hlt : i < M
    · have e1 : decide ((i : Int) < (M : Int)) = true := decide_eq_true (by omega)
      obtain ⟨gv', hgv, hcv, hfv, hsv⟩ := h8.setRow hlt
      injection hgv with hgv
      injection hgv with hgv
      subst hgv
      have hcv2 : wr.cell? ⟨gv, i, none⟩ = some (.int .u64 ((fillL M v i).getD i 0)) := by
        have hl : i < (fillL M v i).length := by simp [fillL]; exact hlt
        rw [hcv, List.getElem?_map, List.getElem?_eq_getElem hl, getD_at hl]; rfl
      generalize (fillL M v i).getD i 0 = old at hcv2
      have hset := hsv (.int .u64 v)
      rw [← List.map_set, fillL_set M v hlt] at hset
      have HS := hid hset
      have i0 : (0 : Int) ≤ (i : Int) := by omega
      clear hcv hsv hset h8
      go_wp2_with fail
      go_round
      case rel => exact ⟨i + 1, by omega, by go_num, HS.out⟩
      case measure => simp [intOf]; omega
    · obtain rfl : i = M := by omega
      have e1 : decide ((i : Int) < (i : Int)) = false := by simp
      rw [fillL_all] at h8
      have hrl : (List.replicate i v).length = i := by simp
      have e2 : decide (i < i) = false := by simp
      go_wp2_with fail
      refine (wr_new w _ _ A7 _ i c7 i i ys (List.replicate i v) h8 (fun w' h' => ⟨_, h'.drop.rowReads⟩) (fun w' h' => ⟨_, h'.rowReads⟩) (by omega) (by omega) (by have := (h8.swap.imp (Imp.on _ (Imp.rowSl _ _ _ _ _))).sl; exact this.1) (Nat.le_refl _) i (by omega)).mono ?_
      rintro e w9 ⟨a, rfl, h9⟩
      rw [List.take_of_length_le (by rw [HY.out.2.1]; omega), List.take_of_length_le (by rw [hrl]; omega)] at h9
      clear h8
      go_wp2_with fail
      refine (wr_new w _ _ none _ 0 0 i i [] (List.replicate i v) h9 (fun w' h' => ⟨0, Reads.nil _ _⟩) (fun w' h' => ⟨_, h'.drop.rowReads⟩) (by omega) (by omega) (Nat.le_refl _) (Nat.le_refl _) 0 (by omega)).mono ?_
      rintro e w10 ⟨nn, rfl, h10⟩
      obtain ⟨z, hz⟩ : ∃ z, z = ys.getD 0 0 := ⟨_, rfl⟩
      have hyl := HY.out.2.1
      have hy0 : 0 < ys.length := by omega
      have hzr := HY.out.2.2 z (by rw [hz]; exact getD_mem hy0)
      obtain ⟨zs, hzs⟩ : ∃ zs, ys = z :: zs := ⟨ys.drop 1, by rw [hz, getD_at hy0]; have := List.drop_eq_getElem_cons hy0; simpa using this⟩
      obtain ⟨xs2, hxs2⟩ : ∃ xs2, List.replicate i v = v :: xs2 := ⟨List.replicate (i - 1) v, by rw [← List.replicate_succ]; congr 1; omega⟩
      have h11 : Hold w w10 (rowA 3 (.slice A7 i c7) i (ys.map (Value.int .i64)) * (rowA 43 (.slice (some ⟨gv, 0, none⟩) i i) i ((List.replicate i v).map (Value.int .u64)) * (wrA a ys (List.replicate i v) * (wrA nn [] [] * (prA gp m r * (memA m ws0 * (refA r cf17 ws0 * Asr.emp))))))) := h10.pk7 [3, 2, 1, 0, 4, 5, 6]
      obtain ⟨gl, hgl, hcl, hfl, hsl⟩ := h11.setRow (k := 0) (by omega)
      subst hgl
      obtain ⟨gv', hgv, hcv, hfv, _⟩ := h11.swap.setRow (k := 0) (by omega)
      injection hgv with hgv
      injection hgv with hgv
      subst hgv
      rw [hzs] at hcl
      have hcl2 : w10.cell? ⟨gl, 0, none⟩ = some (.int .i64 z) := hcl
      rw [hxs2] at hcv
      have hcv2 : w10.cell? ⟨gv, 0, none⟩ = some (.int .u64 v) := hcv
      have h12 := (hsl (.int .i64 (z + 1))).swap
      obtain ⟨gv', hgv, _, _, hsv⟩ := h12.setRow (k := 0) (by omega)
      injection hgv with hgv
      injection hgv with hgv
      subst hgv
      have H13 := hid (hsv (.int .u64 (IntKind.u64.wrap (v + 1)))).drop.drop
      obtain ⟨ff, fg, ⟨_, hff⟩, ⟨_, hfg⟩, hap⟩ := h11.apart
      have hne : gl ≠ gv := by
        rintro rfl
        subst hff hfg
        exact hap gl (by simp [fpV_some]) (by simp [fpV_some])
      have hZ := hid (And.intro hz (And.intro hzs hxs2))
      have hi0 : (0 : Int) < (i : Int) := by omega
      have hi1 : 0 < i := by omega
      clear h9 h10 h11 h12 hsl hsv hcl hcv hap hff hfg hz hzs hxs2 hrl hyl hy0
      go_upto_region 14 with fail
      have h13 := H13.out
      generalize hW : World.setCell _ _ _ = W13 at h13 ⊢
      clear hW H13 hcl2 hcv2 hfl hfv hne
      rw [hZ.out.2.1, hZ.out.2.2] at h13
      have p0 := (h13.pk3 [2, 0, 1]).blk.some_ (i := 0) rfl
      have hga : opA ws0 2 1 z v true = ⟨2, 1, z, valC ws0 1 z, v, true⟩ := (op_yes (C := ws0) (cell := 1) (index := z) ⟨hzr.1, by
        rw [show getC ws0 1 = ws0 1 from getC_at (k := 1) (by decide) (by decide), show (ws0 1).length = 8 from rfl]; omega⟩ 2 v).1
      have HGA := hid hga
      clear hga
      go_wp2_with fail
      refine (wr_step w _ _ a m ws0 z v zs xs2 (h13.pk4 [0, 3, 1, 2]) ws0_ok (by omega)).mono ?_
      rintro e w14 ⟨rfl, h14⟩
      rw [HGA.out]
      generalize opC ws0 1 z v true = C1 at h14
      generalize valC ws0 1 z = vz
      have h15 : Hold w w14 (blkA 27 gp #[.pointer (some ⟨m, 0, none⟩), .pointer (some ⟨r, 0, none⟩)] * (wrA nn [] [] * (memA m C1 * (refA r cf17 ws0 * Asr.emp)))) := h14.pk5 [3, 2, 1, 4]
      have h16 := h15.newBlk (t := 45) (cs := #[.int .i64 2, .int .i64 1, .int .i64 z, .int .u64 vz, .int .u64 v, .bool true])
      have H16 := hid h16
      clear h13 h14 h15 h16 p0 HGA
      go_wp2_with fail
      have h16 := H16.out
      generalize hW : World.alloc _ _ = W16 at h16 ⊢
      generalize w14.heap.size = gacc at h16 ⊢
      clear hW H16
      refine (addrs_any w _ _ A0 n0 c0 _ x0 h16 H0.out l0).mono ?_
      rintro e w17 ⟨A8, c8, rfl, h17⟩
      rw [← HXS.out, ← HN.out] at h17
      rw [← HN.out]
      obtain ⟨D2, hD2⟩ : ∃ D2, D2 = xs.map (Value.int .i64) := ⟨_, rfl⟩
      rw [← hD2] at h17
      have HD2 := hid hD2
      clear hD2 h16
      go_wp2_with (at_builtin; refine wpList_append1 rfl _ _ 22 rfl 3 iU (.int .i64 0) 8 Try.underlying22 hiU hzU0 hzU1 hzU2 rfl (.slice A8 N c8) N D2 (.int .i64 5) _ rfl h17.row rfl rfl (by omega) (by decide) ?_)
      intro A9 c9 W9 ho hc hs
      have h18 := h17.grow ho hc hs
      rw [HD2.out, show xs.map (Value.int .i64) ++ [.int .i64 5] = (xs ++ [5]).map (Value.int .i64) by simp, ← HY.out.1, ← HM.out] at h18
      rw [← HM.out]
      obtain ⟨g9, hg9, hc9, _, _⟩ := h18.setRow (k := 0) (by omega)
      subst hg9
      rw [hZ.out.2.1] at hc9
      have hc92 : W9.cell? ⟨g9, 0, none⟩ = some (.int .i64 z) := hc9
      have h19 : Hold w W9 (blkA 45 gacc #[.int .i64 2, .int .i64 1, .int .i64 z, .int .u64 vz, .int .u64 v, .bool true] * (wrA nn [] [] * (prA gp m r * (memA m C1 * (refA r cf17 ws0 * Asr.emp))))) := h18.pk6 [1, 3, 2, 4, 5]
      obtain ⟨⟨y0, y1, y2, y3, y4, y5⟩, _⟩ := blk_acc h19.blk
      clear h17 h18 ho hc hs hc9 HD2
      go_wp2_with fail
      refine (wr_done w _ _ nn [] [] h19.swap).mono ?_
      rintro e w' ⟨rfl, rfl⟩
      rw [show ([] : List Int).isEmpty = true from rfl]
      have p0 := h19.drop.drop.blk.some_ (i := 0) rfl
      go_wp2_with fail
      refine (wr_step_done w _ _ nn _ [] h19.swap).mono ?_
      rintro e w20 ⟨rfl, h20⟩
      unfold acc0
      clear h19 p0 y0 y1 y2 y3 y4 y5 hc92
      go_wp2_with fail
      refine (awake17_any w _ _ h20).mono ?_
      rintro e w21 ⟨rfl, h21⟩
      have H21 := hid h21.below
      clear h20 h21
      go_wp2_with fail
      go_ret
      exact ⟨rfl, H21.out⟩
end Go.Proofs.Ytddghhddafeojaa
