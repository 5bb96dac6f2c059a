/- CellsFollow: the walk. -/
import Derived.Test.YtfmmphabfdpegaaCounts
import Derived.Test.YtfmmphabfdpegaaDoes
import Derived.Test.YtfmmphabfdpegaaArg2
import Derived.Deep.DeepCutAuto
namespace Go.Proofs.Ytfmmphabfdpegaa
open Go.RowKit
set_option linter.unusedVariables false

theorem wf_i64 {x : Int} (h : (Lit.int .i64 x).wf = true) : -9223372036854775808 ≤ x ∧ x ≤ 9223372036854775807 := by
  simp [Lit.wf, IntKind.min, IntKind.max, IntKind.signed, IntKind.bits] at h; omega
theorem wf_u64 {x : Int} (h : (Lit.int .u64 x).wf = true) : 0 ≤ x ∧ x < 18446744073709551616 := by
  simp [Lit.wf, IntKind.min, IntKind.max, IntKind.signed, IntKind.bits] at h; omega
theorem cell_nth {w : World} {a : Addr} {n j : Nat} {v : Value} (h : w.cell? (a.add (n + (j + 1))) = some v) : w.cell? ⟨(a.add n).block, (a.add n).off + (j + 1), none⟩ = some v := by
  rw [← add_of_add] at h
  exact h
theorem blk_op_free {w : World} {g : Nat} {t : TypeId} {a b c d e : Value} (h : Blk w g t #[a, b, c, d, e]) : w.frozen? ⟨g, 0, none⟩ = false ∧ w.frozen? ⟨g, 1, none⟩ = false ∧ w.frozen? ⟨g, 2, none⟩ = false ∧ w.frozen? ⟨g, 3, none⟩ = false ∧ w.frozen? ⟨g, 4, none⟩ = false := ⟨h.frozen 0, h.frozen 1, h.frozen 2, h.frozen 3, h.frozen 4⟩
def Adj (w : World) (gx g r : Nat) (c : Cfg) (C : Nat → List Int) (kind v : Int) (wx : World) : Prop :=
  ∃ cell index old : Int, (-9223372036854775808 ≤ index ∧ index ≤ 9223372036854775807) ∧ Hold w wx (blkA 46 gx #[.int .i64 kind, .int .i64 cell, .int .i64 index, .int .u64 old, .int .u64 v] * (memA g C * (refA r c C * Asr.emp)))
set_option maxRecDepth 8000 in
set_option maxHeartbeats 4000000 in
theorem cellsFollow_any (w : World) (c : Cfg) (l0 l1 l2 l3 l4 th : Int) (A : Option Addr) (n cap : Nat) (fit : Bool) (hcfg : ∀ w, Calls Try.prog 27 #[.int .i64 l0, .int .i64 l1, .int .i64 l2, .int .i64 l3, .int .i64 l4] w (fun e w' => e = .returned c.val ∧ Chg [] w w')) (hok : cfgErr c = 0)
    (hA : IsStructs [.int .i64, .int .i64, .int .i64, .int .u64, .int .u64] w A n cap) (hn : n ≤ 9223372036854775807) :
    Calls Try.prog 7 #[.agg #[.int .i64 l0, .int .i64 l1, .int .i64 l2, .int .i64 l3, .int .i64 l4], .int .i64 th, .slice A n cap, .bool fit] w (fun e w' => e = .returned (.bool true) ∧ Below w.heap.size w w') := by
  have HC := hid hok
  have HF := hid hcfg
  have HA := hid hA
  clear hok hcfg hA
  by_cases h60 : 40 < n
  · have e1 : decide (40 < (n : Int)) = true := decide_eq_true (by omega)
    have h0 := hid ((Hold.start w).alloc (.cells #[.int .i64 l0, .int .i64 l1, .int .i64 l2, .int .i64 l3, .int .i64 l4] 22))
    go_enter Try.func7, Try.ntmps7
    go_wp2_with fail
    refine (awake_any w _ Asr.emp h0.out).mono ?_
    rintro e w1 ⟨rfl, h1⟩
    have H1 := hid h1
    clear h1
    go_wp2_with fail
    go_ret
    exact ⟨rfl, H1.out.below⟩
  · have e1 : decide (40 < (n : Int)) = false := decide_eq_false (by omega)
    have h0 := hid ((Hold.start w).alloc (.cells #[.int .i64 l0, .int .i64 l1, .int .i64 l2, .int .i64 l3, .int .i64 l4] 22))
    go_enter Try.func7, Try.ntmps7
    go_wp2_with fail
    refine (start_gen w _ Asr.emp c l0 l1 l2 l3 l4 th HF.out HC.out h0.out).mono ?_
    rintro e u1 ⟨g, r, rfl, h1⟩
    clear h0
    have hC0 := COk.newC (init := initL c.words.toNat) HC.out (th := 1 + (place th 4).toNat) (by have := place_lt th 4 (by omega); omega) (by rw [initL_len]; have := (cfgOk_of HC.out).w; omega)
    generalize newC c (1 + (place th 4).toNat) (initL c.words.toNat) = C0 at h1 hC0
    have H0 := hid (And.intro hC0 h1)
    clear hC0 h1
    go_wp2_with fail
    go_loopw [12] (fun i wr => ∃ (k : Nat) (C : Nat → List Int), k ≤ n ∧ i = .int .i64 k ∧ COk C ∧ Hold w wr (memA g C * (refA r c C * Asr.emp))) (fun i _ => n - (intOf i).toNat)
    case atStart => exact ⟨0, C0, by omega, rfl, H0.out.1, H0.out.2⟩
    case round =>
      clear H0 e1
      obtain ⟨k, C, hk, rfl, hC, h2⟩ := hrel
      have HK := hid hC
      clear hC
      by_cases hlt : k < n
      · have e1 : decide ((k : Int) < n) = true := decide_eq_true (by omega)
        obtain ⟨x, rfl, hc⟩ := HA.out.at_ h2.below hlt
        obtain ⟨_, d0, kind, rfl, wf0⟩ := hc 0 _ rfl
        obtain ⟨_, d1, cell, rfl, wf1⟩ := hc 1 _ rfl
        obtain ⟨_, d2, index, rfl, wf2⟩ := hc 2 _ rfl
        obtain ⟨_, d3, old, rfl, wf3⟩ := hc 3 _ rfl
        obtain ⟨_, d4, v, rfl, wf4⟩ := hc 4 _ rfl
        have d0' : wr.cell? (x.add (k * 5)) = some (.int .i64 kind) := d0
        have d1' : wr.cell? ⟨(x.add (k * 5)).block, (x.add (k * 5)).off + 1, none⟩ = some (.int .i64 cell) := cell_nth (j := 0) d1
        have d2' : wr.cell? ⟨(x.add (k * 5)).block, (x.add (k * 5)).off + 2, none⟩ = some (.int .i64 index) := cell_nth (j := 1) d2
        have d3' : wr.cell? ⟨(x.add (k * 5)).block, (x.add (k * 5)).off + 3, none⟩ = some (.int .u64 old) := cell_nth (j := 2) d3
        have d4' : wr.cell? ⟨(x.add (k * 5)).block, (x.add (k * 5)).off + 4, none⟩ = some (.int .u64 v) := cell_nth (j := 3) d4
        have hwx := wf_i64 wf2
        have ho3 := wf_u64 wf3
        have h3 := h2.newBlk (t := 46) (cs := #[.int .i64 kind, .int .i64 cell, .int .i64 index, .int .u64 old, .int .u64 v])
        have H3 := hid h3
        clear hc d0 d1 d2 d3 d4 wf0 wf1 wf2 wf3 wf4 h2 h3
        go_upto_region 10 with fail
        have h3 := H3.out
        generalize hW : World.alloc _ _ = W at h3 ⊢
        generalize wr.heap.size = gx at h3 ⊢
        clear hW H3
        have H3 := hid h3
        clear h3 d0' d1' d2' d3' d4'
        go_cut [12, 42] (fun s t wx => s = .int .i64 k ∧ ∃ b : Bool, t = .bool b ∧ Hold w wx (blkA 46 gx #[.int .i64 kind, .int .i64 cell, .int .i64 index, .int .u64 old, .int .u64 v] * (memA g C * (refA r c C * Asr.emp))))
        case first =>
          cases fit
          · go_wp2_with fail
            go_meet
            exact ⟨rfl, _, rfl, H3.out⟩
          · go_wp2_with fail
            go_meet
            exact ⟨rfl, _, rfl, H3.out⟩
        case rest =>
        clear H3
        obtain ⟨rfl, b, rfl, h3⟩ := hcut
        go_upto_if 42 with fail
        go_cut [12] (fun s wx => s = .int .i64 k ∧ Adj w gx g r c C kind v wx)
        case first =>
          cases b
          · go_wp2_with fail
            go_meet
            exact ⟨rfl, cell, index, old, hwx, h3⟩
          · obtain ⟨⟨q0, q1, q2, q3, q4⟩, z0, z1, z2, z3, z4⟩ := And.intro (blk_op h3.blk) (blk_op_free h3.blk)
            obtain ⟨cl, hcl⟩ : ∃ cl, cl = place cell 8 := ⟨_, rfl⟩
            have Hcl := hid hcl
            have cl0 := place_nonneg cell 8 (by omega)
            have cl1 := place_lt cell 8 (by omega)
            rw [← hcl] at cl0 cl1
            clear hcl
            go_wp2_with fail
            refine (place_any _ _ _ (by omega) (by omega)).mono ?_
            rintro e w' ⟨rfl, rfl⟩
            rw [← Hcl.out]
            have h4 := h3.setBlk 1 (.int .i64 (1 + cl))
            have H4 := hid h4
            clear h3 h4
            go_wp2_with fail
            have h4 := H4.out
            generalize hW : World.setCell _ _ _ = W4 at h4 ⊢
            clear hW H4 q0 q1 q2 q3 q4 z0 z1 z2 z3 z4
            obtain ⟨m, hm⟩ : ∃ m, m = (getC C (1 + cl)).length := ⟨_, rfl⟩
            have hm0 : m ≤ 1000 := by rw [hm]; unfold getC; split; exact HK.out.len _; simp
            have Hm := hid hm
            clear hm
            have hw1 : IntKind.i64.wrap ((m : Int) + 1) = (m : Int) + 1 := IntWalk.i64_in _ (by omega)
            have Hw1 := hid hw1
            clear hw1
            replace h4 := h4.drew
            refine wp_region_brk [9] (by kernel_rfl) ?_
            refine wpAnyB_now (fun w' => Hold w w' (blkA 46 gx #[.int .i64 kind, .int .i64 (1 + cl), .int .i64 index, .int .u64 old, .int .u64 v] * (memA g C * (refA r c C * Asr.emp)))) (fun _ _ => trivial) _ _ _ _ ?_
            refine' wpAnyB_bulk [true, true, true, true, true] 93 (listed' := #[true, true, true, true, true, false, false, false, false, false]) rfl (by kernel_rfl) (by kernel_rfl) (by kernel_rfl) (by kernel_rfl) (by kernel_rfl) (by kernel_rfl) (by decide) (fun _ _ _ _ h => h) rfl h4 (fun wq hq => ?_) ?_; rotate_left 1
            · simp only [maskL]
              obtain ⟨q0, q1, q2, q3, q4⟩ := blk_op hq.blk
              repeat (go_big_quiet_step (fail))
              exact wpQuiet_nil rfl
            refine wpAnyB_bar [false, false, false, false, false, true] (fuel := 4) (by rfl) (by rfl) (by kernel_rfl) (fun QB hQB hQX => ?_)
            simp only [maskL]
            go_wp2_with fail
            refine (rsize_any w _ _ r c C (1 + cl) h4.third HK.out).mono ?_
            rintro e w' ⟨rfl, rfl⟩
            rw [← Hm.out]
            go_wp2_with fail
            refine hQB.out _ _ h4 ?_
            clear hQB hQX QB
            have hw1 := Hw1.out
            refine' wpAnyB_bulk [false, false, false, false, false, false, true] 93 (listed' := #[true, true, true, true, true, true, true, false, false, false]) rfl (by kernel_rfl) (by kernel_rfl) (by kernel_rfl) (by kernel_rfl) (by kernel_rfl) (by kernel_rfl) (by decide) (fun _ _ _ _ h => h) rfl h4 (fun wq hq => ?_) ?_; rotate_left 1
            · simp only [maskL]
              repeat (go_big_quiet_step (fail))
              exact wpQuiet_nil rfl
            refine wpAnyB_bar [false, false, false, false, false, false, false, true] (fuel := 2) (by rfl) (by rfl) (by kernel_rfl) (fun QB hQB hQX => ?_)
            simp only [maskL]
            go_wp2_with fail
            clear hw1
            refine (place_any _ index ((m : Int) + 1) (by omega) (by omega)).mono ?_
            rintro e w' ⟨rfl, rfl⟩
            obtain ⟨ix, hix⟩ : ∃ ix, ix = place index ((m : Int) + 1) := ⟨_, rfl⟩
            have i0 := place_nonneg index ((m : Int) + 1) (by omega)
            have i1 := place_lt index ((m : Int) + 1) (by omega)
            rw [← hix] at i0 i1 ⊢
            clear hix
            go_wp2_with fail
            refine hQB.out _ _ h4 ?_
            clear hQB hQX QB
            obtain ⟨q0, q1, q2, q3, q4⟩ := blk_op h4.blk
            obtain ⟨z0, z1, z2, z3, z4⟩ := blk_op_free h4.blk
            refine' wpAnyB_bulk [false, false, false, false, false, false, false, false, true] 93 (listed' := #[true, true, true, true, true, true, true, true, true, false]) rfl (by kernel_rfl) (by kernel_rfl) (by kernel_rfl) (by kernel_rfl) (by kernel_rfl) (by kernel_rfl) (by decide) (fun _ _ _ _ h => h) rfl h4 (fun wq hq => ?_) ?_; rotate_left 1
            · simp only [maskL]
              repeat (go_big_quiet_step (fail))
              exact wpQuiet_nil rfl
            refine wpAnyB_brk [false, false, false, false, false, false, false, false, false, true] (fuel := 0) (by rfl) (by rfl) (by kernel_rfl) (by kernel_rfl) (fun QB hQB hQX => ?_)
            simp only [maskL]
            go_wp2_with fail
            refine hQB.out _ _ ?_
            refine wpAnyB_forget (by kernel_rfl) ?_
            refine wpAnyB_done (by kernel_rfl) ?_ _
            clear hQB hQX QB q0 q1 q2 q3 q4 z0 z1 z2 z3 z4
            have h5 := h4.setBlk 2 (.int .i64 ix)
            clear h4
            have H5 : Hid (Hold w _ (blkA 46 gx #[.int .i64 kind, .int .i64 (1 + cl), .int .i64 ix, .int .u64 old, .int .u64 v] * (memA g C * (refA r c C * Asr.emp)))) := hid h5
            clear h5
            go_wp2_with fail
            have h5 := H5.out
            rw [World.setCell_drew] at h5
            generalize hW : World.setCell _ _ _ = W5 at h5 ⊢
            clear hW H5
            by_cases hin : ix < (m : Int)
            · have e5 : decide (ix < (m : Int)) = true := decide_eq_true hin
              have hh : hasC C (1 + cl) ix := ⟨i0, by rw [← Hm.out]; exact hin⟩
              by_cases hev : old % 2 = 0
              · have e6 : (old % 2 == 0) = true := by simp [hev]
                have e7 : (old.tmod 2 == 0) = true := by rw [Int.tmod_eq_emod_of_nonneg (by omega)]; exact e6
                clear hev
                replace h5 := h5.drew
                refine wp_region_brk [] (by kernel_rfl) ?_
                refine wpAnyB_now (fun w' => Hold w w' (blkA 46 gx #[.int .i64 kind, .int .i64 (1 + cl), .int .i64 ix, .int .u64 old, .int .u64 v] * (memA g C * (refA r c C * Asr.emp)))) (fun _ _ => trivial) _ _ _ _ ?_
                refine' wpAnyB_bulk [true, true, true, true, true] 93 (listed' := #[true, true, true, true, true, false, false, false, false, false, false, false, false]) rfl (by kernel_rfl) (by kernel_rfl) (by kernel_rfl) (by kernel_rfl) (by kernel_rfl) (by kernel_rfl) (by decide) (fun _ _ _ _ h => h) rfl h5 (fun wq hq => ?_) ?_; rotate_left 1
                · simp only [maskL]
                  obtain ⟨q0, q1, q2, q3, q4⟩ := blk_op hq.blk
                  repeat (go_big_quiet_step (fail))
                  exact wpQuiet_nil rfl
                refine wpAnyB_bar [false, false, false, false, false, true] (fuel := 7) (by rfl) (by rfl) (by kernel_rfl) (fun QB hQB hQX => ?_)
                simp only [maskL]
                go_wp2_with fail
                refine (rsize_any w _ _ r c C (1 + cl) h5.third HK.out).mono ?_
                rintro e w' ⟨rfl, rfl⟩
                rw [← Hm.out]
                go_wp2_with fail
                refine hQB.out _ _ h5 ?_
                clear hQB hQX QB
                refine' wpAnyB_bulk [false, false, false, false, false, false, true, true, true, true, true, true, true] 93 (listed' := #[true, true, true, true, true, true, true, true, true, true, true, true, true]) rfl (by kernel_rfl) (by kernel_rfl) (by kernel_rfl) (by kernel_rfl) (by kernel_rfl) (by kernel_rfl) (by decide) (fun _ _ _ _ h => h) rfl h5 (fun wq hq => ?_) ?_; rotate_left 1
                · simp only [maskL]
                  obtain ⟨q0, q1, q2, q3, q4⟩ := blk_op hq.blk
                  repeat (go_big_quiet_step (fail))
                  exact wpQuiet_nil rfl
                refine wpAnyB_done (by kernel_rfl) ?_ _
                obtain ⟨q0, q1, q2, q3, q4⟩ := blk_op h5.blk
                obtain ⟨z0, z1, z2, z3, z4⟩ := blk_op_free h5.blk
                go_wp2_with fail
                refine (rget_any w _ _ r c C (1 + cl) ix h5.third HK.out hh).mono ?_
                rintro e w' ⟨rfl, rfl⟩
                have H6 := hid (h5.setBlk 3 (.int .u64 (valC C (1 + cl) ix)))
                clear h5
                go_wp2_with fail
                go_meet
                exact ⟨rfl, _, _, _, ⟨by omega, by omega⟩, H6.out⟩
              · have e6 : (old % 2 == 0) = false := by simp [hev]
                have e7 : (old.tmod 2 == 0) = false := by rw [Int.tmod_eq_emod_of_nonneg (by omega)]; exact e6
                clear hev
                replace h5 := h5.drew
                refine wp_region_brk [] (by kernel_rfl) ?_
                refine wpAnyB_now (fun w' => Hold w w' (blkA 46 gx #[.int .i64 kind, .int .i64 (1 + cl), .int .i64 ix, .int .u64 old, .int .u64 v] * (memA g C * (refA r c C * Asr.emp)))) (fun _ _ => trivial) _ _ _ _ ?_
                refine' wpAnyB_bulk [true, true, true, true, true] 93 (listed' := #[true, true, true, true, true, false, false, false, false, false, false, false, false]) rfl (by kernel_rfl) (by kernel_rfl) (by kernel_rfl) (by kernel_rfl) (by kernel_rfl) (by kernel_rfl) (by decide) (fun _ _ _ _ h => h) rfl h5 (fun wq hq => ?_) ?_; rotate_left 1
                · simp only [maskL]
                  obtain ⟨q0, q1, q2, q3, q4⟩ := blk_op hq.blk
                  repeat (go_big_quiet_step (fail))
                  exact wpQuiet_nil rfl
                refine wpAnyB_bar [false, false, false, false, false, true] (fuel := 7) (by rfl) (by rfl) (by kernel_rfl) (fun QB hQB hQX => ?_)
                simp only [maskL]
                go_wp2_with fail
                refine (rsize_any w _ _ r c C (1 + cl) h5.third HK.out).mono ?_
                rintro e w' ⟨rfl, rfl⟩
                rw [← Hm.out]
                go_wp2_with fail
                refine hQB.out _ _ h5 ?_
                clear hQB hQX QB
                refine' wpAnyB_bulk [false, false, false, false, false, false, true, true, true, true, true, true, true] 93 (listed' := #[true, true, true, true, true, true, true, true, true, true, true, true, true]) rfl (by kernel_rfl) (by kernel_rfl) (by kernel_rfl) (by kernel_rfl) (by kernel_rfl) (by kernel_rfl) (by decide) (fun _ _ _ _ h => h) rfl h5 (fun wq hq => ?_) ?_; rotate_left 1
                · simp only [maskL]
                  obtain ⟨q0, q1, q2, q3, q4⟩ := blk_op hq.blk
                  repeat (go_big_quiet_step (fail))
                  exact wpQuiet_nil rfl
                refine wpAnyB_done (by kernel_rfl) ?_ _
                go_wp2_with fail
                go_meet
                exact ⟨rfl, _, _, _, ⟨by omega, by omega⟩, h5⟩
            · have e5 : decide (ix < (m : Int)) = false := decide_eq_false hin
              replace h5 := h5.drew
              refine wp_region_brk [] (by kernel_rfl) ?_
              refine wpAnyB_now (fun w' => Hold w w' (blkA 46 gx #[.int .i64 kind, .int .i64 (1 + cl), .int .i64 ix, .int .u64 old, .int .u64 v] * (memA g C * (refA r c C * Asr.emp)))) (fun _ _ => trivial) _ _ _ _ ?_
              refine' wpAnyB_bulk [true, true, true, true, true] 93 (listed' := #[true, true, true, true, true, false, false, false, false, false, false, false, false]) rfl (by kernel_rfl) (by kernel_rfl) (by kernel_rfl) (by kernel_rfl) (by kernel_rfl) (by kernel_rfl) (by decide) (fun _ _ _ _ h => h) rfl h5 (fun wq hq => ?_) ?_; rotate_left 1
              · simp only [maskL]
                obtain ⟨q0, q1, q2, q3, q4⟩ := blk_op hq.blk
                repeat (go_big_quiet_step (fail))
                exact wpQuiet_nil rfl
              refine wpAnyB_bar [false, false, false, false, false, true] (fuel := 7) (by rfl) (by rfl) (by kernel_rfl) (fun QB hQB hQX => ?_)
              simp only [maskL]
              go_wp2_with fail
              refine (rsize_any w _ _ r c C (1 + cl) h5.third HK.out).mono ?_
              rintro e w' ⟨rfl, rfl⟩
              rw [← Hm.out]
              go_wp2_with fail
              refine hQB.out _ _ h5 ?_
              clear hQB hQX QB
              refine' wpAnyB_bulk [false, false, false, false, false, false, true, true, true, true, true, true, true] 93 (listed' := #[true, true, true, true, true, true, true, true, true, true, true, true, true]) rfl (by kernel_rfl) (by kernel_rfl) (by kernel_rfl) (by kernel_rfl) (by kernel_rfl) (by kernel_rfl) (by decide) (fun _ _ _ _ h => h) rfl h5 (fun wq hq => ?_) ?_; rotate_left 1
              · simp only [maskL]
                obtain ⟨q0, q1, q2, q3, q4⟩ := blk_op hq.blk
                repeat (go_big_quiet_step (fail))
                exact wpQuiet_nil rfl
              refine wpAnyB_done (by kernel_rfl) ?_ _
              go_wp2_with fail
              go_meet
              exact ⟨rfl, _, _, _, ⟨by omega, by omega⟩, h5⟩
        case rest =>
        obtain ⟨rfl, c2, i2, o2, hw2, h3⟩ := hcut
        clear hwx HA
        have hD := COk.doC HK.out (place kind 4) c2 i2 o2 v
        obtain ⟨D, hDD⟩ : ∃ D, D = doC C (place kind 4) c2 i2 o2 v := ⟨_, rfl⟩
        rw [← hDD] at hD
        have HD := hid hD
        have HDD := hid hDD
        clear hD hDD
        go_wp2_with fail
        replace h3 := h3.drew
        refine wp_region_brk [] (by kernel_rfl) ?_
        refine wpAnyB_now (fun w' => ∃ Z, Hold w w' (blkA 46 gx #[.int .i64 kind, .int .i64 c2, .int .i64 i2, .int .u64 o2, .int .u64 v] * Z)) (fun _ _ => trivial) _ _ _ _ ?_
        refine' wpAnyB_bulk [true, true, true] 93 (listed' := #[true, true, true, false, false, false, false, false, false, false, false, false, false, false, false]) rfl (by kernel_rfl) (by kernel_rfl) (by kernel_rfl) (by kernel_rfl) (by kernel_rfl) (by kernel_rfl) (by decide) (fun _ _ _ _ h => h) rfl ⟨_, h3⟩ (fun wq hq => ?_) ?_; rotate_left 1
        · simp only [maskL]
          obtain ⟨Z, hq⟩ := hq
          obtain ⟨q0, q1, q2, q3, q4⟩ := blk_op hq.blk
          repeat (go_big_quiet_step (fail))
          exact wpQuiet_nil rfl
        refine wpAnyB_bar [false, false, false, true] (fuel := 11) (by rfl) (by rfl) (by kernel_rfl) (fun QB hQB hQX => ?_)
        simp only [maskL]
        go_wp2_with fail
        refine (does_any w _ _ g r c C kind c2 i2 o2 v (h3.swap.imp (Imp.under _ (Imp.swap _ _ _))) HK.out hw2).mono ?_
        rintro e w1 ⟨rfl, h6⟩
        rw [← HDD.out] at h6
        clear h3
        go_wp2_with fail
        refine hQB.out _ _ ⟨_, h6.third⟩ ?_
        clear hQB hQX QB
        obtain ⟨y, h7⟩ := h6.refOpen2
        clear h6
        refine wpAnyB_now (fun w' => Hold w w' (memA g D * refF r c D y (blkA 46 gx #[.int .i64 kind, .int .i64 c2, .int .i64 i2, .int .u64 o2, .int .u64 v] * Asr.emp))) (fun w' h => ⟨_, h.refShut2.third⟩) _ _ _ _ ?_
        refine' wpAnyB_bulk [false, false, false, false, true, true, true, false, true, true, true, true] 93 (listed' := #[true, true, true, true, true, true, true, false, true, true, true, true, false, false, false]) rfl (by kernel_rfl) (by kernel_rfl) (by kernel_rfl) (by kernel_rfl) (by kernel_rfl) (by kernel_rfl) (by decide) (fun _ _ _ _ h => h) rfl h7 (fun wq hq => ?_) ?_; rotate_left 1
        · simp only [maskL]
          have p0 := hq.drop.blk.some_ (i := 13) rfl
          have p1 := hq.drop.blk.some_ (i := 14) rfl
          have p2 := hq.drop.blk.some_ (i := 15) rfl
          have p3 := hq.drop.blk.some_ (i := 16) rfl
          have p4 := hq.drop.blk.some_ (i := 17) rfl
          have p5 := hq.drop.blk.some_ (i := 18) rfl
          have p6 := hq.drop.blk.some_ (i := 19) rfl
          have p7 := hq.drop.blk.some_ (i := 20) rfl
          repeat (go_big_quiet_step (fail))
          exact wpQuiet_nil rfl
        refine wpAnyB_bar [false, false, false, false, false, false, false, true] (fuel := 3) (by rfl) (by rfl) (by kernel_rfl) (fun QB hQB hQX => ?_)
        simp only [maskL]
        go_wp2_with fail
        refine (image_any w _ _ g D h7 HD.out).mono ?_
        rintro e w2 ⟨x2, rfl, h8⟩
        clear h7
        go_wp2_with fail
        refine hQB.out _ _ h8.rest ?_
        clear hQB hQX QB
        refine wpAnyB_bar [false, false, false, false, false, false, false, false, false, false, false, false, true] (fuel := 2) (by rfl) (by rfl) (by kernel_rfl) (fun QB hQB hQX => ?_)
        simp only [maskL]
        go_wp2_with fail
        refine (kimage_true _ D x2 y h8.imgR h8.rest.drop.drop.imgR HD.out).mono ?_
        rintro e w3 ⟨rfl, hc3⟩
        have h9 := h8.rest.chg0 hc3
        clear h8 hc3
        go_wp2_with fail
        refine hQB.out _ _ h9 ?_
        clear hQB hQX QB
        refine' wpAnyB_bulk [false, false, false, false, false, false, false, false, false, false, false, false, false, true, true] 93 (listed' := #[true, true, true, true, true, true, true, true, true, true, true, true, true, true, true]) rfl (by kernel_rfl) (by kernel_rfl) (by kernel_rfl) (by kernel_rfl) (by kernel_rfl) (by kernel_rfl) (by decide) (fun _ _ _ _ h => h) rfl h9 (fun wq hq => ?_) ?_; rotate_left 1
        · simp only [maskL]
          repeat (go_big_quiet_step (fail))
          exact wpQuiet_nil rfl
        refine wpAnyB_done (by kernel_rfl) ?_ _
        have H9 := hid (h9.refShut2.imp (Imp.under _ (Imp.under _ (Imp.drop _ _))))
        clear h9
        go_wp2_with fail
        go_round
        case rel => exact ⟨k + 1, D, by omega, by go_num, HD.out, H9.out⟩
        case measure => simp [intOf]; omega
      · obtain rfl : n = k := by omega
        have e1 : decide ((n : Int) < n) = false := by simp
        go_wp2_with fail
        refine (awake_any w _ _ h2).mono ?_
        rintro e w1 ⟨rfl, h3⟩
        have H3 := hid h3.below
        clear h2 h3
        go_wp2_with fail
        go_ret
        exact ⟨rfl, H3.out⟩
end Go.Proofs.Ytfmmphabfdpegaa
