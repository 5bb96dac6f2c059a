/- WriterFollows. -/
import Derived.Test.YtddghhddafeojaaWr2
namespace Go.Proofs.Ytddghhddafeojaa
open Go.RowKit
set_option linter.unusedVariables false

theorem lst17_lt (xs : List Int) : ∀ x ∈ lst17 xs, 0 ≤ x ∧ x < 8 := by
  intro x hx
  obtain ⟨y, _, rfl⟩ := List.mem_map.1 hx
  exact ⟨place_nonneg y 8 (by omega), place_lt y 8 (by omega)⟩
def VF17 (w : World) (gp a b m r : Nat) (ps vs : List Int) (A1 : Option Addr) (c1 : Nat) (ly : Option Addr × Nat) (C : Nat → List Int) (i : Nat) (wx : World) : Prop :=
  ∃ j : Nat, j ≤ ps.length ∧ Hold w wx (prA gp m r * (wrA a (ps.drop j) (vs.drop j) * (stX b 1 ps A1 c1 j ly * (memA m C * (refA r cf17 C * Asr.emp)))))
set_option maxRecDepth 8000 in
set_option maxHeartbeats 8000000 in
theorem writerFollows_any (w : World) (A0 A1 : Option Addr) (n0 n1 c0 c1 b0 b1 : Nat) (x0 x1 : List Int)
    (hA0 : Reads w b0 A0 n0 (x0.map (Value.int .i64))) (hA1 : Reads w b1 A1 n1 (x1.map (Value.int .u64))) (l0 : n0 ≤ 9223372036854775807) (l1 : n1 ≤ 9223372036854775807) (k1 : n1 ≤ c1) :
    Calls Try.prog 3 #[.slice A0 n0 c0, .slice A1 n1 c1] w (fun e w' => e = .returned (.bool true) ∧ Below w.heap.size w w') := by
  have H0 := hid hA0
  have H1 := hid hA1
  clear hA0 hA1
  by_cases h20 : 20 < n1
  · have e1 : decide (20 < (n1 : Int)) = true := decide_eq_true (by omega)
    go_enter Try.func3, Try.ntmps3
    go_wp2_with fail
    refine (config17 w _ _ (Hold.start w)).mono ?_
    rintro e v1 ⟨rfl, h1⟩
    go_wp2_with fail
    refine (lab_start w _ _ cf17 2 cf17_ok (by decide) h1).mono ?_
    rintro e w2 ⟨m, r, rfl, h2⟩
    have H3 := hid (h2.newBlk (t := 27) (cs := #[.pointer (some ⟨m, 0, none⟩), .pointer (some ⟨r, 0, none⟩)]))
    clear h1 h2
    go_wp2_with fail
    refine (awake17_any w _ _ H3.out).mono ?_
    rintro e w3 ⟨rfl, h4⟩
    have H4 := hid h4.below
    clear h4 H3
    go_wp2_with fail
    go_ret
    exact ⟨rfl, H4.out⟩
  · have e1 : decide (20 < (n1 : Int)) = false := decide_eq_false (by omega)
    go_enter Try.func3, Try.ntmps3
    go_wp2_with fail
    refine (config17 w _ _ (Hold.start w)).mono ?_
    rintro e v1 ⟨rfl, h1⟩
    go_wp2_with fail
    refine (lab_start w _ _ cf17 2 cf17_ok (by decide) h1).mono ?_
    rintro e w2 ⟨m, r, rfl, h2⟩
    have h3 : Hold w _ (prA w2.heap.size m r * (memA m ws0 * (refA r cf17 ws0 * Asr.emp))) := h2.newBlk (t := 27) (cs := #[.pointer (some ⟨m, 0, none⟩), .pointer (some ⟨r, 0, none⟩)])
    have H4 := hid h3
    clear h1 h2 h3
    go_wp2_with fail
    have h4 := H4.out
    generalize hW : World.alloc _ _ = W at h4 ⊢
    generalize w2.heap.size = gp at h4 ⊢
    clear hW H4
    refine (addrs_any w _ _ A0 n0 c0 _ x0 h4 H0.out l0).mono ?_
    rintro e w6 ⟨A6, c6, rfl, h6⟩
    obtain ⟨xs, hxs⟩ : ∃ xs, xs = lst17 (x0.take (min n0 12)) := ⟨_, rfl⟩
    have hxl : xs.length = min n0 12 := by
      rw [hxs]; have := H0.out.len; simp [lst17] at this ⊢; omega
    have hxe := lst17_lt (x0.take (min n0 12))
    rw [← hxs] at h6 hxe
    obtain ⟨N, hN⟩ : ∃ N, N = min n0 12 := ⟨_, rfl⟩
    rw [← hN] at h6 hxl ⊢
    have hN12 : N ≤ 12 := by omega
    have HX := hid (And.intro hxs (And.intro hxl hxe))
    have HN := hid hN
    have h7 := h6.imp (Imp.on _ (Imp.rowSl _ _ _ _ _))
    obtain ⟨hc6, _, b6, _⟩ := h7.sl
    clear hxs hxe h4 hxl hN h6
    obtain ⟨k, hk⟩ : ∃ k, k = min N n1 := ⟨_, rfl⟩
    go_wp2_with fail
    refine (wr_new w _ _ A6 A1 N c6 n1 c1 xs x1 h7 (fun w' h' => by obtain ⟨_, _, hq⟩ := h'.sl; exact hq) (fun w' h' => ⟨_, H1.out.below h'.below⟩) (by omega) (by omega) hc6 k1 k hk).mono ?_
    rintro e w7 ⟨a, rfl, h8⟩
    clear h7
    go_wp2_with fail
    refine (addrs_any w _ _ A0 n0 c0 _ x0 h8 H0.out l0).mono ?_
    rintro e w8 ⟨A8, c8, rfl, h9⟩
    rw [← HX.out.1, ← HN.out] at h9
    rw [← HN.out]
    have h10 := h9.imp (Imp.on _ (Imp.rowSl _ _ _ _ _))
    obtain ⟨hc8, _⟩ := h10.sl
    clear h8 h9
    go_wp2_with fail
    refine (st_new w _ _ A8 A1 1 N c8 n1 c1 xs k hk h10 hc8 k1 (by omega) (by omega)).mono ?_
    rintro e w9 ⟨b, rfl, h11⟩
    obtain ⟨ps, hps⟩ : ∃ ps, ps = xs.take k := ⟨_, rfl⟩
    obtain ⟨vs, hvs⟩ : ∃ vs, vs = x1.take k := ⟨_, rfl⟩
    generalize hly : (A8, c8) = ly at h11
    have hx1l : x1.length = n1 := by have := H1.out.len; simpa using this
    have hpl : ps.length = k := by rw [hps]; have := HX.out.2.1; simp; omega
    have hvl : vs.length = k := by rw [hvs]; simp; omega
    have hpr : ∀ z ∈ ps, -9223372036854775808 ≤ z ∧ z ≤ 9223372036854775807 := fun z hz => by
      rw [hps] at hz
      have := HX.out.2.2 z (List.mem_of_mem_take hz)
      omega
    have hvx : ∀ j, j < k → vs[j]? = some (x1.getD j 0) := fun j hj => by
      have hj2 : j < x1.length := by omega
      rw [hvs, List.getElem?_take, if_pos hj, getD_at hj2, List.getElem?_eq_getElem hj2]
    rw [← hps, ← hvs] at h11
    have hp12 : ps.length ≤ 1000 := by omega
    have HP := hid (And.intro hpl (And.intro hvl (And.intro hpr hvx)))
    have h12 : VF17 w gp a b m r ps vs A1 c1 ly ws0 0 w9 := ⟨0, by omega, h11.pk6 [3, 1, 0, 4, 5]⟩
    have H12 := hid h12
    clear h10 h11 h12 hps hvs hly hpl hvl hpr hvx hx1l
    go_wp2_with fail
    go_loopw [9] (fun s wr => ∃ (i : Nat) (C : Nat → List Int), i ≤ 14 ∧ s = .int .i64 i ∧ COk C ∧ VF17 w gp a b m r ps vs A1 c1 ly C i wr) (fun s _ => 14 - (intOf s).toNat)
    case atStart => exact ⟨0, ws0, by omega, rfl, ws0_ok, H12.out⟩
    case round =>
      clear H12 e1
      obtain ⟨i, C, hi, rfl, hC, j, hjp, h6⟩ := hrel
      have HK := hid hC
      clear hC
      by_cases hlt : i < 14
      · have e1 : decide ((i : Int) < 14) = true := decide_eq_true (by omega)
        have hL2 : IntKind.i64.wrap ((ps.length : Int) - (j : Int)) = (ps.length : Int) - (j : Int) := IntWalk.i64_in _ (by omega)
        have e5 : (((ps.length : Int) - (j : Int)) != ((ps.length : Int) - (j : Int))) = false := by simp
        go_wp2_with fail
        replace h6 := h6.drew
        by_cases hj : j = ps.length
        · have hd0 : ps.drop j = [] := by rw [hj]; simp
          have hdl : ps.drop ps.length = [] := by simp
          have hL : ((([] : List Int).length : Nat) : Int) = (ps.length : Int) - (j : Int) := by simp; omega
          rw [hd0] at h6
          refine wp_region_brk [] (by kernel_rfl) ?_
          refine wpAnyB_now (fun w' => ∃ (k' : Nat) (Z : Asr), Hold w w' (prA gp m r * (stX b 1 ps A1 c1 k' ly * Z))) (fun _ _ => trivial) _ _ _ _ ?_
          refine' wpAnyB_bulk [true, false, true] 77 (listed' := #[true, false, true, false, false, false, false, false, false, false, false, false, false, false, false, false, false, false, false, false, false, false, false, false, false, false, false, false, false, false, false, false, false, false, false, false]) rfl (by kernel_rfl) (by kernel_rfl) (by kernel_rfl) (by kernel_rfl) (by kernel_rfl) (by kernel_rfl) (by decide) (fun _ _ _ _ h => h) rfl ⟨_, _, h6.pk3 [0, 2, 1]⟩ (fun wq hq => ?_) ?_; rotate_left 1
          · simp only [maskL]
            repeat (go_big_quiet_step (fail))
            exact wpQuiet_nil rfl
          refine wpAnyB_bar [false, true] (fuel := 33) (by rfl) (by rfl) (by kernel_rfl) (fun QB hQB hQX => ?_)
          simp only [maskL]
          go_wp2_with fail
          refine (wr_done w _ _ a [] (vs.drop j) (h6.pk2 [1, 0])).mono ?_
          rintro e w' ⟨rfl, rfl⟩
          rw [show ([] : List Int).isEmpty = true from rfl]
          go_wp2_with fail
          refine hQB.out _ _ ⟨_, _, h6.pk3 [0, 2, 1]⟩ ?_
          clear hQB hQX QB
          refine wpAnyB_bar [false, false, false, true] (fuel := 32) (by rfl) (by rfl) (by kernel_rfl) (fun QB hQB hQX => ?_)
          simp only [maskL]
          go_wp2_with fail
          refine (st_done w _ _ b 1 ps A1 c1 j ly (h6.pk3 [2, 0, 1])).mono ?_
          rintro e w7 ⟨rfl, h7⟩
          rw [decide_eq_true hj]
          replace h6 : Hold w w7 (prA gp m r * (wrA a [] (vs.drop j) * (stX b 1 ps A1 c1 j ly * (memA m C * (refA r cf17 C * Asr.emp))))) := h7.pk3 [1, 2, 0]
          clear h7
          go_wp2_with fail
          refine hQB.out _ _ ⟨_, _, h6.pk3 [0, 2, 1]⟩ ?_
          clear hQB hQX QB
          refine' wpAnyB_bulk [false, false, false, false, true, true, true, false, true, true, true, true, true, true, true, true] 77 (listed' := #[true, true, true, true, true, true, true, false, true, true, true, true, true, true, true, true, false, false, false, false, false, false, false, false, false, false, false, false, false, false, false, false, false, false, false, false]) rfl (by kernel_rfl) (by kernel_rfl) (by kernel_rfl) (by kernel_rfl) (by kernel_rfl) (by kernel_rfl) (by decide) (fun _ _ _ _ h => h) rfl ⟨_, _, h6.pk3 [0, 2, 1]⟩ (fun wq hq => ?_) ?_; rotate_left 1
          · simp only [maskL]
            obtain ⟨k2, Z, hq⟩ := hq
            have hb := (hq.pk2 [1, 0]).part
            have q1 := hb.blk.some_ (i := 1) rfl
            repeat (go_big_quiet_step (fail))
            exact wpQuiet_nil rfl
          refine wpAnyB_two [false, false, false, false, false, false, false, true] [false, false, false, false, false, false, false, false, false, false, false, false, false, false, false, false, true] (fuel := 20) (by rfl) (by rfl) (by rfl) (by rfl) (by kernel_rfl) (fun QB hQB hQX => ?_) (fun QB hQB hQX => ?_)
          · simp only [maskL]
            go_wp2_with fail
            refine (wr_left w _ _ a [] (vs.drop j) (h6.pk2 [1, 0])).mono ?_
            rintro e w' ⟨rfl, rfl⟩
            rw [hL]
            go_wp2_with fail
            refine hQB.out _ _ ⟨_, _, h6.pk3 [0, 2, 1]⟩ ?_
            clear hQB hQX QB
            refine wpAnyB_bar [false, false, false, false, false, false, false, false, false, false, false, false, false, false, false, false, true] (fuel := 19) (by rfl) (by rfl) (by kernel_rfl) (fun QB hQB hQX => ?_)
            simp only [maskL]
            have p3 := (h6.pk3 [2, 0, 1]).part.blk.some_ (i := 3) (u := .int .i64 (j : Int)) rfl
            go_wp2_with fail
            refine hQB.out _ _ ⟨_, _, h6.pk3 [0, 2, 1]⟩ ?_
            clear hQB hQX QB p3
            refine' wpAnyB_bulk [false, false, false, false, false, false, false, false, false, false, false, false, false, false, false, false, false, true, true, true, true, true, true, true, false, true, true, true] 77 (listed' := #[true, true, true, true, true, true, true, true, true, true, true, true, true, true, true, true, true, true, true, true, true, true, true, true, false, true, true, true, false, false, false, false, false, false, false, false]) rfl (by kernel_rfl) (by kernel_rfl) (by kernel_rfl) (by kernel_rfl) (by kernel_rfl) (by kernel_rfl) (by decide) (fun _ _ _ _ h => h) rfl ⟨_, _, h6.pk3 [0, 2, 1]⟩ (fun wq hq => ?_) ?_; rotate_left 1
            · simp only [maskL]
              obtain ⟨k2, Z, hq⟩ := hq
              have q0 := hq.blk.some_ (i := 0) rfl
              have q1 := hq.blk.some_ (i := 1) rfl
              repeat (go_big_quiet_step (fail))
              exact wpQuiet_nil rfl
            refine wpAnyB_bar [false, false, false, false, false, false, false, false, false, false, false, false, false, false, false, false, false, false, false, false, false, false, false, false, true] (fuel := 8) (by rfl) (by rfl) (by kernel_rfl) (fun QB hQB hQX => ?_)
            simp only [maskL]
            go_wp2_with fail
            refine (wr_step_done w _ _ a _ (vs.drop j) (h6.pk2 [1, 0])).mono ?_
            rintro e w8 ⟨rfl, h7⟩
            replace h6 : Hold w w8 (prA gp m r * (wrA a [] (vs.drop j) * (stX b 1 ps A1 c1 j ly * (memA m C * (refA r cf17 C * Asr.emp))))) := h7.pk2 [1, 0]
            clear h7
            unfold acc0
            go_wp2_with fail
            refine hQB.out _ _ ⟨_, _, h6.pk3 [0, 2, 1]⟩ ?_
            clear hQB hQX QB
            refine wpAnyB_bar [false, false, false, false, false, false, false, false, false, false, false, false, false, false, false, false, false, false, false, false, false, false, false, false, false, false, false, false, true] (fuel := 7) (by rfl) (by rfl) (by kernel_rfl) (fun QB hQB hQX => ?_)
            simp only [maskL]
            go_wp2_with fail
            subst hj
            refine (st_step_done w _ _ b _ 1 ps A1 c1 ly (h6.pk3 [2, 0, 1])).mono ?_
            rintro e w9 ⟨rfl, h7⟩
            replace h6 : Hold w w9 (prA gp m r * (wrA a [] (vs.drop ps.length) * (stX b 1 ps A1 c1 ps.length ly * (memA m C * (refA r cf17 C * Asr.emp))))) := h7.pk3 [1, 2, 0]
            clear h7
            unfold acc0
            go_wp2_with fail
            refine hQB.out _ _ ⟨_, _, h6.pk3 [0, 2, 1]⟩ ?_
            clear hQB hQX QB
            refine' wpAnyB_bulk [false, false, false, false, false, false, false, false, false, false, false, false, false, false, false, false, false, false, false, false, false, false, false, false, false, false, false, false, false, true, true, true, true] 77 (listed' := #[true, true, true, true, true, true, true, true, true, true, true, true, true, true, true, true, true, true, true, true, true, true, true, true, true, true, true, true, true, true, true, true, true, false, false, false]) rfl (by kernel_rfl) (by kernel_rfl) (by kernel_rfl) (by kernel_rfl) (by kernel_rfl) (by kernel_rfl) (by decide) (fun _ _ _ _ h => h) rfl ⟨_, _, h6.pk3 [0, 2, 1]⟩ (fun wq hq => ?_) ?_; rotate_left 1
            · simp only [maskL]
              obtain ⟨k2, Z, hq⟩ := hq
              have q0 := hq.blk.some_ (i := 0) rfl
              have q1 := hq.blk.some_ (i := 1) rfl
              repeat (go_big_quiet_step (fail))
              exact wpQuiet_nil rfl
            refine wpAnyB_bar [false, false, false, false, false, false, false, false, false, false, false, false, false, false, false, false, false, false, false, false, false, false, false, false, false, false, false, false, false, false, false, false, false, true] (fuel := 2) (by rfl) (by rfl) (by kernel_rfl) (fun QB hQB hQX => ?_)
            simp only [maskL]
            go_wp2_with fail
            refine (pair_same w _ _ m r cf17 C (h6.pk5 [3, 4, 0, 1, 2]) HK.out).mono ?_
            rintro e w10 ⟨rfl, h7⟩
            have H6 : Hid (VF17 w gp a b m r ps vs A1 c1 ly C (i + 1) w10) := hid ⟨ps.length, by omega, by rw [hdl]; exact h7.pk5 [2, 3, 4, 0, 1]⟩
            clear h6 h7
            go_wp2_with fail
            refine hQB.out _ _ (by obtain ⟨_, _, h8⟩ := H6.out; exact ⟨_, _, h8.pk3 [0, 2, 1]⟩) ?_
            clear hQB hQX QB
            refine' wpAnyB_bulk [false, false, false, false, false, false, false, false, false, false, false, false, false, false, false, false, false, false, false, false, false, false, false, false, false, false, false, false, false, false, false, false, false, false, true, true] 77 (listed' := #[true, true, true, true, true, true, true, true, true, true, true, true, true, true, true, true, true, true, true, true, true, true, true, true, true, true, true, true, true, true, true, true, true, true, true, true]) rfl (by kernel_rfl) (by kernel_rfl) (by kernel_rfl) (by kernel_rfl) (by kernel_rfl) (by kernel_rfl) (by decide) (fun _ _ _ _ h => h) rfl (by first | exact ⟨_, _, h6.pk3 [0, 2, 1]⟩ | (obtain ⟨_, _, h8⟩ := H6.out; exact ⟨_, _, h8.pk3 [0, 2, 1]⟩)) (fun wq hq => ?_) ?_; rotate_left 1
            · simp only [maskL]
              obtain ⟨k2, Z, hq⟩ := hq
              have q0 := hq.blk.some_ (i := 0) rfl
              have q1 := hq.blk.some_ (i := 1) rfl
              repeat (go_big_quiet_step (fail))
              exact wpQuiet_nil rfl
            refine wpAnyB_done (by kernel_rfl) ?_ _
            -- END
            go_wp2_with fail
            go_round
            case rel => exact ⟨i + 1, C, by omega, by go_num, HK.out, H6.out⟩
            case measure => simp [intOf]; omega
          · simp only [maskL]
            have p3 := (h6.pk3 [2, 0, 1]).part.blk.some_ (i := 3) (u := .int .i64 (j : Int)) rfl
            go_wp2_with fail
            refine hQB.out _ _ ⟨_, _, h6.pk3 [0, 2, 1]⟩ ?_
            clear hQB hQX QB p3
            refine' wpAnyB_bulk [false, false, false, false, false, false, false, false, false, false, false, false, false, false, false, false, false, true] 77 (listed' := #[true, true, true, true, true, true, true, false, true, true, true, true, true, true, true, true, true, true, false, false, false, false, false, false, false, false, false, false, false, false, false, false, false, false, false, false]) rfl (by kernel_rfl) (by kernel_rfl) (by kernel_rfl) (by kernel_rfl) (by kernel_rfl) (by kernel_rfl) (by decide) (fun _ _ _ _ h => h) rfl ⟨_, _, h6.pk3 [0, 2, 1]⟩ (fun wq hq => ?_) ?_; rotate_left 1
            · simp only [maskL]
              obtain ⟨k2, Z, hq⟩ := hq
              have q0 := hq.blk.some_ (i := 0) rfl
              have q1 := hq.blk.some_ (i := 1) rfl
              repeat (go_big_quiet_step (fail))
              exact wpQuiet_nil rfl
            refine wpAnyB_bar [false, false, false, false, false, false, false, true] (fuel := 18) (by rfl) (by rfl) (by kernel_rfl) (fun QB hQB hQX => ?_)
            simp only [maskL]
            go_wp2_with fail
            refine (wr_left w _ _ a [] (vs.drop j) (h6.pk2 [1, 0])).mono ?_
            rintro e w' ⟨rfl, rfl⟩
            rw [hL]
            go_wp2_with fail
            refine hQB.out _ _ ⟨_, _, h6.pk3 [0, 2, 1]⟩ ?_
            clear hQB hQX QB
            refine' wpAnyB_bulk [false, false, false, false, false, false, false, false, false, false, false, false, false, false, false, false, false, false, true, true, true, true, true, true, false, true, true, true] 77 (listed' := #[true, true, true, true, true, true, true, true, true, true, true, true, true, true, true, true, true, true, true, true, true, true, true, true, false, true, true, true, false, false, false, false, false, false, false, false]) rfl (by kernel_rfl) (by kernel_rfl) (by kernel_rfl) (by kernel_rfl) (by kernel_rfl) (by kernel_rfl) (by decide) (fun _ _ _ _ h => h) rfl ⟨_, _, h6.pk3 [0, 2, 1]⟩ (fun wq hq => ?_) ?_; rotate_left 1
            · simp only [maskL]
              obtain ⟨k2, Z, hq⟩ := hq
              have q0 := hq.blk.some_ (i := 0) rfl
              have q1 := hq.blk.some_ (i := 1) rfl
              repeat (go_big_quiet_step (fail))
              exact wpQuiet_nil rfl
            refine wpAnyB_bar [false, false, false, false, false, false, false, false, false, false, false, false, false, false, false, false, false, false, false, false, false, false, false, false, true] (fuel := 8) (by rfl) (by rfl) (by kernel_rfl) (fun QB hQB hQX => ?_)
            simp only [maskL]
            go_wp2_with fail
            refine (wr_step_done w _ _ a _ (vs.drop j) (h6.pk2 [1, 0])).mono ?_
            rintro e w8 ⟨rfl, h7⟩
            replace h6 : Hold w w8 (prA gp m r * (wrA a [] (vs.drop j) * (stX b 1 ps A1 c1 j ly * (memA m C * (refA r cf17 C * Asr.emp))))) := h7.pk2 [1, 0]
            clear h7
            unfold acc0
            go_wp2_with fail
            refine hQB.out _ _ ⟨_, _, h6.pk3 [0, 2, 1]⟩ ?_
            clear hQB hQX QB
            refine wpAnyB_bar [false, false, false, false, false, false, false, false, false, false, false, false, false, false, false, false, false, false, false, false, false, false, false, false, false, false, false, false, true] (fuel := 7) (by rfl) (by rfl) (by kernel_rfl) (fun QB hQB hQX => ?_)
            simp only [maskL]
            go_wp2_with fail
            subst hj
            refine (st_step_done w _ _ b _ 1 ps A1 c1 ly (h6.pk3 [2, 0, 1])).mono ?_
            rintro e w9 ⟨rfl, h7⟩
            replace h6 : Hold w w9 (prA gp m r * (wrA a [] (vs.drop ps.length) * (stX b 1 ps A1 c1 ps.length ly * (memA m C * (refA r cf17 C * Asr.emp))))) := h7.pk3 [1, 2, 0]
            clear h7
            unfold acc0
            go_wp2_with fail
            refine hQB.out _ _ ⟨_, _, h6.pk3 [0, 2, 1]⟩ ?_
            clear hQB hQX QB
            refine' wpAnyB_bulk [false, false, false, false, false, false, false, false, false, false, false, false, false, false, false, false, false, false, false, false, false, false, false, false, false, false, false, false, false, true, true, true, true] 77 (listed' := #[true, true, true, true, true, true, true, true, true, true, true, true, true, true, true, true, true, true, true, true, true, true, true, true, true, true, true, true, true, true, true, true, true, false, false, false]) rfl (by kernel_rfl) (by kernel_rfl) (by kernel_rfl) (by kernel_rfl) (by kernel_rfl) (by kernel_rfl) (by decide) (fun _ _ _ _ h => h) rfl (by first | exact ⟨_, _, h6.pk3 [0, 2, 1]⟩ | (obtain ⟨_, _, h8⟩ := H6.out; exact ⟨_, _, h8.pk3 [0, 2, 1]⟩)) (fun wq hq => ?_) ?_; rotate_left 1
            · simp only [maskL]
              obtain ⟨k2, Z, hq⟩ := hq
              have q0 := hq.blk.some_ (i := 0) rfl
              have q1 := hq.blk.some_ (i := 1) rfl
              repeat (go_big_quiet_step (fail))
              exact wpQuiet_nil rfl
            refine wpAnyB_bar [false, false, false, false, false, false, false, false, false, false, false, false, false, false, false, false, false, false, false, false, false, false, false, false, false, false, false, false, false, false, false, false, false, true] (fuel := 2) (by rfl) (by rfl) (by kernel_rfl) (fun QB hQB hQX => ?_)
            simp only [maskL]
            go_wp2_with fail
            refine (pair_same w _ _ m r cf17 C (h6.pk5 [3, 4, 0, 1, 2]) HK.out).mono ?_
            rintro e w10 ⟨rfl, h7⟩
            have H6 : Hid (VF17 w gp a b m r ps vs A1 c1 ly C (i + 1) w10) := hid ⟨ps.length, by omega, by rw [hdl]; exact h7.pk5 [2, 3, 4, 0, 1]⟩
            clear h6 h7
            go_wp2_with fail
            refine hQB.out _ _ (by obtain ⟨_, _, h8⟩ := H6.out; exact ⟨_, _, h8.pk3 [0, 2, 1]⟩) ?_
            clear hQB hQX QB
            refine' wpAnyB_bulk [false, false, false, false, false, false, false, false, false, false, false, false, false, false, false, false, false, false, false, false, false, false, false, false, false, false, false, false, false, false, false, false, false, false, true, true] 77 (listed' := #[true, true, true, true, true, true, true, true, true, true, true, true, true, true, true, true, true, true, true, true, true, true, true, true, true, true, true, true, true, true, true, true, true, true, true, true]) rfl (by kernel_rfl) (by kernel_rfl) (by kernel_rfl) (by kernel_rfl) (by kernel_rfl) (by kernel_rfl) (by decide) (fun _ _ _ _ h => h) rfl (by obtain ⟨_, _, h8⟩ := H6.out; exact ⟨_, _, h8.pk3 [0, 2, 1]⟩) (fun wq hq => ?_) ?_; rotate_left 1
            · simp only [maskL]
              repeat (go_big_quiet_step (fail))
              exact wpQuiet_nil rfl
            refine wpAnyB_done (by kernel_rfl) ?_ _
            -- END
            go_wp2_with fail
            go_round
            case rel => exact ⟨i + 1, C, by omega, by go_num, HK.out, H6.out⟩
            case measure => simp [intOf]; omega
        · have hjl : j < ps.length := by omega
          obtain ⟨z, hz⟩ : ∃ z, z = ps[j] := ⟨_, rfl⟩
          have hzd : ps.drop j = z :: ps.drop (j + 1) := by rw [hz]; exact List.drop_eq_getElem_cons hjl
          have hjv : j < vs.length := by rw [HP.out.2.1]; have := HP.out.1; omega
          obtain ⟨x, hx⟩ : ∃ x, x = vs[j] := ⟨_, rfl⟩
          have hxd : vs.drop j = x :: vs.drop (j + 1) := by rw [hx]; exact List.drop_eq_getElem_cons hjv
          have hzr := HP.out.2.2.1 z (by rw [hz]; exact List.getElem_mem hjl)
          have hj1 : j < n1 := by have := HP.out.1; omega
          obtain ⟨bd, rfl, _⟩ := H1.out.numAt hj1
          have hxx : ∀ w', Below w.heap.size w w' → w'.cell? (bd.add j) = some (.int .u64 x) := fun w' hb => by
            obtain ⟨bd', hbd, _, hc⟩ := (H1.out.below hb).numAt hj1
            injection hbd with hbd
            subst hbd
            rw [hc]
            have h1 := HP.out.2.2.2 j (by have := HP.out.1; omega)
            rw [List.getElem?_eq_getElem hjv, ← hx] at h1
            injection h1 with h1
            rw [h1]
          have HZ : Hid (ps[j]? = some z ∧ ∀ w', Below w.heap.size w w' → w'.cell? (bd.add j) = some (.int .u64 x)) := hid ⟨by rw [hz]; exact List.getElem?_eq_getElem hjl, hxx⟩
          obtain ⟨ac, ha⟩ : ∃ ac, ac = opA C 2 1 z x true := ⟨_, rfl⟩
          obtain ⟨C', hC'⟩ : ∃ C', C' = opC C 1 z x true := ⟨_, rfl⟩
          have HA := hid ha
          have HC' := hid hC'
          have HK' : Hid (COk C') := hid (by rw [hC']; exact HK.out.opC _ _ _ _)
          have hL : (((z :: ps.drop (j + 1)).length : Nat) : Int) = (ps.length : Int) - (j : Int) := by rw [← hzd]; simp; omega
          rw [hzd, hxd] at h6
          clear hz hx hzd hxd hxx ha hC' hjv
          refine wp_region_brk [] (by kernel_rfl) ?_
          refine wpAnyB_now (fun w' => ∃ (k' : Nat) (Z : Asr), Hold w w' (prA gp m r * (stX b 1 ps (some bd) c1 k' ly * Z))) (fun _ _ => trivial) _ _ _ _ ?_
          refine' wpAnyB_bulk [true, false, true] 77 (listed' := #[true, false, true, false, false, false, false, false, false, false, false, false, false, false, false, false, false, false, false, false, false, false, false, false, false, false, false, false, false, false, false, false, false, false, false, false]) rfl (by kernel_rfl) (by kernel_rfl) (by kernel_rfl) (by kernel_rfl) (by kernel_rfl) (by kernel_rfl) (by decide) (fun _ _ _ _ h => h) rfl ⟨_, _, h6.pk3 [0, 2, 1]⟩ (fun wq hq => ?_) ?_; rotate_left 1
          · simp only [maskL]
            repeat (go_big_quiet_step (fail))
            exact wpQuiet_nil rfl
          refine wpAnyB_bar [false, true] (fuel := 33) (by rfl) (by rfl) (by kernel_rfl) (fun QB hQB hQX => ?_)
          simp only [maskL]
          go_wp2_with fail
          refine (wr_done w _ _ a (z :: ps.drop (j + 1)) (x :: vs.drop (j + 1)) (h6.pk2 [1, 0])).mono ?_
          rintro e w' ⟨rfl, rfl⟩
          rw [show (z :: ps.drop (j + 1)).isEmpty = false from rfl]
          go_wp2_with fail
          refine hQB.out _ _ ⟨_, _, h6.pk3 [0, 2, 1]⟩ ?_
          clear hQB hQX QB
          refine wpAnyB_bar [false, false, false, true] (fuel := 32) (by rfl) (by rfl) (by kernel_rfl) (fun QB hQB hQX => ?_)
          simp only [maskL]
          go_wp2_with fail
          refine (st_done w _ _ b 1 ps (some bd) c1 j ly (h6.pk3 [2, 0, 1])).mono ?_
          rintro e w7 ⟨rfl, h7⟩
          rw [decide_eq_false hj]
          replace h6 : Hold w w7 (prA gp m r * (wrA a (z :: ps.drop (j + 1)) (x :: vs.drop (j + 1)) * (stX b 1 ps (some bd) c1 j ly * (memA m C * (refA r cf17 C * Asr.emp))))) := h7.pk3 [1, 2, 0]
          clear h7
          go_wp2_with fail
          refine hQB.out _ _ ⟨_, _, h6.pk3 [0, 2, 1]⟩ ?_
          clear hQB hQX QB
          refine' wpAnyB_bulk [false, false, false, false, true, true, true, false, true, true, true, true, true, true, true, true] 77 (listed' := #[true, true, true, true, true, true, true, false, true, true, true, true, true, true, true, true, false, false, false, false, false, false, false, false, false, false, false, false, false, false, false, false, false, false, false, false]) rfl (by kernel_rfl) (by kernel_rfl) (by kernel_rfl) (by kernel_rfl) (by kernel_rfl) (by kernel_rfl) (by decide) (fun _ _ _ _ h => h) rfl ⟨_, _, h6.pk3 [0, 2, 1]⟩ (fun wq hq => ?_) ?_; rotate_left 1
          · simp only [maskL]
            obtain ⟨k2, Z, hq⟩ := hq
            have hb := (hq.pk2 [1, 0]).part
            have q1 := hb.blk.some_ (i := 1) rfl
            repeat (go_big_quiet_step (fail))
            exact wpQuiet_nil rfl
          refine wpAnyB_two [false, false, false, false, false, false, false, true] [false, false, false, false, false, false, false, false, false, false, false, false, false, false, false, false, true] (fuel := 20) (by rfl) (by rfl) (by rfl) (by rfl) (by kernel_rfl) (fun QB hQB hQX => ?_) (fun QB hQB hQX => ?_)
          · simp only [maskL]
            go_wp2_with fail
            refine (wr_left w _ _ a (z :: ps.drop (j + 1)) (x :: vs.drop (j + 1)) (h6.pk2 [1, 0])).mono ?_
            rintro e w' ⟨rfl, rfl⟩
            rw [hL]
            go_wp2_with fail
            refine hQB.out _ _ ⟨_, _, h6.pk3 [0, 2, 1]⟩ ?_
            clear hQB hQX QB
            refine wpAnyB_bar [false, false, false, false, false, false, false, false, false, false, false, false, false, false, false, false, true] (fuel := 19) (by rfl) (by rfl) (by kernel_rfl) (fun QB hQB hQX => ?_)
            simp only [maskL]
            have p3 := (h6.pk3 [2, 0, 1]).part.blk.some_ (i := 3) (u := .int .i64 (j : Int)) rfl
            go_wp2_with fail
            refine hQB.out _ _ ⟨_, _, h6.pk3 [0, 2, 1]⟩ ?_
            clear hQB hQX QB p3
            refine' wpAnyB_bulk [false, false, false, false, false, false, false, false, false, false, false, false, false, false, false, false, false, true, true, true, true, true, true, true, false, true, true, true] 77 (listed' := #[true, true, true, true, true, true, true, true, true, true, true, true, true, true, true, true, true, true, true, true, true, true, true, true, false, true, true, true, false, false, false, false, false, false, false, false]) rfl (by kernel_rfl) (by kernel_rfl) (by kernel_rfl) (by kernel_rfl) (by kernel_rfl) (by kernel_rfl) (by decide) (fun _ _ _ _ h => h) rfl ⟨_, _, h6.pk3 [0, 2, 1]⟩ (fun wq hq => ?_) ?_; rotate_left 1
            · simp only [maskL]
              obtain ⟨k2, Z, hq⟩ := hq
              have q0 := hq.blk.some_ (i := 0) rfl
              have q1 := hq.blk.some_ (i := 1) rfl
              repeat (go_big_quiet_step (fail))
              exact wpQuiet_nil rfl
            refine wpAnyB_bar [false, false, false, false, false, false, false, false, false, false, false, false, false, false, false, false, false, false, false, false, false, false, false, false, true] (fuel := 8) (by rfl) (by rfl) (by kernel_rfl) (fun QB hQB hQX => ?_)
            simp only [maskL]
            go_wp2_with fail
            refine (wr_step w _ _ a m C z x (ps.drop (j + 1)) (vs.drop (j + 1)) (h6.pk4 [1, 3, 0, 2]) HK.out hzr).mono ?_
            rintro e w8 ⟨rfl, h7⟩
            rw [← HA.out]
            rw [← HC'.out] at h7
            replace h6 : Hold w w8 (prA gp m r * (wrA a (ps.drop (j + 1)) (vs.drop (j + 1)) * (stX b 1 ps (some bd) c1 j ly * (memA m C' * (refA r cf17 C * Asr.emp))))) := h7.pk4 [2, 0, 3, 1]
            clear h7
            go_wp2_with fail
            refine hQB.out _ _ ⟨_, _, h6.pk3 [0, 2, 1]⟩ ?_
            clear hQB hQX QB
            refine wpAnyB_bar [false, false, false, false, false, false, false, false, false, false, false, false, false, false, false, false, false, false, false, false, false, false, false, false, false, false, false, false, true] (fuel := 7) (by rfl) (by rfl) (by kernel_rfl) (fun QB hQB hQX => ?_)
            simp only [maskL]
            go_wp2_with fail
            refine (st_step w _ _ b r cf17 C 1 z x ps _ c1 j ly (h6.pk5 [2, 4, 0, 1, 3]) HK.out hjl hp12 HZ.out.1 HZ.out.2).mono ?_
            rintro e w9 ⟨rfl, h7⟩
            rw [← HA.out]
            rw [← HC'.out] at h7
            replace h6 : Hold w w9 (prA gp m r * (wrA a (ps.drop (j + 1)) (vs.drop (j + 1)) * (stX b 1 ps (some bd) c1 (j + 1) ly * (memA m C' * (refA r cf17 C' * Asr.emp))))) := h7.pk5 [2, 3, 0, 4, 1]
            clear h7
            go_wp2_with fail
            refine hQB.out _ _ ⟨_, _, h6.pk3 [0, 2, 1]⟩ ?_
            clear hQB hQX QB
            refine' wpAnyB_bulk [false, false, false, false, false, false, false, false, false, false, false, false, false, false, false, false, false, false, false, false, false, false, false, false, false, false, false, false, false, true, true, true, true] 77 (listed' := #[true, true, true, true, true, true, true, true, true, true, true, true, true, true, true, true, true, true, true, true, true, true, true, true, true, true, true, true, true, true, true, true, true, false, false, false]) rfl (by kernel_rfl) (by kernel_rfl) (by kernel_rfl) (by kernel_rfl) (by kernel_rfl) (by kernel_rfl) (by decide) (fun _ _ _ _ h => h) rfl ⟨_, _, h6.pk3 [0, 2, 1]⟩ (fun wq hq => ?_) ?_; rotate_left 1
            · simp only [maskL]
              obtain ⟨k2, Z, hq⟩ := hq
              have q0 := hq.blk.some_ (i := 0) rfl
              have q1 := hq.blk.some_ (i := 1) rfl
              repeat (go_big_quiet_step (fail))
              exact wpQuiet_nil rfl
            refine wpAnyB_bar [false, false, false, false, false, false, false, false, false, false, false, false, false, false, false, false, false, false, false, false, false, false, false, false, false, false, false, false, false, false, false, false, false, true] (fuel := 2) (by rfl) (by rfl) (by kernel_rfl) (fun QB hQB hQX => ?_)
            simp only [maskL]
            go_wp2_with fail
            refine (pair_same w _ _ m r cf17 C' (h6.pk5 [3, 4, 0, 1, 2]) HK'.out).mono ?_
            rintro e w10 ⟨rfl, h7⟩
            have H6 : Hid (VF17 w gp a b m r ps vs (some bd) c1 ly C' (i + 1) w10) := hid ⟨j + 1, hjl, h7.pk5 [2, 3, 4, 0, 1]⟩
            clear h6 h7
            go_wp2_with fail
            refine hQB.out _ _ (by obtain ⟨_, _, h8⟩ := H6.out; exact ⟨_, _, h8.pk3 [0, 2, 1]⟩) ?_
            clear hQB hQX QB
            refine' wpAnyB_bulk [false, false, false, false, false, false, false, false, false, false, false, false, false, false, false, false, false, false, false, false, false, false, false, false, false, false, false, false, false, false, false, false, false, false, true, true] 77 (listed' := #[true, true, true, true, true, true, true, true, true, true, true, true, true, true, true, true, true, true, true, true, true, true, true, true, true, true, true, true, true, true, true, true, true, true, true, true]) rfl (by kernel_rfl) (by kernel_rfl) (by kernel_rfl) (by kernel_rfl) (by kernel_rfl) (by kernel_rfl) (by decide) (fun _ _ _ _ h => h) rfl (by first | exact ⟨_, _, h6.pk3 [0, 2, 1]⟩ | (obtain ⟨_, _, h8⟩ := H6.out; exact ⟨_, _, h8.pk3 [0, 2, 1]⟩)) (fun wq hq => ?_) ?_; rotate_left 1
            · simp only [maskL]
              obtain ⟨k2, Z, hq⟩ := hq
              have q0 := hq.blk.some_ (i := 0) rfl
              have q1 := hq.blk.some_ (i := 1) rfl
              repeat (go_big_quiet_step (fail))
              exact wpQuiet_nil rfl
            refine wpAnyB_done (by kernel_rfl) ?_ _
            -- END
            go_wp2_with fail
            go_round
            case rel => exact ⟨i + 1, C', by omega, by go_num, HK'.out, H6.out⟩
            case measure => simp [intOf]; omega
          · simp only [maskL]
            have p3 := (h6.pk3 [2, 0, 1]).part.blk.some_ (i := 3) (u := .int .i64 (j : Int)) rfl
            go_wp2_with fail
            refine hQB.out _ _ ⟨_, _, h6.pk3 [0, 2, 1]⟩ ?_
            clear hQB hQX QB p3
            refine' wpAnyB_bulk [false, false, false, false, false, false, false, false, false, false, false, false, false, false, false, false, false, true] 77 (listed' := #[true, true, true, true, true, true, true, false, true, true, true, true, true, true, true, true, true, true, false, false, false, false, false, false, false, false, false, false, false, false, false, false, false, false, false, false]) rfl (by kernel_rfl) (by kernel_rfl) (by kernel_rfl) (by kernel_rfl) (by kernel_rfl) (by kernel_rfl) (by decide) (fun _ _ _ _ h => h) rfl ⟨_, _, h6.pk3 [0, 2, 1]⟩ (fun wq hq => ?_) ?_; rotate_left 1
            · simp only [maskL]
              obtain ⟨k2, Z, hq⟩ := hq
              have q0 := hq.blk.some_ (i := 0) rfl
              have q1 := hq.blk.some_ (i := 1) rfl
              repeat (go_big_quiet_step (fail))
              exact wpQuiet_nil rfl
            refine wpAnyB_bar [false, false, false, false, false, false, false, true] (fuel := 18) (by rfl) (by rfl) (by kernel_rfl) (fun QB hQB hQX => ?_)
            simp only [maskL]
            go_wp2_with fail
            refine (wr_left w _ _ a (z :: ps.drop (j + 1)) (x :: vs.drop (j + 1)) (h6.pk2 [1, 0])).mono ?_
            rintro e w' ⟨rfl, rfl⟩
            rw [hL]
            go_wp2_with fail
            refine hQB.out _ _ ⟨_, _, h6.pk3 [0, 2, 1]⟩ ?_
            clear hQB hQX QB
            refine' wpAnyB_bulk [false, false, false, false, false, false, false, false, false, false, false, false, false, false, false, false, false, false, true, true, true, true, true, true, false, true, true, true] 77 (listed' := #[true, true, true, true, true, true, true, true, true, true, true, true, true, true, true, true, true, true, true, true, true, true, true, true, false, true, true, true, false, false, false, false, false, false, false, false]) rfl (by kernel_rfl) (by kernel_rfl) (by kernel_rfl) (by kernel_rfl) (by kernel_rfl) (by kernel_rfl) (by decide) (fun _ _ _ _ h => h) rfl ⟨_, _, h6.pk3 [0, 2, 1]⟩ (fun wq hq => ?_) ?_; rotate_left 1
            · simp only [maskL]
              obtain ⟨k2, Z, hq⟩ := hq
              have q0 := hq.blk.some_ (i := 0) rfl
              have q1 := hq.blk.some_ (i := 1) rfl
              repeat (go_big_quiet_step (fail))
              exact wpQuiet_nil rfl
            refine wpAnyB_bar [false, false, false, false, false, false, false, false, false, false, false, false, false, false, false, false, false, false, false, false, false, false, false, false, true] (fuel := 8) (by rfl) (by rfl) (by kernel_rfl) (fun QB hQB hQX => ?_)
            simp only [maskL]
            go_wp2_with fail
            refine (wr_step w _ _ a m C z x (ps.drop (j + 1)) (vs.drop (j + 1)) (h6.pk4 [1, 3, 0, 2]) HK.out hzr).mono ?_
            rintro e w8 ⟨rfl, h7⟩
            rw [← HA.out]
            rw [← HC'.out] at h7
            replace h6 : Hold w w8 (prA gp m r * (wrA a (ps.drop (j + 1)) (vs.drop (j + 1)) * (stX b 1 ps (some bd) c1 j ly * (memA m C' * (refA r cf17 C * Asr.emp))))) := h7.pk4 [2, 0, 3, 1]
            clear h7
            go_wp2_with fail
            refine hQB.out _ _ ⟨_, _, h6.pk3 [0, 2, 1]⟩ ?_
            clear hQB hQX QB
            refine wpAnyB_bar [false, false, false, false, false, false, false, false, false, false, false, false, false, false, false, false, false, false, false, false, false, false, false, false, false, false, false, false, true] (fuel := 7) (by rfl) (by rfl) (by kernel_rfl) (fun QB hQB hQX => ?_)
            simp only [maskL]
            go_wp2_with fail
            refine (st_step w _ _ b r cf17 C 1 z x ps _ c1 j ly (h6.pk5 [2, 4, 0, 1, 3]) HK.out hjl hp12 HZ.out.1 HZ.out.2).mono ?_
            rintro e w9 ⟨rfl, h7⟩
            rw [← HA.out]
            rw [← HC'.out] at h7
            replace h6 : Hold w w9 (prA gp m r * (wrA a (ps.drop (j + 1)) (vs.drop (j + 1)) * (stX b 1 ps (some bd) c1 (j + 1) ly * (memA m C' * (refA r cf17 C' * Asr.emp))))) := h7.pk5 [2, 3, 0, 4, 1]
            clear h7
            go_wp2_with fail
            refine hQB.out _ _ ⟨_, _, h6.pk3 [0, 2, 1]⟩ ?_
            clear hQB hQX QB
            refine' wpAnyB_bulk [false, false, false, false, false, false, false, false, false, false, false, false, false, false, false, false, false, false, false, false, false, false, false, false, false, false, false, false, false, true, true, true, true] 77 (listed' := #[true, true, true, true, true, true, true, true, true, true, true, true, true, true, true, true, true, true, true, true, true, true, true, true, true, true, true, true, true, true, true, true, true, false, false, false]) rfl (by kernel_rfl) (by kernel_rfl) (by kernel_rfl) (by kernel_rfl) (by kernel_rfl) (by kernel_rfl) (by decide) (fun _ _ _ _ h => h) rfl (by first | exact ⟨_, _, h6.pk3 [0, 2, 1]⟩ | (obtain ⟨_, _, h8⟩ := H6.out; exact ⟨_, _, h8.pk3 [0, 2, 1]⟩)) (fun wq hq => ?_) ?_; rotate_left 1
            · simp only [maskL]
              obtain ⟨k2, Z, hq⟩ := hq
              have q0 := hq.blk.some_ (i := 0) rfl
              have q1 := hq.blk.some_ (i := 1) rfl
              repeat (go_big_quiet_step (fail))
              exact wpQuiet_nil rfl
            refine wpAnyB_bar [false, false, false, false, false, false, false, false, false, false, false, false, false, false, false, false, false, false, false, false, false, false, false, false, false, false, false, false, false, false, false, false, false, true] (fuel := 2) (by rfl) (by rfl) (by kernel_rfl) (fun QB hQB hQX => ?_)
            simp only [maskL]
            go_wp2_with fail
            refine (pair_same w _ _ m r cf17 C' (h6.pk5 [3, 4, 0, 1, 2]) HK'.out).mono ?_
            rintro e w10 ⟨rfl, h7⟩
            have H6 : Hid (VF17 w gp a b m r ps vs (some bd) c1 ly C' (i + 1) w10) := hid ⟨j + 1, hjl, h7.pk5 [2, 3, 4, 0, 1]⟩
            clear h6 h7
            go_wp2_with fail
            refine hQB.out _ _ (by obtain ⟨_, _, h8⟩ := H6.out; exact ⟨_, _, h8.pk3 [0, 2, 1]⟩) ?_
            clear hQB hQX QB
            refine' wpAnyB_bulk [false, false, false, false, false, false, false, false, false, false, false, false, false, false, false, false, false, false, false, false, false, false, false, false, false, false, false, false, false, false, false, false, false, false, true, true] 77 (listed' := #[true, true, true, true, true, true, true, true, true, true, true, true, true, true, true, true, true, true, true, true, true, true, true, true, true, true, true, true, true, true, true, true, true, true, true, true]) rfl (by kernel_rfl) (by kernel_rfl) (by kernel_rfl) (by kernel_rfl) (by kernel_rfl) (by kernel_rfl) (by decide) (fun _ _ _ _ h => h) rfl (by obtain ⟨_, _, h8⟩ := H6.out; exact ⟨_, _, h8.pk3 [0, 2, 1]⟩) (fun wq hq => ?_) ?_; rotate_left 1
            · simp only [maskL]
              repeat (go_big_quiet_step (fail))
              exact wpQuiet_nil rfl
            refine wpAnyB_done (by kernel_rfl) ?_ _
            -- END
            go_wp2_with fail
            go_round
            case rel => exact ⟨i + 1, C', by omega, by go_num, HK'.out, H6.out⟩
            case measure => simp [intOf]; omega
      · obtain rfl : i = 14 := by omega
        have e1 : decide (((14 : Nat) : Int) < 14) = false := rfl
        go_wp2_with fail
        refine (awake17_any w _ _ h6).mono ?_
        rintro e w10 ⟨rfl, h7⟩
        have H7 := hid h7.below
        clear h6 h7
        go_wp2_with fail
        go_ret
        exact ⟨rfl, H7.out⟩
end Go.Proofs.Ytddghhddafeojaa
