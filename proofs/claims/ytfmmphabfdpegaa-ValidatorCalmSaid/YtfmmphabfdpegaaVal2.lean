/- ValidatorFollows. -/
import Derived.Test.YtfmmphabfdpegaaVal
import Derived.Deep.DeepCutAuto
namespace Go.Proofs.Ytfmmphabfdpegaa
open Go.RowKit
set_option linter.unusedVariables false

/-- The orecs' words are small. -/
structure VR (C : Nat → List Int) : Prop where
  len : (C 2).length = 6
  lt : ∀ x ∈ C 2, 0 ≤ x ∧ x ≤ 260
theorem VR.val {C : Nat → List Int} (h : VR C) (z : Int) : 0 ≤ valC C 2 z ∧ valC C 2 z ≤ 260 := by
  unfold valC
  rw [show getC C 2 = C 2 from getC_at (k := 2) (by decide) (by decide)]
  by_cases hz : z.toNat < (C 2).length
  · rw [getD_at hz]; exact h.lt _ (List.getElem_mem hz)
  · rw [getD_none (by omega)]; omega
theorem VR.got {C : Nat → List Int} (h : VR C) (z : Int) : 0 ≤ (opA C 1 2 z (valC C 2 z) true).got ∧ (opA C 1 2 z (valC C 2 z) true).got < 18446744073709551616 := by
  have := h.val z
  unfold opA
  split
  · exact ⟨this.1, by show valC C 2 z < _; omega⟩
  · exact ⟨by decide, by decide⟩
theorem VR.has {C : Nat → List Int} (h : VR C) {o : Int} (h0 : 0 ≤ o) (h1 : o < 6) : hasC C 2 o := ⟨h0, by
  rw [show getC C 2 = C 2 from getC_at (k := 2) (by decide) (by decide), h.len]; omega⟩
theorem VR.set {C : Nat → List Int} (h : VR C) (o : Int) {x : Int} (hx : 0 ≤ x ∧ x ≤ 260) : VR (opC C 2 o x true) := by
  refine ⟨by rw [opC_len2]; exact h.len, fun y hy => ?_⟩
  unfold opC at hy
  split at hy
  · rw [show ((2 : Int).toNat) = 2 from rfl, setK_eq] at hy
    rcases List.mem_or_eq_of_mem_set hy with h1 | h1
    · exact h.lt _ h1
    · rw [h1]; exact hx
  · exact h.lt _ hy
theorem lst16_lt (xs : List Int) : ∀ x ∈ lst16 xs, 0 ≤ x ∧ x < 6 := by
  intro x hx
  obtain ⟨y, _, rfl⟩ := List.mem_map.1 hx
  exact ⟨place_nonneg y 6 (by omega), place_lt y 6 (by omega)⟩
theorem vs0_vr : VR vs0 := ⟨rfl, by decide⟩
def VF (w : World) (gp a b m r : Nat) (xs : List Int) (v : Int) (C : Nat → List Int) (i : Nat) (wx : World) : Prop :=
  ∃ (k : Nat) (f : Bool), k ≤ xs.length ∧ (f = false → k = min i xs.length) ∧ Hold w wx (prA gp m r * (chkA a (xs.drop k) v f * (rchkA b xs v k f * (memA m C * (refA r cf16 C * Asr.emp)))))
theorem done_eq {xs : List Int} {k : Nat} {f : Bool} (hk : k ≤ xs.length) : (f || (xs.drop k).isEmpty) = rdoneB xs k f := by
  unfold rdoneB
  cases f
  · simp only [Bool.false_or]
    rw [Bool.eq_iff_iff]
    simp [List.isEmpty_iff, List.drop_eq_nil_iff]
    omega
  · rfl
set_option maxRecDepth 8000 in
set_option maxHeartbeats 8000000 in
theorem validatorFollows_any (w : World) (A0 A2 A3 : Option Addr) (n0 n2 n3 c0 c2 c3 b0 b2 b3 : Nat) (rv : Int) (x0 x2 x3 : List Int)
    (hA0 : Reads w b0 A0 n0 (x0.map (Value.int .i64))) (hA2 : Reads w b2 A2 n2 (x2.map (Value.int .i64))) (hA3 : Reads w b3 A3 n3 (x3.map (Value.int .i64)))
    (l0 : n0 ≤ 9223372036854775807) (l2 : n2 ≤ 9223372036854775807) (l3 : n3 ≤ 9223372036854775807) :
    Calls Try.prog 11 #[.slice A0 n0 c0, .int .i64 rv, .slice A2 n2 c2, .slice A3 n3 c3] w (fun e w' => e = .returned (.bool true) ∧ Below w.heap.size w w') := by
  have H0 := hid hA0
  have H2 := hid hA2
  have H3 := hid hA3
  clear hA0 hA2 hA3
  go_enter Try.func11, Try.ntmps11
  go_wp2_with fail
  refine (config16 w _ _ (Hold.start w)).mono ?_
  rintro e w1 ⟨rfl, h1⟩
  go_wp2_with fail
  refine (lab_start w _ _ cf16 2 cf16_ok (by decide) h1).mono ?_
  rintro e w2 ⟨m, r, rfl, h2⟩
  have h3 : Hold w _ (prA w2.heap.size m r * (memA m vs0 * (refA r cf16 vs0 * Asr.emp))) := h2.newBlk (t := 66) (cs := #[.pointer (some ⟨m, 0, none⟩), .pointer (some ⟨r, 0, none⟩)])
  have H4 := hid h3
  clear h1 h2 h3
  go_wp2_with fail
  have h4 := H4.out
  generalize hW : World.alloc _ _ = W at h4 ⊢
  generalize w2.heap.size = gp at h4 ⊢
  clear hW H4
  go_loopw [11] (fun i wr => ∃ (o : Nat) (C : Nat → List Int), o ≤ 6 ∧ i = .int .i64 o ∧ COk C ∧ VR C ∧ Hold w wr (prA gp m r * (memA m C * (refA r cf16 C * Asr.emp)))) (fun i _ => 6 - (intOf i).toNat)
  case atStart => exact ⟨0, vs0, by omega, rfl, vs0_ok, vs0_vr, h4⟩
  case round =>
    clear h4
    obtain ⟨o, C, ho, rfl, hC, hV, h5⟩ := hrel
    have HK := hid (And.intro hC hV)
    clear hC hV
    by_cases hlt : o < 6
    · have e1 : decide ((o : Int) < 6) = true := decide_eq_true (by omega)
      go_wp2_with fail
      obtain ⟨y, hy⟩ : ∃ y, y = x2.getD o 0 := ⟨_, rfl⟩
      have HY := hid hy
      clear hy
      obtain ⟨wd, hwd⟩ : ∃ wd, wd = word16 y := ⟨_, rfl⟩
      have hwl := word16_lt y
      rw [← hwd] at hwl
      have HW := hid hwd
      clear hwd
      replace h5 := h5.drew
      refine wp_region_brk [] (by kernel_rfl) ?_
      refine wpAnyB_now (fun w' => ∃ Z, Hold w w' (prA gp m r * Z)) (fun _ _ => trivial) _ _ _ _ ?_
      refine' wpAnyB_bulk [true, true, true, true] 119 (listed' := #[true, true, true, true, false, false, false, false]) rfl (by kernel_rfl) (by kernel_rfl) (by kernel_rfl) (by kernel_rfl) (by kernel_rfl) (by kernel_rfl) (by decide) (fun _ _ _ _ h => h) rfl ⟨_, h5⟩ (fun wq hq => ?_) ?_; rotate_left 1
      · simp only [maskL]
        obtain ⟨Z, hq⟩ := hq
        have q0 := hq.blk.some_ (i := 0) rfl
        have q1 := hq.blk.some_ (i := 1) rfl
        repeat (go_big_quiet_step (fail))
        exact wpQuiet_nil rfl
      refine wpAnyB_bar [false, false, false, false, true] (fuel := 3) (by rfl) (by rfl) (by kernel_rfl) (fun QB hQB hQX => ?_)
      simp only [maskL]
      go_wp2_with fail
      refine (at_nat _ A2 n2 c2 _ x2 o (H2.out.below h5.below) l2).mono ?_
      rintro e w' ⟨rfl, rfl⟩
      rw [← HY.out]
      go_wp2_with fail
      refine hQB.out _ _ ⟨_, h5⟩ ?_
      clear hQB hQX QB
      refine wpAnyB_bar [false, false, false, false, false, true] (fuel := 2) (by rfl) (by rfl) (by kernel_rfl) (fun QB hQB hQX => ?_)
      simp only [maskL]
      go_wp2_with fail
      refine (word16_any _ _).mono ?_
      rintro e w' ⟨rfl, rfl⟩
      rw [← HW.out]
      go_wp2_with fail
      refine hQB.out _ _ ⟨_, h5⟩ ?_
      clear hQB hQX QB
      refine wpAnyB_bar [false, false, false, false, false, false, true] (fuel := 1) (by rfl) (by rfl) (by kernel_rfl) (fun QB hQB hQX => ?_)
      simp only [maskL]
      go_wp2_with fail
      refine (pair_set w _ _ m r cf16 C 2 o wd (h5.pk3 [1, 2, 0]) HK.out.1 (HK.out.2.has (by omega) (by omega)) (by omega)).mono ?_
      rintro e w6 ⟨rfl, h6⟩
      replace h6 : Hold w w6 (prA gp m r * (memA m (opC C 2 o wd true) * (refA r cf16 (opC C 2 o wd true) * Asr.emp))) := h6.pk3 [2, 0, 1]
      clear h5
      go_wp2_with fail
      refine hQB.out _ _ ⟨_, h6⟩ ?_
      clear hQB hQX QB
      refine' wpAnyB_bulk [false, false, false, false, false, false, false, true] 119 (listed' := #[true, true, true, true, true, true, true, true]) rfl (by kernel_rfl) (by kernel_rfl) (by kernel_rfl) (by kernel_rfl) (by kernel_rfl) (by kernel_rfl) (by decide) (fun _ _ _ _ h => h) rfl ⟨_, h6⟩ (fun wq hq => ?_) ?_; rotate_left 1
      · simp only [maskL]
        repeat (go_big_quiet_step (fail))
        exact wpQuiet_nil rfl
      refine wpAnyB_done (by kernel_rfl) ?_ _
      have H6 := hid h6
      clear h6
      go_wp2_with fail
      go_round
      case rel => exact ⟨o + 1, _, by omega, by go_num, HK.out.1.opC _ _ _ _, HK.out.2.set _ hwl, H6.out⟩
      case measure => simp [intOf]; omega
    · obtain rfl : o = 6 := by omega
      have e1 : decide (((6 : Nat) : Int) < 6) = false := rfl
      clear hlt ho
      obtain ⟨v, hv⟩ : ∃ v, v = place rv 6 := ⟨_, rfl⟩
      have Hv := hid hv
      clear hv
      go_wp2_with fail
      refine (place_any _ _ _ (by omega) (by omega)).mono ?_
      rintro e w' ⟨rfl, rfl⟩
      rw [← Hv.out]
      go_wp2_with fail
      refine (orecs_any w _ _ A0 n0 c0 _ x0 h5 H0.out l0).mono ?_
      rintro e w6 ⟨A6, c6, rfl, h6⟩
      obtain ⟨xs, hxs⟩ : ∃ xs, xs = lst16 (x0.take (min n0 12)) := ⟨_, rfl⟩
      have hxl : xs.length = min n0 12 := by
        rw [hxs]; have := H0.out.len; simp [lst16] at this ⊢; omega
      have hxe := lst16_lt (x0.take (min n0 12))
      rw [← hxs] at h6 hxe
      have HX := hid (And.intro hxs (And.intro hxl hxe))
      clear hxs hxe h5
      rw [← hxl] at h6
      rw [← hxl]
      have hx12 : xs.length ≤ 12 := by omega
      clear hxl
      go_wp2_with fail
      refine (chk_new w _ _ A6 _ c6 _ xs v h6 h6.rowReads (by omega)).mono ?_
      rintro e w7 ⟨a, rfl, h7⟩
      clear h6
      go_wp2_with fail
      refine (orecs_any w _ _ A0 n0 c0 _ x0 h7 H0.out l0).mono ?_
      rintro e w8 ⟨A8, c8, rfl, h8⟩
      rw [← HX.out.1, ← HX.out.2.1] at h8
      rw [← HX.out.2.1]
      clear h7
      go_wp2_with fail
      refine (rchk_new w _ _ A8 c8 xs v (h8.imp (Imp.on _ (Imp.rowSl _ _ _ _ _)))).mono ?_
      rintro e w9 ⟨b, rfl, h9⟩
      have h10 : VF w gp a b m r xs v C 0 w9 := ⟨0, false, by omega, fun _ => by omega, h9.pk6 [3, 1, 0, 4, 5]⟩
      have H10 := hid h10
      clear h8 h9 h10
      go_wp2_with fail
      go_loopw [15] (fun i wr => ∃ (j : Nat) (C : Nat → List Int), j ≤ 14 ∧ i = .int .i64 j ∧ COk C ∧ VR C ∧ VF w gp a b m r xs v C j wr) (fun i _ => 14 - (intOf i).toNat)
      case atStart => exact ⟨0, C, by omega, rfl, HK.out.1, HK.out.2, H10.out⟩
      case round =>
        clear H10 HK e1
        obtain ⟨j, C, hj, rfl, hC, hV, k, f, hk, hf, h6⟩ := hrel
        have HK := hid (And.intro hC hV)
        clear hC hV
        by_cases hlt : j < 14
        · have e1 : decide ((j : Int) < 14) = true := decide_eq_true (by omega)
          have Hfk := hid hf
          clear hf
          go_upto_region 16 with fail
          go_cut [15, 81] (fun s t wx => s = .int .i64 j ∧ t = .bool false ∧ VF w gp a b m r xs v C (j + 1) wx)
          case first =>
            replace h6 := h6.drew
            by_cases hd : rdoneB xs k f = true
            · have HD := hid hd
              have HF2 : Hid (f = false → k = min (j + 1) xs.length) := hid (fun h => by
                have := Hfk.out h
                subst h
                simp [rdoneB] at hd
                omega)
              clear hd Hfk
              refine wp_region_brk [12] (by kernel_rfl) ?_
              refine wpAnyB_now (fun w' => ∃ Z, Hold w w' (prA gp m r * (rchkA b xs v k f * Z))) (fun _ _ => trivial) _ _ _ _ ?_
              refine' wpAnyB_bulkT [true, false, true] 119 (listed' := #[true, false, true, false, false, false, false, false, false, false, false, false, false, false, false, false, false, false, false, false, false, false, false, false, false, false, false, false, false, false]) rfl (by kernel_rfl) (by kernel_rfl) (by kernel_rfl) (by kernel_rfl) (by kernel_rfl) (by decide) (fun _ _ _ _ h => h) rfl ⟨_, h6.pk3 [0, 2, 1]⟩ (fun wq _ => ?_) ?_; rotate_left 1
              · simp only [maskL]
                repeat (go_big_quiet_step (fail))
                exact wpQuiet_nil rfl
              refine wpAnyB_bar [false, true] (fuel := 27) (by rfl) (by rfl) (by kernel_rfl) (fun QB hQB hQX => ?_)
              simp only [maskL]
              go_wp2_with fail
              refine (chk_done w _ _ a (xs.drop k) v f (h6.pk2 [1, 0])).mono ?_
              rintro e w' ⟨rfl, rfl⟩
              rw [done_eq hk, HD.out]
              go_wp2_with fail
              refine hQB.out _ _ ⟨_, h6.pk3 [0, 2, 1]⟩ ?_
              clear hQB hQX QB
              refine wpAnyB_bar [false, false, false, true] (fuel := 26) (by rfl) (by rfl) (by kernel_rfl) (fun QB hQB hQX => ?_)
              simp only [maskL]
              go_wp2_with fail
              refine (rchk_done w _ _ b xs v k f (h6.pk3 [2, 0, 1])).mono ?_
              rintro e w7 ⟨rfl, h7⟩
              rw [HD.out]
              replace h6 : Hold w w7 (prA gp m r * (chkA a (xs.drop k) v f * (rchkA b xs v k f * (memA m C * (refA r cf16 C * Asr.emp))))) := h7.pk3 [1, 2, 0]
              clear h7
              go_wp2_with fail
              refine hQB.out _ _ ⟨_, h6.pk3 [0, 2, 1]⟩ ?_
              clear hQB hQX QB
              refine' wpAnyB_bulkT [false, false, false, false, true, true, true, false, true, true, true] 119 (listed' := #[true, true, true, true, true, true, true, false, true, true, true, false, false, false, false, false, false, false, false, false, false, false, false, false, false, false, false, false, false, false]) rfl (by kernel_rfl) (by kernel_rfl) (by kernel_rfl) (by kernel_rfl) (by kernel_rfl) (by decide) (fun _ _ _ _ h => h) rfl ⟨_, h6.pk3 [0, 2, 1]⟩ (fun wq _ => ?_) ?_; rotate_left 1
              · simp only [maskL]
                repeat (go_big_quiet_step (fail))
                exact wpQuiet_nil rfl
              refine' wpAnyB_bulk [false, false, false, false, false, false, false, false, false, false, false, true] 119 (listed' := #[true, true, true, true, true, true, true, false, true, true, true, true, false, false, false, false, false, false, false, false, false, false, false, false, false, false, false, false, false, false]) rfl (by kernel_rfl) (by kernel_rfl) (by kernel_rfl) (by kernel_rfl) (by kernel_rfl) (by kernel_rfl) (by decide) (fun _ _ _ _ h => h) rfl ⟨_, h6.pk3 [0, 2, 1]⟩ (fun wq hq => ?_) ?_; rotate_left 1
              · simp only [maskL]
                obtain ⟨Z, hq⟩ := hq
                obtain ⟨_, _, hr⟩ := hq.swap.rchkOpen
                have q3 := hr.blk.some_ (i := 3) rfl
                repeat (go_big_quiet_step (fail))
                exact wpQuiet_nil rfl
              refine wpAnyB_bar [false, false, false, false, false, false, false, true] (fuel := 18) (by rfl) (by rfl) (by kernel_rfl) (fun QB hQB hQX => ?_)
              simp only [maskL]
              go_wp2_with fail
              refine (chk_failed w _ _ a (xs.drop k) v f (h6.pk2 [1, 0])).mono ?_
              rintro e w' ⟨rfl, rfl⟩
              go_wp2_with fail
              refine hQB.out _ _ ⟨_, h6.pk3 [0, 2, 1]⟩ ?_
              clear hQB hQX QB
              refine wpAnyB_brk [false, false, false, false, false, false, false, false, false, false, false, false, true] (fuel := 17) (by rfl) (by rfl) (by kernel_rfl) (by kernel_rfl) (fun QB hQB hQX => ?_)
              simp only [maskL]
              go_wp2_with fail
              refine hQB.out _ _ ?_
              clear hQB hQX QB
              refine wpAnyB_forget (by kernel_rfl) ?_
              refine wpAnyB_now (fun w' => ∃ Z, Hold w w' (prA gp m r * Z)) (fun _ _ => trivial) _ _ _ _ ?_
              refine' wpAnyB_bulk [false, false, false, false, false, false, false, false, false, false, false, false, false, true, true, true, true, true, false, true, true, true] 119 (listed' := #[true, true, true, true, true, true, true, true, true, true, true, true, true, true, true, true, true, true, false, true, true, true, false, false, false, false, false, false, false, false]) rfl (by kernel_rfl) (by kernel_rfl) (by kernel_rfl) (by kernel_rfl) (by kernel_rfl) (by kernel_rfl) (by decide) (fun _ _ _ _ h => h) rfl ⟨_, h6⟩ (fun wq hq => ?_) ?_; rotate_left 1
              · simp only [maskL]
                obtain ⟨Z, hq⟩ := hq
                have q0 := hq.blk.some_ (i := 0) rfl
                have q1 := hq.blk.some_ (i := 1) rfl
                repeat (go_big_quiet_step (fail))
                exact wpQuiet_nil rfl
              refine wpAnyB_bar [false, false, false, false, false, false, false, false, false, false, false, false, false, false, false, false, false, false, true] (fuel := 8) (by rfl) (by rfl) (by kernel_rfl) (fun QB hQB hQX => ?_)
              simp only [maskL]
              go_wp2_with fail
              refine (chk_step_done w _ _ a _ (xs.drop k) v f (h6.pk2 [1, 0]) (by rw [done_eq hk]; exact HD.out)).mono ?_
              rintro e w8 ⟨rfl, h7⟩
              replace h6 : Hold w w8 (prA gp m r * (chkA a (xs.drop k) v f * (rchkA b xs v k f * (memA m C * (refA r cf16 C * Asr.emp))))) := h7.pk2 [1, 0]
              clear h7
              unfold acc0
              go_wp2_with fail
              refine hQB.out _ _ ⟨_, h6⟩ ?_
              clear hQB hQX QB
              refine wpAnyB_bar [false, false, false, false, false, false, false, false, false, false, false, false, false, false, false, false, false, false, false, false, false, false, true] (fuel := 7) (by rfl) (by rfl) (by kernel_rfl) (fun QB hQB hQX => ?_)
              simp only [maskL]
              go_wp2_with fail
              refine (rchk_step_done w _ _ b _ xs v k f (h6.pk3 [2, 0, 1]) HD.out).mono ?_
              rintro e w9 ⟨rfl, h7⟩
              replace h6 : Hold w w9 (prA gp m r * (chkA a (xs.drop k) v f * (rchkA b xs v k f * (memA m C * (refA r cf16 C * Asr.emp))))) := h7.pk3 [1, 2, 0]
              clear h7
              unfold acc0
              go_wp2_with fail
              refine hQB.out _ _ ⟨_, h6⟩ ?_
              clear hQB hQX QB
              refine' wpAnyB_bulk [false, false, false, false, false, false, false, false, false, false, false, false, false, false, false, false, false, false, false, false, false, false, false, true, true, true, true] 119 (listed' := #[true, true, true, true, true, true, true, true, true, true, true, true, true, true, true, true, true, true, true, true, true, true, true, true, true, true, true, false, false, false]) rfl (by kernel_rfl) (by kernel_rfl) (by kernel_rfl) (by kernel_rfl) (by kernel_rfl) (by kernel_rfl) (by decide) (fun _ _ _ _ h => h) rfl ⟨_, h6⟩ (fun wq hq => ?_) ?_; rotate_left 1
              · simp only [maskL]
                obtain ⟨Z, hq⟩ := hq
                have q0 := hq.blk.some_ (i := 0) rfl
                have q1 := hq.blk.some_ (i := 1) rfl
                repeat (go_big_quiet_step (fail))
                exact wpQuiet_nil rfl
              refine wpAnyB_bar [false, false, false, false, false, false, false, false, false, false, false, false, false, false, false, false, false, false, false, false, false, false, false, false, false, false, false, true] (fuel := 2) (by rfl) (by rfl) (by kernel_rfl) (fun QB hQB hQX => ?_)
              simp only [maskL]
              go_wp2_with fail
              refine (pair_same w _ _ m r cf16 C (h6.pk5 [3, 4, 0, 1, 2]) HK.out.1).mono ?_
              rintro e w10 ⟨rfl, h7⟩
              replace h6 : Hold w w10 (prA gp m r * (chkA a (xs.drop k) v f * (rchkA b xs v k f * (memA m C * (refA r cf16 C * Asr.emp))))) := h7.pk5 [2, 3, 4, 0, 1]
              clear h7
              go_wp2_with fail
              refine hQB.out _ _ ⟨_, h6⟩ ?_
              clear hQB hQX QB
              refine' wpAnyB_bulk [false, false, false, false, false, false, false, false, false, false, false, false, false, false, false, false, false, false, false, false, false, false, false, false, false, false, false, false, true, true] 119 (listed' := #[true, true, true, true, true, true, true, true, true, true, true, true, true, true, true, true, true, true, true, true, true, true, true, true, true, true, true, true, true, true]) rfl (by kernel_rfl) (by kernel_rfl) (by kernel_rfl) (by kernel_rfl) (by kernel_rfl) (by kernel_rfl) (by decide) (fun _ _ _ _ h => h) rfl ⟨_, h6⟩ (fun wq hq => ?_) ?_; rotate_left 1
              · simp only [maskL]
                repeat (go_big_quiet_step (fail))
                exact wpQuiet_nil rfl
              refine wpAnyB_done (by kernel_rfl) ?_ _
              go_wp2_with fail
              go_meet
              exact ⟨rfl, rfl, k, f, hk, HF2.out, h6⟩
            · have hd2 : rdoneB xs k f = false := by simpa using hd
              have HD := hid hd2
              obtain ⟨rfl, hkn⟩ : f = false ∧ k ≠ xs.length := by
                cases f
                · simpa [rdoneB] using hd
                · simp [rdoneB] at hd
              have hkl : k < xs.length := by omega
              obtain ⟨z, hz⟩ : ∃ z, z = xs.getD k 0 := ⟨_, rfl⟩
              have hzd : xs.drop k = z :: xs.drop (k + 1) := by rw [hz, getD_at hkl]; exact List.drop_eq_getElem_cons hkl
              have hzr := HX.out.2.2 z (by rw [hz]; exact getD_mem hkl)
              have HZ : Hid (xs.getD k 0 = z ∧ (-9223372036854775808 ≤ z ∧ z ≤ 9223372036854775807)) := hid ⟨hz.symm, by omega, by omega⟩
              obtain ⟨ac, ha⟩ : ∃ ac, ac = opA C 1 2 z (valC C 2 z) true := ⟨_, rfl⟩
              obtain ⟨fn, hfn⟩ : ∃ fn, fn = decide (v < ac.got / 64) := ⟨_, rfl⟩
              have HA := hid ha
              have HFN := hid hfn
              have HF2 : Hid (fn = false → k + 1 = min (j + 1) xs.length) := hid (fun _ => by have := Hfk.out rfl; omega)
              rw [hzd] at h6
              clear hd hd2 hkn hz hzd hzr ha hfn Hfk
              refine wp_region_brk [12] (by kernel_rfl) ?_
              refine wpAnyB_now (fun w' => ∃ Z, Hold w w' (prA gp m r * (rchkA b xs v k false * Z))) (fun _ _ => trivial) _ _ _ _ ?_
              refine' wpAnyB_bulkT [true, false, true] 119 (listed' := #[true, false, true, false, false, false, false, false, false, false, false, false, false, false, false, false, false, false, false, false, false, false, false, false, false, false, false, false, false, false]) rfl (by kernel_rfl) (by kernel_rfl) (by kernel_rfl) (by kernel_rfl) (by kernel_rfl) (by decide) (fun _ _ _ _ h => h) rfl ⟨_, h6.pk3 [0, 2, 1]⟩ (fun wq _ => ?_) ?_; rotate_left 1
              · simp only [maskL]
                repeat (go_big_quiet_step (fail))
                exact wpQuiet_nil rfl
              refine wpAnyB_bar [false, true] (fuel := 27) (by rfl) (by rfl) (by kernel_rfl) (fun QB hQB hQX => ?_)
              simp only [maskL]
              go_wp2_with fail
              refine (chk_done w _ _ a (z :: xs.drop (k + 1)) v false (h6.pk2 [1, 0])).mono ?_
              rintro e w' ⟨rfl, rfl⟩
              rw [show (false || (z :: xs.drop (k + 1)).isEmpty) = false from rfl]
              go_wp2_with fail
              refine hQB.out _ _ ⟨_, h6.pk3 [0, 2, 1]⟩ ?_
              clear hQB hQX QB
              refine wpAnyB_bar [false, false, false, true] (fuel := 26) (by rfl) (by rfl) (by kernel_rfl) (fun QB hQB hQX => ?_)
              simp only [maskL]
              go_wp2_with fail
              refine (rchk_done w _ _ b xs v k false (h6.pk3 [2, 0, 1])).mono ?_
              rintro e w7 ⟨rfl, h7⟩
              rw [HD.out]
              replace h6 : Hold w w7 (prA gp m r * (chkA a (z :: xs.drop (k + 1)) v false * (rchkA b xs v k false * (memA m C * (refA r cf16 C * Asr.emp))))) := h7.pk3 [1, 2, 0]
              clear h7
              go_wp2_with fail
              refine hQB.out _ _ ⟨_, h6.pk3 [0, 2, 1]⟩ ?_
              clear hQB hQX QB
              refine' wpAnyB_bulkT [false, false, false, false, true, true, true, false, true, true, true] 119 (listed' := #[true, true, true, true, true, true, true, false, true, true, true, false, false, false, false, false, false, false, false, false, false, false, false, false, false, false, false, false, false, false]) rfl (by kernel_rfl) (by kernel_rfl) (by kernel_rfl) (by kernel_rfl) (by kernel_rfl) (by decide) (fun _ _ _ _ h => h) rfl ⟨_, h6.pk3 [0, 2, 1]⟩ (fun wq _ => ?_) ?_; rotate_left 1
              · simp only [maskL]
                repeat (go_big_quiet_step (fail))
                exact wpQuiet_nil rfl
              refine' wpAnyB_bulk [false, false, false, false, false, false, false, false, false, false, false, true] 119 (listed' := #[true, true, true, true, true, true, true, false, true, true, true, true, false, false, false, false, false, false, false, false, false, false, false, false, false, false, false, false, false, false]) rfl (by kernel_rfl) (by kernel_rfl) (by kernel_rfl) (by kernel_rfl) (by kernel_rfl) (by kernel_rfl) (by decide) (fun _ _ _ _ h => h) rfl ⟨_, h6.pk3 [0, 2, 1]⟩ (fun wq hq => ?_) ?_; rotate_left 1
              · simp only [maskL]
                obtain ⟨Z, hq⟩ := hq
                obtain ⟨_, _, hr⟩ := hq.swap.rchkOpen
                have q3 := hr.blk.some_ (i := 3) rfl
                repeat (go_big_quiet_step (fail))
                exact wpQuiet_nil rfl
              refine wpAnyB_bar [false, false, false, false, false, false, false, true] (fuel := 18) (by rfl) (by rfl) (by kernel_rfl) (fun QB hQB hQX => ?_)
              simp only [maskL]
              go_wp2_with fail
              refine (chk_failed w _ _ a (z :: xs.drop (k + 1)) v false (h6.pk2 [1, 0])).mono ?_
              rintro e w' ⟨rfl, rfl⟩
              go_wp2_with fail
              refine hQB.out _ _ ⟨_, h6.pk3 [0, 2, 1]⟩ ?_
              clear hQB hQX QB
              refine wpAnyB_brk [false, false, false, false, false, false, false, false, false, false, false, false, true] (fuel := 17) (by rfl) (by rfl) (by kernel_rfl) (by kernel_rfl) (fun QB hQB hQX => ?_)
              simp only [maskL]
              go_wp2_with fail
              refine hQB.out _ _ ?_
              clear hQB hQX QB
              refine wpAnyB_forget (by kernel_rfl) ?_
              refine wpAnyB_now (fun w' => ∃ Z, Hold w w' (prA gp m r * Z)) (fun _ _ => trivial) _ _ _ _ ?_
              refine' wpAnyB_bulk [false, false, false, false, false, false, false, false, false, false, false, false, false, true, true, true, true, true, false, true, true, true] 119 (listed' := #[true, true, true, true, true, true, true, true, true, true, true, true, true, true, true, true, true, true, false, true, true, true, false, false, false, false, false, false, false, false]) rfl (by kernel_rfl) (by kernel_rfl) (by kernel_rfl) (by kernel_rfl) (by kernel_rfl) (by kernel_rfl) (by decide) (fun _ _ _ _ h => h) rfl ⟨_, h6⟩ (fun wq hq => ?_) ?_; rotate_left 1
              · simp only [maskL]
                obtain ⟨Z, hq⟩ := hq
                have q0 := hq.blk.some_ (i := 0) rfl
                have q1 := hq.blk.some_ (i := 1) rfl
                repeat (go_big_quiet_step (fail))
                exact wpQuiet_nil rfl
              refine wpAnyB_bar [false, false, false, false, false, false, false, false, false, false, false, false, false, false, false, false, false, false, true] (fuel := 8) (by rfl) (by rfl) (by kernel_rfl) (fun QB hQB hQX => ?_)
              simp only [maskL]
              go_wp2_with fail
              refine (chk_step w _ _ a m C z (xs.drop (k + 1)) v (h6.pk4 [1, 3, 0, 2]) HK.out.1 HZ.out.2 (HK.out.2.got z)).mono ?_
              rintro e w8 ⟨rfl, h7⟩
              rw [← HA.out]
              rw [← HA.out, ← HFN.out] at h7
              replace h6 : Hold w w8 (prA gp m r * (chkA a (xs.drop (k + 1)) v fn * (rchkA b xs v k false * (memA m C * (refA r cf16 C * Asr.emp))))) := h7.pk4 [2, 0, 3, 1]
              clear h7
              go_wp2_with fail
              refine hQB.out _ _ ⟨_, h6⟩ ?_
              clear hQB hQX QB
              refine wpAnyB_bar [false, false, false, false, false, false, false, false, false, false, false, false, false, false, false, false, false, false, false, false, false, false, true] (fuel := 7) (by rfl) (by rfl) (by kernel_rfl) (fun QB hQB hQX => ?_)
              simp only [maskL]
              go_wp2_with fail
              refine (rchk_step w _ _ b r cf16 C xs v k (h6.pk5 [2, 4, 0, 1, 3]) HK.out.1 hkl z HZ.out.1 (by omega) (HK.out.2.got z)).mono ?_
              rintro e w9 ⟨rfl, h7⟩
              rw [← HA.out]
              rw [← HA.out, ← HFN.out] at h7
              replace h6 : Hold w w9 (prA gp m r * (chkA a (xs.drop (k + 1)) v fn * (rchkA b xs v (k + 1) fn * (memA m C * (refA r cf16 C * Asr.emp))))) := h7.pk5 [2, 3, 0, 4, 1]
              clear h7
              go_wp2_with fail
              refine hQB.out _ _ ⟨_, h6⟩ ?_
              clear hQB hQX QB
              refine' wpAnyB_bulk [false, false, false, false, false, false, false, false, false, false, false, false, false, false, false, false, false, false, false, false, false, false, false, true, true, true, true] 119 (listed' := #[true, true, true, true, true, true, true, true, true, true, true, true, true, true, true, true, true, true, true, true, true, true, true, true, true, true, true, false, false, false]) rfl (by kernel_rfl) (by kernel_rfl) (by kernel_rfl) (by kernel_rfl) (by kernel_rfl) (by kernel_rfl) (by decide) (fun _ _ _ _ h => h) rfl ⟨_, h6⟩ (fun wq hq => ?_) ?_; rotate_left 1
              · simp only [maskL]
                obtain ⟨Z, hq⟩ := hq
                have q0 := hq.blk.some_ (i := 0) rfl
                have q1 := hq.blk.some_ (i := 1) rfl
                repeat (go_big_quiet_step (fail))
                exact wpQuiet_nil rfl
              refine wpAnyB_bar [false, false, false, false, false, false, false, false, false, false, false, false, false, false, false, false, false, false, false, false, false, false, false, false, false, false, false, true] (fuel := 2) (by rfl) (by rfl) (by kernel_rfl) (fun QB hQB hQX => ?_)
              simp only [maskL]
              go_wp2_with fail
              refine (pair_same w _ _ m r cf16 C (h6.pk5 [3, 4, 0, 1, 2]) HK.out.1).mono ?_
              rintro e w10 ⟨rfl, h7⟩
              replace h6 : Hold w w10 (prA gp m r * (chkA a (xs.drop (k + 1)) v fn * (rchkA b xs v (k + 1) fn * (memA m C * (refA r cf16 C * Asr.emp))))) := h7.pk5 [2, 3, 4, 0, 1]
              clear h7
              go_wp2_with fail
              refine hQB.out _ _ ⟨_, h6⟩ ?_
              clear hQB hQX QB
              refine' wpAnyB_bulk [false, false, false, false, false, false, false, false, false, false, false, false, false, false, false, false, false, false, false, false, false, false, false, false, false, false, false, false, true, true] 119 (listed' := #[true, true, true, true, true, true, true, true, true, true, true, true, true, true, true, true, true, true, true, true, true, true, true, true, true, true, true, true, true, true]) rfl (by kernel_rfl) (by kernel_rfl) (by kernel_rfl) (by kernel_rfl) (by kernel_rfl) (by kernel_rfl) (by decide) (fun _ _ _ _ h => h) rfl ⟨_, h6⟩ (fun wq hq => ?_) ?_; rotate_left 1
              · simp only [maskL]
                repeat (go_big_quiet_step (fail))
                exact wpQuiet_nil rfl
              refine wpAnyB_done (by kernel_rfl) ?_ _
              go_wp2_with fail
              go_meet
              exact ⟨rfl, rfl, k + 1, fn, hkl, HF2.out, h6⟩
          case rest =>
          clear h6 Hfk hk k f
          obtain ⟨rfl, rfl, k, f, hk, hf, h6⟩ := hcut
          have HF2 := hid hf
          clear hf
          go_wp2_with fail
          refine (at_nat _ A3 n3 c3 _ x3 j (H3.out.below h6.below) l3).mono ?_
          rintro e w' ⟨rfl, rfl⟩
          obtain ⟨c, hc⟩ : ∃ c, c = x3.getD j 0 := ⟨_, rfl⟩
          rw [← hc]
          clear hc
          go_wp2_with fail
          by_cases hch : j < n3 ∧ (c.tmod 2 == 0) = true
          · obtain ⟨hj3, e3⟩ := hch
            have e2 : decide ((j : Int) < n3) = true := decide_eq_true (by omega)
            replace h6 := h6.drew
            refine wp_region_brk [] (by kernel_rfl) ?_
            refine wpAnyB_now (fun w' => ∃ Z, Hold w w' (prA gp m r * Z)) (fun _ _ => trivial) _ _ _ _ ?_
            refine' wpAnyB_bulk [true, true, true, true, true, true, true, true, true, true, true, true, true, false, true, true] 119 (listed' := #[true, true, true, true, true, true, true, true, true, true, true, true, true, false, true, true, false, false, false, false]) rfl (by kernel_rfl) (by kernel_rfl) (by kernel_rfl) (by kernel_rfl) (by kernel_rfl) (by kernel_rfl) (by decide) (fun _ _ _ _ h => h) rfl ⟨_, h6⟩ (fun wq hq => ?_) ?_; rotate_left 1
            · simp only [maskL]
              obtain ⟨Z, hq⟩ := hq
              have q0 := hq.blk.some_ (i := 0) rfl
              have q1 := hq.blk.some_ (i := 1) rfl
              repeat (go_big_quiet_step (fail))
              exact wpQuiet_nil rfl
            refine wpAnyB_bar [false, false, false, false, false, false, false, false, false, false, false, false, false, true] (fuel := 4) (by rfl) (by rfl) (by kernel_rfl) (fun QB hQB hQX => ?_)
            simp only [maskL]
            go_wp2_with fail
            refine (place_any _ _ _ (by omega) (by omega)).mono ?_
            rintro e w' ⟨rfl, rfl⟩
            generalize ho : place _ 6 = o
            have o0 : 0 ≤ o := by rw [← ho]; exact place_nonneg _ 6 (by omega)
            have o1 : o < 6 := by rw [← ho]; exact place_lt _ 6 (by omega)
            clear ho
            go_wp2_with fail
            refine hQB.out _ _ ⟨_, h6⟩ ?_
            clear hQB hQX QB
            refine wpAnyB_bar [false, false, false, false, false, false, false, false, false, false, false, false, false, false, false, false, true] (fuel := 3) (by rfl) (by rfl) (by kernel_rfl) (fun QB hQB hQX => ?_)
            simp only [maskL]
            go_wp2_with fail
            refine (word16_any _ _).mono ?_
            rintro e w' ⟨rfl, rfl⟩
            generalize hw : word16 _ = wd
            have wd0 : 0 ≤ wd ∧ wd ≤ 260 := by rw [← hw]; exact word16_lt _
            clear hw
            go_wp2_with fail
            refine hQB.out _ _ ⟨_, h6⟩ ?_
            clear hQB hQX QB
            refine wpAnyB_bar [false, false, false, false, false, false, false, false, false, false, false, false, false, false, false, false, false, true] (fuel := 2) (by rfl) (by rfl) (by kernel_rfl) (fun QB hQB hQX => ?_)
            simp only [maskL]
            go_wp2_with fail
            refine (pair_set w _ _ m r cf16 C 2 o wd (h6.pk5 [3, 4, 0, 1, 2]) HK.out.1 (HK.out.2.has o0 o1) (by omega)).mono ?_
            rintro e w8 ⟨rfl, h7⟩
            replace h6 : Hold w w8 (prA gp m r * (chkA a (xs.drop k) v f * (rchkA b xs v k f * (memA m (opC C 2 o wd true) * (refA r cf16 (opC C 2 o wd true) * Asr.emp))))) := h7.pk5 [2, 3, 4, 0, 1]
            clear h7
            go_wp2_with fail
            refine hQB.out _ _ ⟨_, h6⟩ ?_
            clear hQB hQX QB
            refine' wpAnyB_bulk [false, false, false, false, false, false, false, false, false, false, false, false, false, false, false, false, false, false, true, true] 119 (listed' := #[true, true, true, true, true, true, true, true, true, true, true, true, true, true, true, true, true, true, true, true]) rfl (by kernel_rfl) (by kernel_rfl) (by kernel_rfl) (by kernel_rfl) (by kernel_rfl) (by kernel_rfl) (by decide) (fun _ _ _ _ h => h) rfl ⟨_, h6⟩ (fun wq hq => ?_) ?_; rotate_left 1
            · simp only [maskL]
              repeat (go_big_quiet_step (fail))
              exact wpQuiet_nil rfl
            refine wpAnyB_done (by kernel_rfl) ?_ _
            have H6 := hid h6
            clear h6
            go_wp2_with fail
            go_round
            case rel => exact ⟨j + 1, _, by omega, by go_num, HK.out.1.opC _ _ _ _, HK.out.2.set _ wd0, k, f, hk, HF2.out, H6.out⟩
            case measure => simp [intOf]; omega
          · by_cases hj3 : j < n3
            · have e2 : decide ((j : Int) < n3) = true := decide_eq_true (by omega)
              have e3 : (c.tmod 2 == 0) = false := by simpa [hj3] using hch
              go_quiet (fail)
              have H6 := hid (h6.drewN nq)
              clear h6
              go_wp2_with fail
              go_round
              case rel => exact ⟨j + 1, C, by omega, by go_num, HK.out.1, HK.out.2, k, f, hk, HF2.out, H6.out⟩
              case measure => simp [intOf]; omega
            · have e2 : decide ((j : Int) < n3) = false := decide_eq_false (by omega)
              go_quiet (fail)
              have H6 := hid (h6.drewN nq)
              clear h6
              go_wp2_with fail
              go_round
              case rel => exact ⟨j + 1, C, by omega, by go_num, HK.out.1, HK.out.2, k, f, hk, HF2.out, H6.out⟩
              case measure => simp [intOf]; omega
        · obtain rfl : j = 14 := by omega
          have e1 : decide (((14 : Nat) : Int) < 14) = false := rfl
          have hd : rdoneB xs k f = true := by
            cases f
            · have := hf rfl
              simp [rdoneB]; omega
            · rfl
          have HD := hid hd
          clear hd hf hlt hj
          go_wp2_with fail
          replace h6 := h6.drew
          refine wp_region_brk [] (by kernel_rfl) ?_
          refine wpAnyB_now (fun w' => ∃ Z, Hold w w' (rchkA b xs v k f * Z)) (fun _ _ => trivial) _ _ _ _ ?_
          refine' wpAnyB_bulk [true] 119 (listed' := #[true, false, false, false, false, false, false, false, false, false, false, false, false, false, false]) rfl (by kernel_rfl) (by kernel_rfl) (by kernel_rfl) (by kernel_rfl) (by kernel_rfl) (by kernel_rfl) (by decide) (fun _ _ _ _ h => h) rfl ⟨_, h6.pk3 [2, 0, 1]⟩ (fun wq hq => ?_) ?_; rotate_left 1
          · simp only [maskL]
            repeat (go_big_quiet_step (fail))
            exact wpQuiet_nil rfl
          refine wpAnyB_bar [false, true] (fuel := 13) (by rfl) (by rfl) (by kernel_rfl) (fun QB hQB hQX => ?_)
          simp only [maskL]
          go_wp2_with fail
          refine (chk_done w _ _ a (xs.drop k) v f (h6.pk2 [1, 0])).mono ?_
          rintro e w' ⟨rfl, rfl⟩
          rw [done_eq hk, HD.out]
          go_wp2_with fail
          refine hQB.out _ _ ⟨_, h6.pk3 [2, 0, 1]⟩ ?_
          clear hQB hQX QB
          refine' wpAnyB_bulk [false, false, true, true, false, true, true, true, true] 119 (listed' := #[true, true, true, true, false, true, true, true, true, false, false, false, false, false, false]) rfl (by kernel_rfl) (by kernel_rfl) (by kernel_rfl) (by kernel_rfl) (by kernel_rfl) (by kernel_rfl) (by decide) (fun _ _ _ _ h => h) rfl ⟨_, h6.pk3 [2, 0, 1]⟩ (fun wq hq => ?_) ?_; rotate_left 1
          · simp only [maskL]
            obtain ⟨Z, hq⟩ := hq
            obtain ⟨_, _, hr⟩ := hq.rchkOpen
            have q3 := hr.blk.some_ (i := 3) rfl
            repeat (go_big_quiet_step (fail))
            exact wpQuiet_nil rfl
          refine wpAnyB_bar [false, false, false, false, true] (fuel := 6) (by rfl) (by rfl) (by kernel_rfl) (fun QB hQB hQX => ?_)
          simp only [maskL]
          go_wp2_with fail
          refine (chk_failed w _ _ a (xs.drop k) v f (h6.pk2 [1, 0])).mono ?_
          rintro e w' ⟨rfl, rfl⟩
          have ef : (f == f) = true := by simp
          go_wp2_with fail
          refine hQB.out _ _ ⟨_, h6.pk3 [2, 0, 1]⟩ ?_
          clear hQB hQX QB
          refine' wpAnyB_bulk [false, false, false, false, false, false, false, false, false, true, true, true] 119 (listed' := #[true, true, true, true, true, true, true, true, true, true, true, true, false, false, false]) rfl (by kernel_rfl) (by kernel_rfl) (by kernel_rfl) (by kernel_rfl) (by kernel_rfl) (by kernel_rfl) (by decide) (fun _ _ _ _ h => h) rfl ⟨_, h6.pk3 [2, 0, 1]⟩ (fun wq hq => ?_) ?_; rotate_left 1
          · simp only [maskL]
            repeat (go_big_quiet_step (fail))
            exact wpQuiet_nil rfl
          refine wpAnyB_bar [false, false, false, false, false, false, false, false, false, false, false, false, true] (fuel := 2) (by rfl) (by rfl) (by kernel_rfl) (fun QB hQB hQX => ?_)
          simp only [maskL]
          go_wp2_with fail
          refine (awake16_any w _ _ h6).mono ?_
          rintro e w7 ⟨rfl, h7⟩
          clear h6
          go_wp2_with fail
          refine hQB.out _ _ ⟨_, h7.pk3 [2, 0, 1]⟩ ?_
          clear hQB hQX QB
          refine' wpAnyB_bulk [false, false, false, false, false, false, false, false, false, false, false, false, false, true, true] 119 (listed' := #[true, true, true, true, true, true, true, true, true, true, true, true, true, true, true]) rfl (by kernel_rfl) (by kernel_rfl) (by kernel_rfl) (by kernel_rfl) (by kernel_rfl) (by kernel_rfl) (by decide) (fun _ _ _ _ h => h) rfl ⟨_, h7.pk3 [2, 0, 1]⟩ (fun wq hq => ?_) ?_; rotate_left 1
          · simp only [maskL]
            repeat (go_big_quiet_step (fail))
            exact wpQuiet_nil rfl
          refine wpAnyB_done (by kernel_rfl) ?_ _
          have H7 := hid h7.below
          clear h7
          go_wp2_with fail
          go_ret
          exact ⟨rfl, H7.out⟩
end Go.Proofs.Ytfmmphabfdpegaa
