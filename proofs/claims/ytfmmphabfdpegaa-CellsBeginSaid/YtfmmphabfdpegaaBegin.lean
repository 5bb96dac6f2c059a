/- CellsBegin: the walk. -/
import Derived.Test.YtfmmphabfdpegaaStart
import Derived.Test.YtfmmphabfdpegaaAwake08
import Derived.Test.YtfmmphabfdpegaaImage
import Derived.Test.YtfmmphabfdpegaaNerr
import Derived.Test.YtfmmphabfdpegaaLab
import Derived.Test.YtfmmphabfdpegaaSl
import Derived.Deep.DeepCutAuto
namespace Go.Proofs.Ytfmmphabfdpegaa
open Go.RowKit
set_option linter.unusedVariables false

/-- What New returns: a pointer exactly if there is no error. -/
def NewAny (w0 : World) (R : Asr) (er : Int) (e : Ending) (w' : World) : Prop := ∃ o : Option Nat, e = .returned (.tuple #[o.elim (.pointer none) (fun g => .pointer (some ⟨g, 0, none⟩)), .int .i64 er]) ∧ (o.isSome = (er == 0)) ∧ Hold w0 w' R
theorem new_any (w0 w : World) (R : Asr) (c : Cfg) (th : Int) (A : Option Addr) (k bA : Nat) (n : Nat) (init : List Int) (hn : init.length = n) (hn2 : n ≤ 70) (hR : Hold w0 w R) (hA : ∀ w', Hold w0 w' R → Reads w' bA A n (init.map (Value.int .u64))) :
    Calls Try.prog 21 #[c.val, .int .i64 th, .slice A n k] w (NewAny w0 R (newErr c th n)) := by
  by_cases hz : newErr c th n = 0
  · obtain ⟨h1, h2, h3, h4⟩ := newErr_zero hz
    obtain ⟨t, rfl⟩ : ∃ t : Nat, th = t := ⟨th.toNat, by omega⟩
    subst hn
    refine (cells_new w0 w R c t A k bA init h1 (by omega) (by omega) h4 hR hA).mono ?_
    rintro e w' ⟨g, rfl, h⟩
    rw [hz]
    exact ⟨some g, rfl, rfl, h.drop⟩
  · refine (cells_new_err w c th A n k hz (by omega)).mono ?_
    rintro e w' ⟨rfl, hc⟩
    exact ⟨none, rfl, by simp [hz], hR.chg0 hc⟩
set_option maxRecDepth 8000 in
set_option maxHeartbeats 8000000 in
theorem cellsBegin_any (w : World) (c c2 : Cfg) (l0 l1 l2 l3 l4 th nn : Int) (A : Option Addr) (n k bA : Nat) (init : List Int) (hA : Reads w bA A n (init.map (Value.int .u64))) (hcfg : ∀ w, Calls Try.prog 27 #[.int .i64 l0, .int .i64 l1, .int .i64 l2, .int .i64 l3, .int .i64 l4] w (fun e w' => e = .returned c.val ∧ Chg [] w w')) (hok : cfgErr c = 0) :
    Calls Try.prog 5 #[.agg #[.int .i64 l0, .int .i64 l1, .int .i64 l2, .int .i64 l3, .int .i64 l4], .int .i64 th, c2.val, .slice A n k, .int .i64 nn] w (fun e w' => e = .returned (.bool true) ∧ Below w.heap.size w w') := by
  have HC := hid hok
  have HF := hid hcfg
  have HA := hid hA
  have h0 := ((Hold.start w).alloc (.cells #[.int .i64 l0, .int .i64 l1, .int .i64 l2, .int .i64 l3, .int .i64 l4] 22)).newBlk (t := 32) (cs := c2.cells)
  simp only [World.size_alloc] at h0
  have H0 := hid h0
  clear hok hcfg h0 hA
  by_cases h70 : 70 < n
  · have e1 : decide ((70 : Int) < (n : Int)) = true := decide_eq_true (by omega)
    go_enter Try.func5, Try.ntmps5
    go_wp2_with fail
    have h0 := H0.out
    generalize hW : World.alloc _ _ = W at h0 ⊢
    clear hW H0
    refine (awake_any w _ _ h0).mono ?_
    rintro e w1 ⟨rfl, h2⟩
    have H2 := hid h2.below
    clear h0 h2
    go_wp2_with fail
    go_ret
    exact ⟨rfl, H2.out⟩
  have e1 : decide ((70 : Int) < (n : Int)) = false := decide_eq_false (by omega)
  have hlen : init.length = n := by have := HA.out.len; simpa using this
  go_enter Try.func5, Try.ntmps5
  go_wp2_with fail
  have h0 := H0.out
  generalize hW : World.alloc _ _ = W at h0 ⊢
  generalize w.heap.size + 1 = gc at h0 ⊢
  clear hW H0 e1
  refine (start_gen w _ _ c l0 l1 l2 l3 l4 th HF.out HC.out h0).mono ?_
  rintro e u1 ⟨g, r, rfl, h1⟩
  clear h0
  obtain ⟨C, hC⟩ : ∃ C, C = newC c (1 + (place th 4).toNat) (initL c.words.toNat) := ⟨_, rfl⟩
  have hCO : COk C := by
    rw [hC]
    exact ⟨fun k => newC_len HC.out (by have := place_lt th 4 (by omega); omega) (by rw [initL_len]; have := (cfgOk_of HC.out).w; omega) k, rfl, rfl, rfl⟩
  rw [← hC] at h1
  have HK := hid hCO
  clear hC hCO
  obtain ⟨q0, q1, q2, q3, q4, q5, q6, q7, q8, q9, q10, q11, q12⟩ := blk_cfg h1.drop.drop.blk
  go_wp2_with fail
  refine (new_any w _ _ c2 nn A k bA n init hlen (by omega) h1 (fun w' h => HA.out.below h.below)).mono ?_
  rintro e u2 ⟨o, rfl, ho, h2⟩
  obtain ⟨er, her⟩ : ∃ er, er = newErr c2 nn n := ⟨_, rfl⟩
  rw [← her] at ho ⊢
  have HE := hid her
  have HO := hid ho
  clear h1 q0 q1 q2 q3 q4 q5 q6 q7 q8 q9 q10 q11 q12 her ho
  obtain ⟨q0, q1, q2, q3, q4, q5, q6, q7, q8, q9, q10, q11, q12⟩ := blk_cfg h2.drop.drop.blk
  obtain ⟨ov, hov⟩ : ∃ ov, ov = o.elim (Value.pointer none) (fun g => Value.pointer (some ⟨g, 0, none⟩)) := ⟨_, rfl⟩
  rw [← hov]
  have HOV := hid hov
  clear hov
  go_wp2_with fail
  refine (rcheck8_any _ c2 nn A n k (by omega)).mono ?_
  rintro e u3 ⟨rfl, hc⟩
  rw [← HE.out]
  have h3 := (h2.chg0 hc).drew
  clear h2 hc q0 q1 q2 q3 q4 q5 q6 q7 q8 q9 q10 q11 q12 HE
  obtain ⟨x, h4⟩ := h3.refOpen2
  clear h3
  have er1 : (er == er) = true := by simp
  have hov : ov = .pointer none ∧ (er == 0) = false ∨ ∃ g2, ov = .pointer (some ⟨g2, 0, none⟩) ∧ (er == 0) = true := by
    have h1 := HO.out
    have h2 := HOV.out
    cases o with
    | none => exact .inl ⟨h2, h1.symm⟩
    | some g2 => exact .inr ⟨g2, h2, h1.symm⟩
  clear HO HOV
  go_upto_region 6 with fail
  rcases hov with ⟨rfl, er2⟩ | ⟨g2, rfl, er2⟩
  · clear HA
    refine wp_region_brk [] (by kernel_rfl) ?_
    refine wpAnyB_now (fun w' => ∃ Y Z, Hold w w' (Y * refF r c C x Z)) (fun _ _ => trivial) _ _ _ _ ?_
    refine' wpAnyB_bulk [true, true, true, false, true, true, true, true] 64 (listed' := #[true, true, true, false, true, true, true, true, false, false, false, false, false, false, false, false, false, false, false, false, false, false, false, false, false, false]) rfl (by kernel_rfl) (by kernel_rfl) (by kernel_rfl) (by kernel_rfl) (by kernel_rfl) (by kernel_rfl) (by decide) (fun _ _ _ _ h => h) rfl ⟨_, _, h4⟩ (fun wq hq => ?_) ?_; rotate_left 1
    · simp only [maskL]
      obtain ⟨Y, Z, hq⟩ := hq
      have p0 := hq.drop.blk.some_ (i := 13) rfl
      have p1 := hq.drop.blk.some_ (i := 14) rfl
      have p2 := hq.drop.blk.some_ (i := 15) rfl
      have p3 := hq.drop.blk.some_ (i := 16) rfl
      have p4 := hq.drop.blk.some_ (i := 17) rfl
      have p5 := hq.drop.blk.some_ (i := 18) rfl
      have p6 := hq.drop.blk.some_ (i := 19) rfl
      have p7 := hq.drop.blk.some_ (i := 20) rfl
      repeat (go_big_quiet_step (fail))
      exact wpQuiet_nil rfl
    refine wpAnyB_bar [false, false, false, true] (fuel := 18) (by rfl) (by rfl) (by kernel_rfl) (fun QB hQB hQX => ?_)
    simp only [maskL]
    go_wp2_with fail
    refine (image_any w _ _ g C h4 HK.out).mono ?_
    rintro e w1 ⟨y, rfl, h3⟩
    clear h4
    go_wp2_with fail
    refine hQB.out _ _ ⟨_, _, h3.rest⟩ ?_
    clear hQB hQX QB
    refine wpAnyB_bar [false, false, false, false, false, false, false, false, true] (fuel := 17) (by rfl) (by rfl) (by kernel_rfl) (fun QB hQB hQX => ?_)
    simp only [maskL]
    go_wp2_with fail
    refine (kimage_true _ C y x h3.imgR h3.rest.drop.drop.imgR HK.out).mono ?_
    rintro e w2 ⟨rfl, hc⟩
    have h5 := h3.rest.chg0 hc
    clear h3 hc
    go_wp2_with fail
    refine hQB.out _ _ ⟨_, _, h5⟩ ?_
    clear hQB hQX QB
    refine' wpAnyB_bulk [false, false, false, false, false, false, false, false, false, true, true, true, true, true, true, true, true, true, true, true, true, true, true] 64 (listed' := #[true, true, true, true, true, true, true, true, true, true, true, true, true, true, true, true, true, true, true, true, true, true, true, false, false, false]) rfl (by kernel_rfl) (by kernel_rfl) (by kernel_rfl) (by kernel_rfl) (by kernel_rfl) (by kernel_rfl) (by decide) (fun _ _ _ _ h => h) rfl ⟨_, _, h5⟩ (fun wq hq => ?_) ?_; rotate_left 1
    · simp only [maskL]
      repeat (go_big_quiet_step (fail))
      exact wpQuiet_nil rfl
    refine wpAnyB_bar [false, false, false, false, false, false, false, false, false, false, false, false, false, false, false, false, false, false, false, false, false, false, false, true] (fuel := 2) (by rfl) (by rfl) (by kernel_rfl) (fun QB hQB hQX => ?_)
    simp only [maskL]
    go_wp2_with fail
    refine (awake_any w _ _ h5).mono ?_
    rintro e w6 ⟨rfl, h6⟩
    clear h5
    go_wp2_with fail
    refine hQB.out _ _ ⟨_, _, h6⟩ ?_
    clear hQB hQX QB
    refine' wpAnyB_bulk [false, false, false, false, false, false, false, false, false, false, false, false, false, false, false, false, false, false, false, false, false, false, false, false, true, true] 64 (listed' := #[true, true, true, true, true, true, true, true, true, true, true, true, true, true, true, true, true, true, true, true, true, true, true, true, true, true]) rfl (by kernel_rfl) (by kernel_rfl) (by kernel_rfl) (by kernel_rfl) (by kernel_rfl) (by kernel_rfl) (by decide) (fun _ _ _ _ h => h) rfl ⟨_, _, h6⟩ (fun wq hq => ?_) ?_; rotate_left 1
    · simp only [maskL]
      repeat (go_big_quiet_step (fail))
      exact wpQuiet_nil rfl
    refine wpAnyB_done (by kernel_rfl) ?_ _
    have H7 := hid h6.below
    clear h6
    go_wp2_with fail
    go_ret
    exact ⟨rfl, H7.out⟩
  · clear HA
    refine wp_region_brk [] (by kernel_rfl) ?_
    refine wpAnyB_now (fun w' => ∃ Y Z, Hold w w' (Y * refF r c C x Z)) (fun _ _ => trivial) _ _ _ _ ?_
    refine' wpAnyB_bulk [true, true, true, false, true, true, true, true] 64 (listed' := #[true, true, true, false, true, true, true, true, false, false, false, false, false, false, false, false, false, false, false, false, false, false, false, false, false, false]) rfl (by kernel_rfl) (by kernel_rfl) (by kernel_rfl) (by kernel_rfl) (by kernel_rfl) (by kernel_rfl) (by decide) (fun _ _ _ _ h => h) rfl ⟨_, _, h4⟩ (fun wq hq => ?_) ?_; rotate_left 1
    · simp only [maskL]
      obtain ⟨Y, Z, hq⟩ := hq
      have p0 := hq.drop.blk.some_ (i := 13) rfl
      have p1 := hq.drop.blk.some_ (i := 14) rfl
      have p2 := hq.drop.blk.some_ (i := 15) rfl
      have p3 := hq.drop.blk.some_ (i := 16) rfl
      have p4 := hq.drop.blk.some_ (i := 17) rfl
      have p5 := hq.drop.blk.some_ (i := 18) rfl
      have p6 := hq.drop.blk.some_ (i := 19) rfl
      have p7 := hq.drop.blk.some_ (i := 20) rfl
      repeat (go_big_quiet_step (fail))
      exact wpQuiet_nil rfl
    refine wpAnyB_bar [false, false, false, true] (fuel := 18) (by rfl) (by rfl) (by kernel_rfl) (fun QB hQB hQX => ?_)
    simp only [maskL]
    go_wp2_with fail
    refine (image_any w _ _ g C h4 HK.out).mono ?_
    rintro e w1 ⟨y, rfl, h3⟩
    clear h4
    go_wp2_with fail
    refine hQB.out _ _ ⟨_, _, h3.rest⟩ ?_
    clear hQB hQX QB
    refine wpAnyB_bar [false, false, false, false, false, false, false, false, true] (fuel := 17) (by rfl) (by rfl) (by kernel_rfl) (fun QB hQB hQX => ?_)
    simp only [maskL]
    go_wp2_with fail
    refine (kimage_true _ C y x h3.imgR h3.rest.drop.drop.imgR HK.out).mono ?_
    rintro e w2 ⟨rfl, hc⟩
    have h5 := h3.rest.chg0 hc
    clear h3 hc
    go_wp2_with fail
    refine hQB.out _ _ ⟨_, _, h5⟩ ?_
    clear hQB hQX QB
    refine' wpAnyB_bulk [false, false, false, false, false, false, false, false, false, true, true, true, true, true, true, true, true, true, true, true, true, true, true] 64 (listed' := #[true, true, true, true, true, true, true, true, true, true, true, true, true, true, true, true, true, true, true, true, true, true, true, false, false, false]) rfl (by kernel_rfl) (by kernel_rfl) (by kernel_rfl) (by kernel_rfl) (by kernel_rfl) (by kernel_rfl) (by decide) (fun _ _ _ _ h => h) rfl ⟨_, _, h5⟩ (fun wq hq => ?_) ?_; rotate_left 1
    · simp only [maskL]
      repeat (go_big_quiet_step (fail))
      exact wpQuiet_nil rfl
    refine wpAnyB_bar [false, false, false, false, false, false, false, false, false, false, false, false, false, false, false, false, false, false, false, false, false, false, false, true] (fuel := 2) (by rfl) (by rfl) (by kernel_rfl) (fun QB hQB hQX => ?_)
    simp only [maskL]
    go_wp2_with fail
    refine (awake_any w _ _ h5).mono ?_
    rintro e w6 ⟨rfl, h6⟩
    clear h5
    go_wp2_with fail
    refine hQB.out _ _ ⟨_, _, h6⟩ ?_
    clear hQB hQX QB
    refine' wpAnyB_bulk [false, false, false, false, false, false, false, false, false, false, false, false, false, false, false, false, false, false, false, false, false, false, false, false, true, true] 64 (listed' := #[true, true, true, true, true, true, true, true, true, true, true, true, true, true, true, true, true, true, true, true, true, true, true, true, true, true]) rfl (by kernel_rfl) (by kernel_rfl) (by kernel_rfl) (by kernel_rfl) (by kernel_rfl) (by kernel_rfl) (by decide) (fun _ _ _ _ h => h) rfl ⟨_, _, h6⟩ (fun wq hq => ?_) ?_; rotate_left 1
    · simp only [maskL]
      repeat (go_big_quiet_step (fail))
      exact wpQuiet_nil rfl
    refine wpAnyB_done (by kernel_rfl) ?_ _
    have H7 := hid h6.below
    clear h6
    go_wp2_with fail
    go_ret
    exact ⟨rfl, H7.out⟩
end Go.Proofs.Ytfmmphabfdpegaa
