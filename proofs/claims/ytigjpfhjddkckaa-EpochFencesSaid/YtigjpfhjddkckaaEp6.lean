/- strongtxlaw09: EpochFences. -/
import Derived.Test.YtigjpfhjddkckaaEp2
import Derived.Test.YtigjpfhjddkckaaEr
import Derived.Test.YtigjpfhjddkckaaWd
namespace Go.Proofs.Ytigjpfhjddkckaa
open Go.RowKit
set_option linter.unusedVariables false

def limR (ld : Bool) (lim : Int) : Int := if ld then lim else -1
/-- A fence, well-formed. -/
def FI (ld : Bool) (lim nx : Int) : Prop := (ld = false ∧ lim = 0 ∧ nx = 0) ∨ (ld = true ∧ 0 ≤ lim ∧ lim ≤ 1000 ∧ 0 ≤ nx ∧ nx ≤ 6)
theorem FI.done {ld : Bool} {lim nx : Int} (h : FI ld lim nx) (n : Int) : (decide (0 ≤ limR ld lim) && decide (n ≤ nx)) = (ld && decide (n ≤ nx)) := by
  rcases h with ⟨rfl, rfl, rfl⟩ | ⟨rfl, h, _⟩
  · rfl
  · simp [limR, h]
theorem FI.lim {ld : Bool} {lim nx : Int} (h : FI ld lim nx) : 0 ≤ lim ∧ lim ≤ 9223372036854775807 := by
  rcases h with ⟨_, rfl, _⟩ | ⟨_, h, h2, _⟩ <;> omega
theorem skipN_le (th nx : Int) : nx ≤ skipN th nx ∧ skipN th nx ≤ nx + 1 := by unfold skipN; split <;> omega
theorem fenN_le (th lim nx got : Int) : nx ≤ fenN th lim nx got ∧ fenN th lim nx got ≤ nx + 2 := by
  unfold fenN
  have := skipN_le th (nx + 1)
  split <;> omega
theorem ff_step (th n : Int) (C : Nat → List Int) (ck : Int) (s : Nat → Int) (ld : Bool) (lim nx : Int) (hs : SL C ck s) (hsb : ∀ k, k < 4 → 0 ≤ s k ∧ s k ≤ 1000) (hck : 0 ≤ ck ∧ ck ≤ 1000) (hn : n ≤ 4) (hf : FI ld lim nx) :
    ∃ (ac : Acc) (ld2 : Bool) (lim2 nx2 : Int), FI ld2 lim2 nx2 ∧
      (∀ w0 w R g m, Hold w0 w (feA g th n ld lim nx * (memA m C * R)) → Calls Try.prog 45 #[.pointer (some ⟨g, 0, none⟩), .pointer (some ⟨m, 0, none⟩)] w (RAccPost w0 (feA g th n ld2 lim2 nx2 * (memA m C * R)) ac)) ∧
      (∀ w0 w R g m c, Hold w0 w (rfA g th n (limR ld lim) nx * (refA m c C * R)) → Calls Try.prog 46 #[.pointer (some ⟨g, 0, none⟩), .pointer (some ⟨m, 0, none⟩)] w (RAccPost w0 (rfA g th n (limR ld2 lim2) nx2 * (refA m c C * R)) ac)) := by
  rcases hf with ⟨rfl, rfl, rfl⟩ | ⟨rfl, h1, h2, h3, h4⟩
  · have := skipN_le th 0
    exact ⟨_, true, ck, skipN th 0, .inr ⟨rfl, by omega, by omega, by omega, by omega⟩, fun w0 w R g m h => fe_step_load w0 w R g m C th n 0 0 _ h hs.ok (by omega) hs.op3,
      fun w0 w R g m c h => rf_step_load w0 w R g m c C th n 0 _ h hs.ok (by omega) (by show 0 ≤ ck ∧ ck ≤ 9223372036854775807; omega) hs.op3⟩
  · by_cases hd : n ≤ nx
    · exact ⟨acc0, true, lim, nx, .inr ⟨rfl, h1, h2, h3, h4⟩, fun w0 w R g m h => fe_step_done w0 w _ g _ th n lim nx h hd, fun w0 w R g m c h => rf_step_done w0 w _ g _ th n lim nx h h1 hd⟩
    · obtain ⟨k, rfl⟩ : ∃ k : Nat, nx = k := ⟨nx.toNat, by omega⟩
      have hk : k < 4 := by omega
      have hb := hsb k hk
      have := fenN_le th lim k (s k)
      exact ⟨_, true, lim, fenN th lim k (s k), .inr ⟨rfl, h1, h2, by omega, by omega⟩, fun w0 w R g m h => fe_step_watch w0 w R g m C th n lim k _ h hs.ok (by omega) (by omega) (by show 0 ≤ s k ∧ s k < 18446744073709551616; omega) (hs.op6 hk),
        fun w0 w R g m c h => rf_step_watch w0 w R g m c C th n lim k _ h hs.ok (by omega) (by omega) (by omega) (by show 0 ≤ s k ∧ s k < 18446744073709551616; omega) (hs.op6 hk)⟩
set_option maxRecDepth 8000 in
set_option maxHeartbeats 8000000 in
theorem epochFences_any (l0 l1 l2 l3 l4 : Int) (a1 a2 a3 : Int) (A4 A5 : Option Addr) (n4 c4 b4 n5 c5 b5 : Nat) (x4 x5 : List Int) (w : World) (hu : 0 ≤ a3 ∧ a3 < 18446744073709551616) (hA4 : Reads w b4 A4 n4 (x4.map (Value.int .i64))) (le4 : n4 ≤ 9223372036854775807) (hA5 : Reads w b5 A5 n5 (x5.map (Value.int .i64))) (le5 : n5 ≤ 9223372036854775807) :
    Calls Try.prog 8 #[.agg #[.int .i64 l0, .int .i64 l1, .int .i64 l2, .int .i64 l3, .int .i64 l4], .int .i64 a1, .int .i64 a2, .int .u64 a3, .slice A4 n4 c4, .slice A5 n5 c5] w (fun e w' => e = .returned (.bool true) ∧ Below w.heap.size w w') := by
  have HX4 := hid hA4
  have HX5 := hid hA5
  clear hA4 hA5
  obtain ⟨c, hc⟩ : ∃ c, c = mkCfg l0 l1 l2 l3 l4 := ⟨_, rfl⟩
  have hok : cfgErr c = 0 := by rw [hc]; exact mkCfg_ok _ _ _ _ _
  have HF : Hid (∀ w, Calls Try.prog 73 #[.int .i64 l0, .int .i64 l1, .int .i64 l2, .int .i64 l3, .int .i64 l4] w (fun e w' => e = .returned c.val ∧ Chg [] w w')) := hid fun w => by rw [hc]; exact config_any w l0 l1 l2 l3 l4
  have HS := hid (SL.init hok)
  have HC := hid hok
  have h0 := hid ((Hold.start w).alloc (.cells #[.int .i64 l0, .int .i64 l1, .int .i64 l2, .int .i64 l3, .int .i64 l4] 72))
  clear hok hc
  go_enter Try.func8, Try.ntmps8
  go_wp2_with fail
  refine (lab_small w _ _ c l0 l1 l2 l3 l4 HF.out HC.out h0.out).mono ?_
  rintro e v1 ⟨m, r, rfl, h1⟩
  obtain ⟨C0, hC0⟩ : ∃ C0, C0 = newC c 4 (initL c.words.toNat) := ⟨_, rfl⟩
  rw [← hC0] at h1
  have HS0 : Hid (SL C0 0 (fun _ => 0)) := hid (by rw [hC0]; exact HS.out)
  have H1 := hid (h1.newBlk (t := 27) (cs := #[.pointer (some ⟨m, 0, none⟩), .pointer (some ⟨r, 0, none⟩)]))
  clear h0 h1 hC0 HS HC HF
  have pa0 := place_nonneg a2 4 (by omega)
  have pa1 := place_lt a2 4 (by omega)
  obtain ⟨n, hn⟩ : ∃ n, n = 1 + place a2 4 := ⟨_, rfl⟩
  have n1 : 1 ≤ n ∧ n ≤ 4 := by have := place_nonneg a2 4 (by omega); have := place_lt a2 4 (by omega); omega
  obtain ⟨t, ht⟩ : ∃ t, t = place a1 n := ⟨_, rfl⟩
  obtain ⟨ck, hck⟩ : ∃ ck, ck = a3 % 6 := ⟨_, rfl⟩
  have ck0 : 0 ≤ ck ∧ ck ≤ 5 := by omega
  have HP := hid (And.intro hn (And.intro ht hck))
  clear hn ht hck
  go_upto_region 2 with fail
  have h1 := H1.out
  generalize hW : World.alloc _ _ = W1 at h1 ⊢
  generalize v1.heap.size = gp at h1 ⊢
  clear hW H1
  go_wp2_with fail
  refine (place_any _ _ _ (by omega) (by omega)).mono ?_
  rintro e w' ⟨rfl, rfl⟩
  go_wp2_with fail
  rw [← HP.out.1]
  refine (place_any _ _ _ (by omega) (by omega)).mono ?_
  rintro e w' ⟨rfl, rfl⟩
  rw [← HP.out.2.1]
  have p0 := h1.blk.some_ (i := 0) rfl
  have p1 := h1.blk.some_ (i := 1) rfl
  by_cases h30 : 30 < n5
  · have e1 : decide ((30 : Int) < (n5 : Int)) = true := decide_eq_true (by omega)
    go_wp2_with fail
    refine (awake09_any w _ _ h1).mono ?_
    rintro e v2 ⟨rfl, h2⟩
    have H2 := hid h2.below
    clear h1 h2 p0 p1
    go_wp2_with fail
    go_ret
    exact ⟨rfl, H2.out⟩
  have e1 : decide ((30 : Int) < (n5 : Int)) = false := decide_eq_false (by omega)
  go_wp2_with fail
  rw [← HP.out.2.2]
  refine (pair_set w _ _ m r c C0 3 0 ck (h1.pk3 [1, 2, 0]) HS0.out.ok HS0.out.has3 (by omega)).mono ?_
  rintro e v2 ⟨rfl, h2⟩
  obtain ⟨C1, hC1⟩ : ∃ C1, C1 = opC C0 3 0 ck true := ⟨_, rfl⟩
  rw [← hC1] at h2
  have HS1 : Hid (SL C1 ck (fun _ => 0)) := hid (by rw [hC1]; exact HS0.out.clock ck)
  clear h1 p0 p1 hC1 HS0 e1
  have h3 : Hold w v2 (prA gp m r * (memA m C1 * (refA r c C1 * Asr.emp))) := h2.pk3 [2, 0, 1]
  clear h2
  go_wp2_with fail
  go_loopw [18] (fun q wr => ∃ (i : Nat) (C : Nat → List Int) (s : Nat → Int), i ≤ 4 ∧ q = .int .i64 i ∧ SL C ck s ∧ (∀ k, k < 4 → 0 ≤ s k ∧ s k ≤ 1000) ∧ Hold w wr (prA gp m r * (memA m C * (refA r c C * Asr.emp)))) (fun q _ => 4 - (intOf q).toNat)
  case atStart => exact ⟨0, C1, _, by omega, rfl, HS1.out, fun k hk => by omega, h3⟩
  case round =>
    clear h3 HS1
    obtain ⟨i, C, s, hi, rfl, hs, hsb, h⟩ := hrel
    have HS := hid (And.intro hs hsb)
    clear hs hsb
    by_cases hlt : i < 4
    · have e1 : decide ((i : Int) < 4) = true := decide_eq_true (by omega)
      have i0 : (0 : Int) ≤ (i : Int) := by omega
      go_upto_region 10 with fail
      replace h := h.drew
      refine wp_region_brk [] (by kernel_rfl) ?_
      refine wpAnyB_now (fun w' => ∃ Z, Hold w w' (prA gp m r * Z)) (fun _ _ => trivial) _ _ _ _ ?_
      refine' wpAnyB_bulk [true, true, true, true] 142 (listed' := #[true, true, true, true, false, false, false, false, false]) rfl (by kernel_rfl) (by kernel_rfl) (by kernel_rfl) (by kernel_rfl) (by kernel_rfl) (by kernel_rfl) (by decide) (fun _ _ _ _ h => h) rfl ⟨_, h⟩ (fun wq hq => ?_) ?_; rotate_left 1
      · simp only [maskL]
        obtain ⟨Z, hq⟩ := hq
        have q0 := hq.blk.some_ (i := 0) rfl
        have q1 := hq.blk.some_ (i := 1) rfl
        repeat (go_big_quiet_step (fail))
        exact wpQuiet_nil rfl
      refine wpAnyB_bar [false, false, false, false, true] (fuel := 4) (by rfl) (by rfl) (by kernel_rfl) (fun QB hQB hQX => ?_)
      simp only [maskL]
      go_wp2_with fail
      refine (at_nat _ A4 n4 c4 _ x4 i (HX4.out.below h.below) le4).mono ?_
      rintro e w' ⟨rfl, rfl⟩
      generalize x4.getD i 0 = xv
      go_wp2_with fail
      refine hQB.out _ _ ⟨_, h⟩ ?_
      clear hQB hQX QB
      refine wpAnyB_bar [false, false, false, false, false, true] (fuel := 3) (by rfl) (by rfl) (by kernel_rfl) (fun QB hQB hQX => ?_)
      simp only [maskL]
      go_wp2_with fail
      refine (place_any _ _ _ (by omega) (by omega)).mono ?_
      rintro e w' ⟨rfl, rfl⟩
      generalize hv : place xv 9 = v
      have vb : 0 ≤ v ∧ v ≤ 8 := by rw [← hv]; have := place_nonneg xv 9 (by omega); have := place_lt xv 9 (by omega); omega
      clear hv
      go_wp2_with fail
      refine hQB.out _ _ ⟨_, h⟩ ?_
      clear hQB hQX QB
      refine' wpAnyB_bulk [false, false, false, false, false, false, true] 142 (listed' := #[true, true, true, true, true, true, true, false, false]) rfl (by kernel_rfl) (by kernel_rfl) (by kernel_rfl) (by kernel_rfl) (by kernel_rfl) (by kernel_rfl) (by decide) (fun _ _ _ _ h => h) rfl ⟨_, h⟩ (fun wq hq => ?_) ?_; rotate_left 1
      · simp only [maskL]
        repeat (go_big_quiet_step (fail))
        exact wpQuiet_nil rfl
      refine wpAnyB_bar [false, false, false, false, false, false, false, true] (fuel := 1) (by rfl) (by rfl) (by kernel_rfl) (fun QB hQB hQX => ?_)
      simp only [maskL]
      go_wp2_with fail
      refine (pair_set w _ _ m r c C 6 i v (h.pk3 [1, 2, 0]) HS.out.1.ok (HS.out.1.has6 hlt) (by omega)).mono ?_
      rintro e v5 ⟨rfl, h5⟩
      obtain ⟨C2, hC2⟩ : ∃ C2, C2 = opC C 6 i v true := ⟨_, rfl⟩
      rw [← hC2] at h5
      obtain ⟨s2, hs2⟩ : ∃ s2 : Nat → Int, s2 = fun k => if k = i then v else s k := ⟨_, rfl⟩
      have HS2 : Hid (SL C2 ck s2 ∧ ∀ k, k < 4 → 0 ≤ s2 k ∧ s2 k ≤ 1000) := hid ⟨by rw [hC2, hs2]; exact HS.out.1.slot hlt v, fun k hk => by rw [hs2]; show 0 ≤ (if k = i then v else s k) ∧ (if k = i then v else s k) ≤ 1000; have := HS.out.2 k hk; split <;> omega⟩
      clear hC2 hs2 HS h
      replace h5 : Hold w v5 (prA gp m r * (memA m C2 * (refA r c C2 * Asr.emp))) := h5.pk3 [2, 0, 1]
      go_wp2_with fail
      refine hQB.out _ _ ⟨_, h5⟩ ?_
      clear hQB hQX QB
      refine' wpAnyB_bulk [false, false, false, false, false, false, false, false, true] 142 (listed' := #[true, true, true, true, true, true, true, true, true]) rfl (by kernel_rfl) (by kernel_rfl) (by kernel_rfl) (by kernel_rfl) (by kernel_rfl) (by kernel_rfl) (by decide) (fun _ _ _ _ h => h) rfl ⟨_, h5⟩ (fun wq hq => ?_) ?_; rotate_left 1
      · simp only [maskL]
        repeat (go_big_quiet_step (fail))
        exact wpQuiet_nil rfl
      refine wpAnyB_done (by kernel_rfl) ?_ _
      have H5 := hid h5
      clear h5
      go_wp2_with fail
      go_round
      case rel => exact ⟨i + 1, C2, s2, by omega, by go_num, HS2.out.1, HS2.out.2, H5.out⟩
      case measure => simp [intOf]; omega
    · obtain rfl : i = 4 := by omega
      have e1 : decide (((4 : Nat) : Int) < 4) = false := rfl
      clear hi hlt
      go_wp2_with fail
      refine (fe_new w _ _ t n h).mono ?_
      rintro e v5 ⟨f, rfl, h5⟩
      clear h
      go_wp2_with fail
      refine (rf_new w _ _ t n h5).mono ?_
      rintro e v6 ⟨g, rfl, h6⟩
      have h7 : Hold w v6 (prA gp m r * (feA f t n false 0 0 * (rfA g t n (limR false 0) 0 * (memA m C * (refA r c C * Asr.emp))))) := h6.pk5 [2, 1, 0, 3, 4]
      clear h5 h6 e1
      go_wp2_with fail
      go_loopw [21] (fun q wr => ∃ (i : Nat) (C : Nat → List Int) (s : Nat → Int) (ld : Bool) (lim nx : Int), i ≤ n5 ∧ q = .int .i64 i ∧ SL C ck s ∧ (∀ k, k < 4 → 0 ≤ s k ∧ s k ≤ 1000) ∧ FI ld lim nx ∧ Hold w wr (prA gp m r * (feA f t n ld lim nx * (rfA g t n (limR ld lim) nx * (memA m C * (refA r c C * Asr.emp)))))) (fun q _ => n5 - (intOf q).toNat)
      case atStart => exact ⟨0, C, s, false, 0, 0, by omega, rfl, HS.out.1, HS.out.2, .inl ⟨rfl, rfl, rfl⟩, h7⟩
      case round =>
        clear h7 HS
        obtain ⟨i, C, s, ld, lim, nx, hi, rfl, hs, hsb, hf, h⟩ := hrel
        obtain ⟨ac, ld2, lim2, nx2, hf2, k1, k2⟩ := ff_step t n C ck s ld lim nx hs hsb (by omega) (by omega) hf
        have HS := hid (And.intro hs hsb)
        have HFI := hid hf
        have HF2 := hid hf2
        have K1 := hid k1
        have K2 := hid k2
        have hlim := hf.lim
        obtain ⟨dn, hdn⟩ : ∃ dn, dn = (ld && decide (n ≤ nx)) := ⟨_, rfl⟩
        have HD := hid hdn
        clear hs hsb hf hf2 k1 k2 hdn
        by_cases hlt : i < n5
        · have e1 : decide ((i : Int) < (n5 : Int)) = true := decide_eq_true (by omega)
          have i0 : (0 : Int) ≤ (i : Int) := by omega
          have i1 : (i : Int) < (n5 : Int) := by omega
          obtain ⟨lr, hlr⟩ : ∃ lr, lr = limR ld lim := ⟨_, rfl⟩
          have HLR := hid hlr
          rw [← hlr] at h
          have ED : (dn != dn) = false := by simp
          have EL : (lr != lr) = false := by simp
          clear hlr
          go_upto_region 18 with fail
          replace h := h.drew
          refine wp_region_brk [] (by kernel_rfl) ?_
          refine wpAnyB_now (fun w' => ∃ Z : Asr, Hold w w' (prA gp m r * Z)) (fun _ _ => trivial) _ _ _ _ ?_
          refine' wpAnyB_bulk [true, false, true] 142 (listed' := #[true, false, true, false, false, false, false, false, false, false, false, false, false, false, false, false, false, false, false, false, false, false, false, false, false, false, false, false, false, false]) rfl (by kernel_rfl) (by kernel_rfl) (by kernel_rfl) (by kernel_rfl) (by kernel_rfl) (by kernel_rfl) (by decide) (fun _ _ _ _ h => h) rfl ⟨_, h⟩ (fun wq hq => ?_) ?_; rotate_left 1
          · simp only [maskL]
            repeat (go_big_quiet_step (fail))
            exact wpQuiet_nil rfl
          refine wpAnyB_bar [false, true] (fuel := 27) (by rfl) (by rfl) (by kernel_rfl) (fun QB hQB hQX => ?_)
          simp only [maskL]
          go_wp2_with fail
          refine (fe_done w _ _ f t n ld lim nx (h.pk2 [1, 0])).mono ?_
          rintro e w6 ⟨rfl, h6⟩
          rw [← HD.out]
          replace h6 : Hold w w6 (prA gp m r * (feA f t n ld lim nx * (rfA g t n lr nx * (memA m C * (refA r c C * Asr.emp))))) := h6.pk2 [1, 0]
          clear h
          have h := h6
          clear h6
          go_wp2_with fail
          refine hQB.out _ _ ⟨_, h⟩ ?_
          clear hQB hQX QB
          refine wpAnyB_bar [false, false, false, true] (fuel := 26) (by rfl) (by rfl) (by kernel_rfl) (fun QB hQB hQX => ?_)
          simp only [maskL]
          go_wp2_with fail
          refine (rf_done w _ _ g t n lr nx (h.pk3 [2, 0, 1])).mono ?_
          rintro e w7 ⟨rfl, h7⟩
          rw [show (decide (0 ≤ lr) && decide (n ≤ nx)) = dn by rw [HLR.out, HD.out]; exact HFI.out.done n]
          replace h7 : Hold w w7 (prA gp m r * (feA f t n ld lim nx * (rfA g t n lr nx * (memA m C * (refA r c C * Asr.emp))))) := h7.pk3 [1, 2, 0]
          clear h
          have h := h7
          clear h7
          go_wp2_with fail
          refine hQB.out _ _ ⟨_, h⟩ ?_
          clear hQB hQX QB
          refine' wpAnyB_bulk [false, false, false, false, true, true, true, false, true, true, true] 142 (listed' := #[true, true, true, true, true, true, true, false, true, true, true, false, false, false, false, false, false, false, false, false, false, false, false, false, false, false, false, false, false, false]) rfl (by kernel_rfl) (by kernel_rfl) (by kernel_rfl) (by kernel_rfl) (by kernel_rfl) (by kernel_rfl) (by decide) (fun _ _ _ _ h => h) rfl ⟨_, h⟩ (fun wq hq => ?_) ?_; rotate_left 1
          · simp only [maskL]
            repeat (go_big_quiet_step (fail))
            exact wpQuiet_nil rfl
          refine wpAnyB_two [false, false, false, false, false, false, false, true] [false, false, false, false, false, false, false, false, false, false, false, true] (fuel := 19) (by rfl) (by rfl) (by rfl) (by rfl) (by kernel_rfl) (fun QB hQB hQX => ?_) (fun QB hQB hQX => ?_)
          · simp only [maskL]
            go_wp2_with fail
            refine (fe_limit w _ _ f t n ld lim nx (h.pk2 [1, 0]) hlim).mono ?_
            rintro e w' ⟨rfl, rfl⟩
            rw [show (if ld then lim else -1) = lr from HLR.out.symm]
            go_wp2_with fail
            refine hQB.out _ _ ⟨_, h⟩ ?_
            clear hQB hQX QB
            refine wpAnyB_bar [false, false, false, false, false, false, false, false, false, false, false, true] (fuel := 18) (by rfl) (by rfl) (by kernel_rfl) (fun QB hQB hQX => ?_)
            simp only [maskL]
            have q2 := h.drop.drop.blk.some_ (i := 2) rfl
            go_wp2_with fail
            refine hQB.out _ _ ⟨_, h⟩ ?_
            clear hQB hQX QB q2
            refine' wpAnyB_bulk [false, false, false, false, false, false, false, false, false, false, false, false, true, true, true, true, true, true, false, true, true, true] 142 (listed' := #[true, true, true, true, true, true, true, true, true, true, true, true, true, true, true, true, true, true, false, true, true, true, false, false, false, false, false, false, false, false]) rfl (by kernel_rfl) (by kernel_rfl) (by kernel_rfl) (by kernel_rfl) (by kernel_rfl) (by kernel_rfl) (by decide) (fun _ _ _ _ h => h) rfl ⟨_, h⟩ (fun wq hq => ?_) ?_; rotate_left 1
            · simp only [maskL]
              obtain ⟨Z, hq⟩ := hq
              have q0 := hq.blk.some_ (i := 0) rfl
              have q1 := hq.blk.some_ (i := 1) rfl
              repeat (go_big_quiet_step (fail))
              exact wpQuiet_nil rfl
            refine wpAnyB_bar [false, false, false, false, false, false, false, false, false, false, false, false, false, false, false, false, false, false, true] (fuel := 8) (by rfl) (by rfl) (by kernel_rfl) (fun QB hQB hQX => ?_)
            simp only [maskL]
            go_wp2_with fail
            refine (K1.out w _ _ f m (h.pk4 [1, 3, 0, 2])).mono ?_
            rintro e w8 ⟨rfl, h8⟩
            replace h8 : Hold w w8 (prA gp m r * (feA f t n ld2 lim2 nx2 * (rfA g t n lr nx * (memA m C * (refA r c C * Asr.emp))))) := h8.pk4 [2, 0, 3, 1]
            clear h
            go_wp2_with fail
            refine hQB.out _ _ ⟨_, h8⟩ ?_
            clear hQB hQX QB
            refine wpAnyB_bar [false, false, false, false, false, false, false, false, false, false, false, false, false, false, false, false, false, false, false, false, false, false, true] (fuel := 7) (by rfl) (by rfl) (by kernel_rfl) (fun QB hQB hQX => ?_)
            simp only [maskL]
            go_wp2_with fail
            rw [HLR.out] at h8
            refine (K2.out w _ _ g r c (h8.pk5 [2, 4, 0, 1, 3])).mono ?_
            rintro e w9 ⟨rfl, h9⟩
            replace h9 : Hold w w9 (prA gp m r * (feA f t n ld2 lim2 nx2 * (rfA g t n (limR ld2 lim2) nx2 * (memA m C * (refA r c C * Asr.emp))))) := h9.pk5 [2, 3, 0, 4, 1]
            clear h8
            go_wp2_with fail
            refine hQB.out _ _ ⟨_, h9⟩ ?_
            clear hQB hQX QB
            refine' wpAnyB_bulk [false, false, false, false, false, false, false, false, false, false, false, false, false, false, false, false, false, false, false, false, false, false, false, true, true, true, true] 142 (listed' := #[true, true, true, true, true, true, true, true, true, true, true, true, true, true, true, true, true, true, true, true, true, true, true, true, true, true, true, false, false, false]) rfl (by kernel_rfl) (by kernel_rfl) (by kernel_rfl) (by kernel_rfl) (by kernel_rfl) (by kernel_rfl) (by decide) (fun _ _ _ _ h => h) rfl ⟨_, h9⟩ (fun wq hq => ?_) ?_; rotate_left 1
            · simp only [maskL]
              obtain ⟨Z, hq⟩ := hq
              have q0 := hq.blk.some_ (i := 0) rfl
              have q1 := hq.blk.some_ (i := 1) rfl
              repeat (go_big_quiet_step (fail))
              exact wpQuiet_nil rfl
            refine wpAnyB_bar [false, false, false, false, false, false, false, false, false, false, false, false, false, false, false, false, false, false, false, false, false, false, false, false, false, false, false, true] (fuel := 2) (by rfl) (by rfl) (by kernel_rfl) (fun QB hQB hQX => ?_)
            simp only [maskL]
            go_wp2_with fail
            refine (pair_same w _ _ m r c C (h9.pk5 [3, 4, 0, 1, 2]) HS.out.1.ok).mono ?_
            rintro e w10 ⟨rfl, h10⟩
            replace h10 : Hold w w10 (prA gp m r * (feA f t n ld2 lim2 nx2 * (rfA g t n (limR ld2 lim2) nx2 * (memA m C * (refA r c C * Asr.emp))))) := h10.pk5 [2, 3, 4, 0, 1]
            clear h9
            go_wp2_with fail
            refine hQB.out _ _ ⟨_, h10⟩ ?_
            clear hQB hQX QB
            refine' wpAnyB_bulk [false, false, false, false, false, false, false, false, false, false, false, false, false, false, false, false, false, false, false, false, false, false, false, false, false, false, false, false, true, true] 142 (listed' := #[true, true, true, true, true, true, true, true, true, true, true, true, true, true, true, true, true, true, true, true, true, true, true, true, true, true, true, true, true, true]) rfl (by kernel_rfl) (by kernel_rfl) (by kernel_rfl) (by kernel_rfl) (by kernel_rfl) (by kernel_rfl) (by decide) (fun _ _ _ _ h => h) rfl ⟨_, h10⟩ (fun wq hq => ?_) ?_; rotate_left 1
            · simp only [maskL]
              repeat (go_big_quiet_step (fail))
              exact wpQuiet_nil rfl
            refine wpAnyB_done (by kernel_rfl) ?_ _
            -- END
            clear K1 K2 ED EL
            obtain ⟨ad, rfl, _, hcell⟩ := (HX5.out.below h10.below).numAt hlt
            generalize x5.getD i 0 = z at hcell
            go_wp2_with fail
            refine (place_any _ _ _ (by omega) (by omega)).mono ?_
            rintro e w' ⟨rfl, rfl⟩
            generalize hv : place z 60 = v
            have v0 : 0 ≤ v := by rw [← hv]; exact place_nonneg z 60 (by omega)
            clear hv hcell
            have p0 := h10.blk.some_ (i := 0) rfl
            have p1 := h10.blk.some_ (i := 1) rfl
            by_cases hv36 : v < 36
            · have e3 : decide (v < 36) = true := decide_eq_true hv36
              obtain ⟨q, hq⟩ : ∃ q : Nat, v / 9 = q := ⟨(v / 9).toNat, by omega⟩
              have q4 : q < 4 := by omega
              have HQ := hid hq
              clear hq
              go_wp2_with fail
              rw [HQ.out]
              refine (pair_set w _ _ m r c C 6 q (v % 9) (h10.pk5 [3, 4, 0, 1, 2]) HS.out.1.ok (HS.out.1.has6 q4) (by omega)).mono ?_
              rintro e v11 ⟨rfl, h11⟩
              obtain ⟨C2, hC2⟩ : ∃ C2, C2 = opC C 6 q (v % 9) true := ⟨_, rfl⟩
              rw [← hC2] at h11
              obtain ⟨s2, hs2⟩ : ∃ s2 : Nat → Int, s2 = fun k => if k = q then v % 9 else s k := ⟨_, rfl⟩
              have HS2 : Hid (SL C2 ck s2 ∧ ∀ k, k < 4 → 0 ≤ s2 k ∧ s2 k ≤ 1000) := hid ⟨by rw [hC2, hs2]; exact HS.out.1.slot q4 _, fun k hk => by rw [hs2]; show 0 ≤ (if k = q then v % 9 else s k) ∧ (if k = q then v % 9 else s k) ≤ 1000; have := HS.out.2 k hk; split <;> omega⟩
              have H12 := hid (h11.pk5 [2, 3, 4, 0, 1])
              clear h10 h11 p0 p1 hC2 hs2 HS
              go_wp2_with fail
              go_round
              case rel => exact ⟨i + 1, C2, s2, ld2, lim2, nx2, by omega, by go_num, HS2.out.1, HS2.out.2, HF2.out, H12.out⟩
              case measure => simp [intOf]; omega
            · have e3 : decide (v < 36) = false := decide_eq_false hv36
              have H12 := hid h10
              clear h10 p0 p1
              go_wp2_with fail
              go_round
              case rel => exact ⟨i + 1, C, s, ld2, lim2, nx2, by omega, by go_num, HS.out.1, HS.out.2, HF2.out, H12.out⟩
              case measure => simp [intOf]; omega
          · simp only [maskL]
            have q2 := h.drop.drop.blk.some_ (i := 2) rfl
            go_wp2_with fail
            refine hQB.out _ _ ⟨_, h⟩ ?_
            clear hQB hQX QB q2
            refine wpAnyB_bar [false, false, false, false, false, false, false, true] (fuel := 18) (by rfl) (by rfl) (by kernel_rfl) (fun QB hQB hQX => ?_)
            simp only [maskL]
            go_wp2_with fail
            refine (fe_limit w _ _ f t n ld lim nx (h.pk2 [1, 0]) hlim).mono ?_
            rintro e w' ⟨rfl, rfl⟩
            rw [show (if ld then lim else -1) = lr from HLR.out.symm]
            go_wp2_with fail
            refine hQB.out _ _ ⟨_, h⟩ ?_
            clear hQB hQX QB
            refine' wpAnyB_bulk [false, false, false, false, false, false, false, false, false, false, false, false, true, true, true, true, true, true, false, true, true, true] 142 (listed' := #[true, true, true, true, true, true, true, true, true, true, true, true, true, true, true, true, true, true, false, true, true, true, false, false, false, false, false, false, false, false]) rfl (by kernel_rfl) (by kernel_rfl) (by kernel_rfl) (by kernel_rfl) (by kernel_rfl) (by kernel_rfl) (by decide) (fun _ _ _ _ h => h) rfl ⟨_, h⟩ (fun wq hq => ?_) ?_; rotate_left 1
            · simp only [maskL]
              obtain ⟨Z, hq⟩ := hq
              have q0 := hq.blk.some_ (i := 0) rfl
              have q1 := hq.blk.some_ (i := 1) rfl
              repeat (go_big_quiet_step (fail))
              exact wpQuiet_nil rfl
            refine wpAnyB_bar [false, false, false, false, false, false, false, false, false, false, false, false, false, false, false, false, false, false, true] (fuel := 8) (by rfl) (by rfl) (by kernel_rfl) (fun QB hQB hQX => ?_)
            simp only [maskL]
            go_wp2_with fail
            refine (K1.out w _ _ f m (h.pk4 [1, 3, 0, 2])).mono ?_
            rintro e w8 ⟨rfl, h8⟩
            replace h8 : Hold w w8 (prA gp m r * (feA f t n ld2 lim2 nx2 * (rfA g t n lr nx * (memA m C * (refA r c C * Asr.emp))))) := h8.pk4 [2, 0, 3, 1]
            clear h
            go_wp2_with fail
            refine hQB.out _ _ ⟨_, h8⟩ ?_
            clear hQB hQX QB
            refine wpAnyB_bar [false, false, false, false, false, false, false, false, false, false, false, false, false, false, false, false, false, false, false, false, false, false, true] (fuel := 7) (by rfl) (by rfl) (by kernel_rfl) (fun QB hQB hQX => ?_)
            simp only [maskL]
            go_wp2_with fail
            rw [HLR.out] at h8
            refine (K2.out w _ _ g r c (h8.pk5 [2, 4, 0, 1, 3])).mono ?_
            rintro e w9 ⟨rfl, h9⟩
            replace h9 : Hold w w9 (prA gp m r * (feA f t n ld2 lim2 nx2 * (rfA g t n (limR ld2 lim2) nx2 * (memA m C * (refA r c C * Asr.emp))))) := h9.pk5 [2, 3, 0, 4, 1]
            clear h8
            go_wp2_with fail
            refine hQB.out _ _ ⟨_, h9⟩ ?_
            clear hQB hQX QB
            refine' wpAnyB_bulk [false, false, false, false, false, false, false, false, false, false, false, false, false, false, false, false, false, false, false, false, false, false, false, true, true, true, true] 142 (listed' := #[true, true, true, true, true, true, true, true, true, true, true, true, true, true, true, true, true, true, true, true, true, true, true, true, true, true, true, false, false, false]) rfl (by kernel_rfl) (by kernel_rfl) (by kernel_rfl) (by kernel_rfl) (by kernel_rfl) (by kernel_rfl) (by decide) (fun _ _ _ _ h => h) rfl ⟨_, h9⟩ (fun wq hq => ?_) ?_; rotate_left 1
            · simp only [maskL]
              obtain ⟨Z, hq⟩ := hq
              have q0 := hq.blk.some_ (i := 0) rfl
              have q1 := hq.blk.some_ (i := 1) rfl
              repeat (go_big_quiet_step (fail))
              exact wpQuiet_nil rfl
            refine wpAnyB_bar [false, false, false, false, false, false, false, false, false, false, false, false, false, false, false, false, false, false, false, false, false, false, false, false, false, false, false, true] (fuel := 2) (by rfl) (by rfl) (by kernel_rfl) (fun QB hQB hQX => ?_)
            simp only [maskL]
            go_wp2_with fail
            refine (pair_same w _ _ m r c C (h9.pk5 [3, 4, 0, 1, 2]) HS.out.1.ok).mono ?_
            rintro e w10 ⟨rfl, h10⟩
            replace h10 : Hold w w10 (prA gp m r * (feA f t n ld2 lim2 nx2 * (rfA g t n (limR ld2 lim2) nx2 * (memA m C * (refA r c C * Asr.emp))))) := h10.pk5 [2, 3, 4, 0, 1]
            clear h9
            go_wp2_with fail
            refine hQB.out _ _ ⟨_, h10⟩ ?_
            clear hQB hQX QB
            refine' wpAnyB_bulk [false, false, false, false, false, false, false, false, false, false, false, false, false, false, false, false, false, false, false, false, false, false, false, false, false, false, false, false, true, true] 142 (listed' := #[true, true, true, true, true, true, true, true, true, true, true, true, true, true, true, true, true, true, true, true, true, true, true, true, true, true, true, true, true, true]) rfl (by kernel_rfl) (by kernel_rfl) (by kernel_rfl) (by kernel_rfl) (by kernel_rfl) (by kernel_rfl) (by decide) (fun _ _ _ _ h => h) rfl ⟨_, h10⟩ (fun wq hq => ?_) ?_; rotate_left 1
            · simp only [maskL]
              repeat (go_big_quiet_step (fail))
              exact wpQuiet_nil rfl
            refine wpAnyB_done (by kernel_rfl) ?_ _
            -- END
            clear K1 K2 ED EL
            obtain ⟨ad, rfl, _, hcell⟩ := (HX5.out.below h10.below).numAt hlt
            generalize x5.getD i 0 = z at hcell
            go_wp2_with fail
            refine (place_any _ _ _ (by omega) (by omega)).mono ?_
            rintro e w' ⟨rfl, rfl⟩
            generalize hv : place z 60 = v
            have v0 : 0 ≤ v := by rw [← hv]; exact place_nonneg z 60 (by omega)
            clear hv hcell
            have p0 := h10.blk.some_ (i := 0) rfl
            have p1 := h10.blk.some_ (i := 1) rfl
            by_cases hv36 : v < 36
            · have e3 : decide (v < 36) = true := decide_eq_true hv36
              obtain ⟨q, hq⟩ : ∃ q : Nat, v / 9 = q := ⟨(v / 9).toNat, by omega⟩
              have q4 : q < 4 := by omega
              have HQ := hid hq
              clear hq
              go_wp2_with fail
              rw [HQ.out]
              refine (pair_set w _ _ m r c C 6 q (v % 9) (h10.pk5 [3, 4, 0, 1, 2]) HS.out.1.ok (HS.out.1.has6 q4) (by omega)).mono ?_
              rintro e v11 ⟨rfl, h11⟩
              obtain ⟨C2, hC2⟩ : ∃ C2, C2 = opC C 6 q (v % 9) true := ⟨_, rfl⟩
              rw [← hC2] at h11
              obtain ⟨s2, hs2⟩ : ∃ s2 : Nat → Int, s2 = fun k => if k = q then v % 9 else s k := ⟨_, rfl⟩
              have HS2 : Hid (SL C2 ck s2 ∧ ∀ k, k < 4 → 0 ≤ s2 k ∧ s2 k ≤ 1000) := hid ⟨by rw [hC2, hs2]; exact HS.out.1.slot q4 _, fun k hk => by rw [hs2]; show 0 ≤ (if k = q then v % 9 else s k) ∧ (if k = q then v % 9 else s k) ≤ 1000; have := HS.out.2 k hk; split <;> omega⟩
              have H12 := hid (h11.pk5 [2, 3, 4, 0, 1])
              clear h10 h11 p0 p1 hC2 hs2 HS
              go_wp2_with fail
              go_round
              case rel => exact ⟨i + 1, C2, s2, ld2, lim2, nx2, by omega, by go_num, HS2.out.1, HS2.out.2, HF2.out, H12.out⟩
              case measure => simp [intOf]; omega
            · have e3 : decide (v < 36) = false := decide_eq_false hv36
              have H12 := hid h10
              clear h10 p0 p1
              go_wp2_with fail
              go_round
              case rel => exact ⟨i + 1, C, s, ld2, lim2, nx2, by omega, by go_num, HS.out.1, HS.out.2, HF2.out, H12.out⟩
              case measure => simp [intOf]; omega
        · obtain rfl : i = n5 := by omega
          have e1 : decide ((i : Int) < (i : Int)) = false := by simp
          have ED : (dn == dn) = true := by simp
          go_wp2_with fail
          refine (fe_done w _ _ f t n ld lim nx (h.pk2 [1, 0])).mono ?_
          rintro e w6 ⟨rfl, h6⟩
          rw [← HD.out]
          clear h
          go_wp2_with fail
          refine (rf_done w _ _ g t n (limR ld lim) nx (h6.pk3 [2, 0, 1])).mono ?_
          rintro e w7 ⟨rfl, h7⟩
          rw [show (decide (0 ≤ limR ld lim) && decide (n ≤ nx)) = dn by rw [HD.out]; exact HFI.out.done n]
          clear h6
          go_wp2_with fail
          refine (awake09_any w _ _ h7).mono ?_
          rintro e w8 ⟨rfl, h8⟩
          have H8 := hid h8.below
          clear h7 h8
          go_wp2_with fail
          go_ret
          exact ⟨rfl, H8.out⟩
end Go.Proofs.Ytigjpfhjddkckaa
