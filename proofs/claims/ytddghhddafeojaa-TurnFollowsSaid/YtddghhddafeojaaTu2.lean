/- strongtxlaw10: awake, TurnTickets. -/
import Derived.Test.YtddghhddafeojaaTurn
import Derived.Test.YtddghhddafeojaaSmall
import Derived.Test.YtddghhddafeojaaMake
namespace Go.Proofs.Ytddghhddafeojaa
open Go.RowKit
set_option linter.unusedVariables false

theorem valC_op_same {C : Nat → List Int} {cell i x : Int} (hh : hasC C cell i) : valC (opC C cell i x true) cell i = x := by
  rw [(op_yes hh 2 x).2.1]; exact (valC_setK hh).1
theorem valC_op_ne {C : Nat → List Int} {cell cell' i j x : Int} (hc : cell'.toNat ≠ cell.toNat) : valC (opC C cell i x true) cell' j = valC C cell' j := by
  have hg : getC (opC C cell i x true) cell' = getC C cell' := by
    unfold getC opC
    split
    · split
      · exact setK_ne hc
      · rfl
    · rfl
  unfold valC
  rw [hg]
theorem valC_new4 {c : Cfg} {th : Nat} {init : List Int} : valC (newC c th init) 4 0 = 0 := rfl
theorem valC_new5 {c : Cfg} {th : Nat} {init : List Int} : valC (newC c th init) 5 0 = 0 := rfl
theorem valC_w4 (C : Nat → List Int) : valC C 4 0 = w1 C 4 := by
  unfold valC w1
  rw [show getC C 4 = C 4 from getC_at (k := 4) (by decide) (by decide)]; rfl
theorem wrapu_small {x : Int} (h0 : 0 ≤ x) (h1 : x ≤ 1000000) : IntKind.u64.wrap x = x := by rw [IntKind.wrap_u64]; omega
def cf0 : Cfg := mkCfg 0 0 0 0 0
theorem new_ok4 {c : Cfg} (hok : cfgErr c = 0) : COk (newC c 4 (initL c.words.toNat)) := COk.newC hok (by decide) (by rw [initL_len]; have := (cfgOk_of hok).w; omega)
set_option maxRecDepth 8000 in
set_option maxHeartbeats 4000000 in
theorem awake10_any (w0 w : World) (R : Asr) (h : Hold w0 w R) : Calls Try.prog 29 #[] w (BothPost w0 (.bool true) R) := by
  have hok : cfgErr cf0 = 0 := mkCfg_ok _ _ _ _ _
  have HO := hid (new_ok4 hok)
  have HC0 := hid hok
  clear hok
  go_enter Try.func29, Try.ntmps29
  go_wp2_with fail
  refine (lab_small w0 _ _ cf0 0 0 0 0 0 (fun w => config_any w 0 0 0 0 0) HC0.out h).mono ?_
  rintro e v1 ⟨m, r, rfl, h1⟩
  obtain ⟨C0, hC0⟩ : ∃ C0, C0 = newC cf0 4 (initL cf0.words.toNat) := ⟨_, rfl⟩
  have hv4 : valC C0 4 0 = 0 := by rw [hC0]; rfl
  have hv5 : valC C0 5 0 = 0 := by rw [hC0]; rfl
  have hk0 : COk C0 := by rw [hC0]; exact HO.out
  rw [← hC0] at h1
  have h2 := h1.newBlk (t := 27) (cs := #[.pointer (some ⟨m, 0, none⟩), .pointer (some ⟨r, 0, none⟩)])
  have H2 := hid h2
  have HK0 := hid (And.intro hk0 (And.intro hv4 hv5))
  clear h h1 h2 hC0 hv4 hv5 hk0 HO HC0
  go_wp2_with fail
  have h2 := H2.out
  generalize hW : World.alloc _ _ = W2 at h2 ⊢
  generalize v1.heap.size = gp at h2 ⊢
  clear hW H2
  refine (turn_new w0 _ _ h2).mono ?_
  rintro e v2 ⟨a, rfl, h3⟩
  clear h2
  go_wp2_with fail
  refine (turn_new w0 _ _ h3).mono ?_
  rintro e v3 ⟨b, rfl, h4⟩
  have h5 : Hold w0 v3 (tuA a false 0 false * (memA m C0 * (tuA b false 0 false * (prA gp m r * (refA r cf0 C0 * R))))) := h4.pk5 [1, 3, 0, 2, 4]
  have p0 := h5.drop.drop.drop.blk.some_ (i := 0) rfl
  clear h3 h4
  go_wp2_with fail
  refine (turn_step_take w0 _ _ a m C0 0 h5 HK0.out.1).mono ?_
  rintro e v4 ⟨rfl, h6⟩
  rw [HK0.out.2.1, show IntKind.u64.wrap ((0 : Int) + 1) = 1 from rfl] at h6 ⊢
  obtain ⟨C1, hC1⟩ : ∃ C1, C1 = opC C0 4 0 1 true := ⟨_, rfl⟩
  rw [← hC1] at h6
  have hk1 : COk C1 := by rw [hC1]; exact HK0.out.1.opC _ _ _ _
  have h14 : valC C1 4 0 = 1 := by rw [hC1]; exact valC_op_same HK0.out.1.has4
  have h15 : valC C1 5 0 = 0 := by rw [hC1]; exact (valC_op_ne (by decide)).trans HK0.out.2.2
  have HK1 := hid (And.intro hk1 (And.intro h14 h15))
  have h7 : Hold w0 v4 (tuA b false 0 false * (memA m C1 * (tuA a true 0 false * (prA gp m r * (refA r cf0 C0 * R))))) := h6.pk3 [2, 1, 0]
  clear h5 h6 p0 hC1 hk1 h14 h15 HK0
  have p0 := h7.drop.drop.drop.blk.some_ (i := 0) rfl
  go_wp2_with fail
  refine (turn_step_take w0 _ _ b m C1 0 h7 HK1.out.1).mono ?_
  rintro e v5 ⟨rfl, h8⟩
  rw [HK1.out.2.1, show IntKind.u64.wrap ((1 : Int) + 1) = 2 from rfl] at h8 ⊢
  obtain ⟨C2, hC2⟩ : ∃ C2, C2 = opC C1 4 0 2 true := ⟨_, rfl⟩
  rw [← hC2] at h8
  have hk2 : COk C2 := by rw [hC2]; exact HK1.out.1.opC _ _ _ _
  have h25 : valC C2 5 0 = 0 := by rw [hC2]; exact (valC_op_ne (by decide)).trans HK1.out.2.2
  have HK2 := hid (And.intro hk2 h25)
  have h9 : Hold w0 v5 (tuA a true 0 false * (memA m C2 * (tuA b true 1 false * (prA gp m r * (refA r cf0 C0 * R))))) := h8.pk3 [2, 1, 0]
  clear h7 h8 p0 hC2 hk2 h25 HK1
  have p0 := h9.drop.drop.drop.blk.some_ (i := 0) rfl
  go_wp2_with fail
  refine (turn_step_wait w0 _ _ a m C2 0 h9 HK2.out.1).mono ?_
  rintro e v6 ⟨rfl, h10⟩
  rw [HK2.out.2, show ((0 : Int) == 0) = true from rfl] at h10
  have h11 : Hold w0 v6 (tuA b true 1 false * (memA m C2 * (tuA a true 0 true * (prA gp m r * (refA r cf0 C0 * R))))) := h10.pk3 [2, 1, 0]
  clear h9 h10 p0
  have p0 := h11.drop.drop.drop.blk.some_ (i := 0) rfl
  go_wp2_with fail
  refine (turn_step_wait w0 _ _ b m C2 1 h11 HK2.out.1).mono ?_
  rintro e v7 ⟨rfl, h12⟩
  rw [HK2.out.2, show ((0 : Int) == 1) = false from rfl] at h12
  clear h11 p0
  go_wp2_with fail
  refine (turn_done w0 _ _ a true 0 true (h12.pk3 [2, 0, 1])).mono ?_
  rintro e w' ⟨rfl, rfl⟩
  go_wp2_with fail
  refine (turn_done w0 _ _ b true 1 false h12).mono ?_
  rintro e w' ⟨rfl, rfl⟩
  go_wp2_with fail
  replace h12 := h12.drew
  refine wp_region_brk [] (by kernel_rfl) ?_
  refine wpAnyB_now (fun w' => ∃ Z, Hold w0 w' (prA gp m r * Z)) (fun _ _ => trivial) _ _ _ _ ?_
  refine' wpAnyB_bulk [true, true, true] 65 (listed' := #[true, true, true, false, false]) rfl (by kernel_rfl) (by kernel_rfl) (by kernel_rfl) (by kernel_rfl) (by kernel_rfl) (by kernel_rfl) (by decide) (fun _ _ _ _ h => h) rfl ⟨_, h12.pk4 [3, 0, 1, 2]⟩ (fun wq hq => ?_) ?_; rotate_left 1
  · simp only [maskL]
    obtain ⟨Z, hq⟩ := hq
    have p0 := hq.blk.some_ (i := 0) rfl
    repeat (go_big_quiet_step (fail))
    exact wpQuiet_nil rfl
  refine wpAnyB_bar [false, false, false, true] (fuel := 1) (by rfl) (by rfl) (by kernel_rfl) (fun QB hQB hQX => ?_)
  simp only [maskL]
  go_wp2_with fail
  refine (turn_ticket w0 _ _ a 0 true (h12.pk3 [2, 0, 1]) (by decide) (by decide)).mono ?_
  rintro e w' ⟨rfl, rfl⟩
  go_wp2_with fail
  refine hQB.out _ _ ⟨_, h12.pk4 [3, 0, 1, 2]⟩ ?_
  clear hQB hQX QB
  refine wpAnyB_bar [false, false, false, false, true] (fuel := 0) (by rfl) (by rfl) (by kernel_rfl) (fun QB hQB hQX => ?_)
  simp only [maskL]
  go_wp2_with fail
  refine (turn_pass w0 _ _ m C2 0 (h12.pk4 [1, 0, 2, 3]) HK2.out.1 (by decide) (by decide)).mono ?_
  rintro e v8 ⟨rfl, h13⟩
  replace h13 : Hold w0 v8 (memA m (opC C2 5 0 1 true) * (tuA b true 1 false * (tuA a true 0 true * (prA gp m r * (refA r cf0 C0 * R))))) := h13
  clear h12
  go_wp2_with fail
  refine hQB.out _ _ ⟨_, h13.pk4 [3, 0, 1, 2]⟩ ?_
  clear hQB hQX QB
  refine wpAnyB_done (by kernel_rfl) ?_ _
  obtain ⟨C3, hC3⟩ : ∃ C3, C3 = opC C2 5 0 1 true := ⟨_, rfl⟩
  rw [← hC3] at h13
  have hk3 : COk C3 := by rw [hC3]; exact HK2.out.1.opC _ _ _ _
  have h35 : valC C3 5 0 = 1 := by rw [hC3]; exact valC_op_same HK2.out.1.has5
  have HK3 := hid (And.intro hk3 h35)
  have h14 := h13.swap
  clear h13 hC3 hk3 h35 HK2
  have p0 := h14.drop.drop.drop.blk.some_ (i := 0) rfl
  go_wp2_with fail
  refine (turn_step_wait w0 _ _ b m C3 1 h14 HK3.out.1).mono ?_
  rintro e v9 ⟨rfl, h15⟩
  rw [HK3.out.2, show ((1 : Int) == 1) = true from rfl] at h15
  clear h14 p0
  go_wp2_with fail
  refine (turn_done w0 _ _ b true 1 true h15).mono ?_
  rintro e w' ⟨rfl, rfl⟩
  go_wp2_with fail
  refine (turn_ticket w0 _ _ b 1 true h15 (by decide) (by decide)).mono ?_
  rintro e w' ⟨rfl, rfl⟩
  have H16 := hid (h15.pk5 [])
  clear h15
  go_wp2_with fail
  go_ret
  exact ⟨rfl, H16.out⟩
theorem field_ticket (v0 v1 v2 v3 v4 v5 v6 v7 : Value) (w : World) : (Instr.field 51 (.agg #[v0, v1, v2, v3, v4, v5, v6, v7]) 3).run Try.prog w = .ok v3 w := by kernel_rfl
set_option maxRecDepth 8000 in
set_option maxHeartbeats 4000000 in
theorem turnTickets_walk (l0 l1 l2 l3 l4 : Int) (a1 : Int) (w : World) (_ : (Lit.int .i64 a1).wf = true) :
    Calls Try.prog 9 #[.agg #[.int .i64 l0, .int .i64 l1, .int .i64 l2, .int .i64 l3, .int .i64 l4], .int .i64 a1] w (fun e w' => e = .returned (.bool true) ∧ Below w.heap.size w w') := by
  obtain ⟨c, hc⟩ : ∃ c, c = mkCfg l0 l1 l2 l3 l4 := ⟨_, rfl⟩
  have hok : cfgErr c = 0 := by rw [hc]; exact mkCfg_ok _ _ _ _ _
  have HF : Hid (∀ w, Calls Try.prog 61 #[.int .i64 l0, .int .i64 l1, .int .i64 l2, .int .i64 l3, .int .i64 l4] w (fun e w' => e = .returned c.val ∧ Chg [] w w')) := hid fun w => by rw [hc]; exact config_any w l0 l1 l2 l3 l4
  have HO := hid (new_ok4 hok)
  have HC := hid hok
  have h0 := hid ((Hold.start w).alloc (.cells #[.int .i64 l0, .int .i64 l1, .int .i64 l2, .int .i64 l3, .int .i64 l4] 57))
  clear hok hc
  go_enter Try.func9, Try.ntmps9
  go_wp2_with fail
  refine (lab_small w _ _ c l0 l1 l2 l3 l4 HF.out HC.out h0.out).mono ?_
  rintro e v1 ⟨m, r, rfl, h1⟩
  obtain ⟨C0, hC0⟩ : ∃ C0, C0 = newC c 4 (initL c.words.toNat) := ⟨_, rfl⟩
  have hv4 : valC C0 4 0 = ((0 : Nat) : Int) := by rw [hC0]; rfl
  have hk0 : COk C0 := by rw [hC0]; exact HO.out
  rw [← hC0] at h1
  have H2 := hid (h1.newBlk (t := 27) (cs := #[.pointer (some ⟨m, 0, none⟩), .pointer (some ⟨r, 0, none⟩)]))
  have HK0 := hid (And.intro hk0 hv4)
  clear h0 h1 hC0 hv4 hk0 HO
  obtain ⟨n, hn⟩ : ∃ n : Nat, place a1 30 = n := ⟨(place a1 30).toNat, by have := place_nonneg a1 30 (by omega); omega⟩
  have hn30 : n < 30 := by have := place_lt a1 30 (by omega); omega
  have Hn := hid hn
  clear hn
  go_wp2_with fail
  have h2 := H2.out
  generalize hW : World.alloc _ _ = W2 at h2 ⊢
  generalize v1.heap.size = gp at h2 ⊢
  clear hW H2
  refine (place_any _ _ _ (by omega) (by omega)).mono ?_
  rintro e w' ⟨rfl, rfl⟩
  rw [Hn.out]
  go_wp2_with fail
  go_loopw [7] (fun s wr => ∃ (i : Nat) (C : Nat → List Int), i ≤ n ∧ s = .int .i64 i ∧ COk C ∧ valC C 4 0 = (i : Int) ∧ Hold w wr (memA m C * (prA gp m r * Asr.emp))) (fun s _ => n - (intOf s).toNat)
  case atStart => exact ⟨0, C0, by omega, rfl, HK0.out.1, HK0.out.2, h2.pk3 [1, 0]⟩
  case round =>
    clear h2 HK0
    obtain ⟨i, C, hi, rfl, hC, hv, h3⟩ := hrel
    have HK := hid (And.intro hC hv)
    clear hC hv
    by_cases hlt : i < n
    · have e1 : decide ((i : Int) < (n : Int)) = true := decide_eq_true (by omega)
      go_wp2_with fail
      refine (turn_new w _ _ h3).mono ?_
      rintro e v2 ⟨t, rfl, h4⟩
      clear h3
      go_wp2_with fail
      refine (turn_ticket0 w _ _ t 0 false h4).mono ?_
      rintro e w' ⟨rfl, rfl⟩
      go_wp2_with fail
      refine (turn_done w _ _ t false 0 false h4).mono ?_
      rintro e w' ⟨rfl, rfl⟩
      have p0 := h4.drop.drop.blk.some_ (i := 0) rfl
      go_wp2_with fail
      refine (turn_step_take w _ _ t m C 0 h4 HK.out.1).mono ?_
      rintro e v3 ⟨rfl, h5⟩
      rw [HK.out.2, wrapu_small (by omega) (by omega)] at h5
      obtain ⟨C1, hC1⟩ : ∃ C1, C1 = opC C 4 0 ((i : Int) + 1) true := ⟨_, rfl⟩
      rw [← hC1] at h5
      have HK1 : Hid (COk C1 ∧ valC C1 4 0 = ((i + 1 : Nat) : Int)) := hid ⟨by rw [hC1]; exact HK.out.1.opC _ _ _ _, by rw [hC1]; exact (valC_op_same HK.out.1.has4)⟩
      clear h4 hC1 p0
      go_wp2_with fail
      refine (turn_ticket w _ _ t i false h5 (by omega) (by omega)).mono ?_
      rintro e w' ⟨rfl, rfl⟩
      have e3 : ((i : Int) != (i : Int)) = false := by simp
      have e4 : (i != i) = false := by simp
      go_wp2_with fail
      refine (turn_done w _ _ t true i false h5).mono ?_
      rintro e w' ⟨rfl, rfl⟩
      have H6 := hid (h5.pk3 [1, 2])
      clear h5
      go_wp2_with fail
      go_round
      case rel => exact ⟨i + 1, C1, by omega, by go_num, HK1.out.1, HK1.out.2, H6.out⟩
      case measure => simp [intOf]; omega
    · obtain rfl : i = n := by omega
      have e1 : decide ((i : Int) < (i : Int)) = false := by simp
      have p0 := h3.drop.blk.some_ (i := 0) rfl
      go_wp2_with fail
      refine (image_any w _ _ m C h3 HK.out.1).mono ?_
      rintro e v4 ⟨y, rfl, h4⟩
      unfold imgV
      rw [← valC_w4 C, HK.out.2]
      have fd := field_ticket (slV C y 1) (slV C y 2) (.int .u64 (w1 C 3)) (.int .u64 (i : Int)) (.int .u64 (w1 C 5)) (slV C y 6) (slV C y 7) (slV C y 8) v4
      have h5 := h4.rest
      have e3 : ((i : Int) == (i : Int)) = true := by simp
      have e4 : (i == i) = true := by simp
      clear h3 h4 p0
      go_wp2_with fail
      refine (awake10_any w _ _ h5).mono ?_
      rintro e v5 ⟨rfl, h6⟩
      have H6 := hid h6.below
      clear h5 h6 fd
      go_wp2_with fail
      go_ret
      exact ⟨rfl, H6.out⟩
end Go.Proofs.Ytddghhddafeojaa
