/- strongtxlaw14: ReaderFollows. -/
import Derived.Test.YtddghhddafeojaaRr
import Derived.Test.YtddghhddafeojaaRd3
import Derived.Test.YtddghhddafeojaaArg2
namespace Go.Proofs.Ytddghhddafeojaa
open Go.RowKit
set_option linter.unusedVariables false

/-- The machine and the reference's one, alike. -/
structure RF (t b v : Int) (cf : Bool) (t' s' v' : Int) : Prop where
  is : (t = 0 ∧ t' = 0 ∧ cf = false) ∨ (t = 1 ∧ t' = 1 ∧ cf = false ∧ s' = b) ∨ (t = 2 ∧ t' = 2 ∧ cf = false ∧ s' = b ∧ v' = v) ∨ (t = 3 ∧ t' = 3 ∧ cf = false ∧ v' = v) ∨ (t = 3 ∧ t' = 4 ∧ cf = true)
theorem RF.done {t b v : Int} {cf : Bool} {t' s' v' : Int} (h : RF t b v cf t' s' v') : decide (3 ≤ t') = (t == 3) := by
  rcases h.is with ⟨rfl, rfl, _⟩ | ⟨rfl, rfl, _⟩ | ⟨rfl, rfl, _⟩ | ⟨rfl, rfl, _⟩ | ⟨rfl, rfl, _⟩ <;> rfl
theorem RF.conf {t b v : Int} {cf : Bool} {t' s' v' : Int} (h : RF t b v cf t' s' v') : (t' == 4) = cf := by
  rcases h.is with ⟨_, rfl, rfl⟩ | ⟨_, rfl, rfl, _⟩ | ⟨_, rfl, rfl, _⟩ | ⟨_, rfl, rfl, _⟩ | ⟨_, rfl, rfl⟩ <;> rfl
theorem RF.val {t b v : Int} {cf : Bool} {t' s' v' : Int} (h : RF t b v cf t' s' v') : rdVal t v cf = if t' = 3 then v' else 0 := by
  rcases h.is with ⟨rfl, rfl, rfl⟩ | ⟨rfl, rfl, rfl, _⟩ | ⟨rfl, rfl, rfl, _⟩ | ⟨rfl, rfl, rfl, h⟩ | ⟨rfl, rfl, rfl⟩ <;> simp [rdVal, *]
theorem rf_step (a o rv t b v t' s' v' : Int) (cf : Bool) (C : Nat → List Int) (hR : RF t b v cf t' s' v') (hC : COk C) (h1 : hasC C 1 a) (h2 : hasC C 2 o) (hv : 0 ≤ valC C 2 o ∧ valC C 2 o < 18446744073709551616) (hx : a ≤ 9223372036854775807) (ho : o ≤ 9223372036854775807) :
    ∃ (ac : Acc) (t2 b2 v2 : Int) (cf2 : Bool) (t3 s3 v3 : Int), RF t2 b2 v2 cf2 t3 s3 v3 ∧
      (∀ w0 w R g m, Hold w0 w (rdA g a o rv t b v cf * (memA m C * R)) → Calls Try.prog 43 #[.pointer (some ⟨g, 0, none⟩), .pointer (some ⟨m, 0, none⟩)] w (RAccPost w0 (rdA g a o rv t2 b2 v2 cf2 * (memA m C * R)) ac)) ∧
      (∀ w0 w R g m c, Hold w0 w (rrA g a o rv t' s' v' * (refA m c C * R)) → Calls Try.prog 52 #[.pointer (some ⟨g, 0, none⟩), .pointer (some ⟨m, 0, none⟩)] w (RAccPost w0 (rrA g a o rv t3 s3 v3 * (refA m c C * R)) ac)) := by
  have ho2 := (op_yes h2 1 (valC C 2 o)).1
  have ho1 := (op_yes h1 1 (valC C 1 a)).1
  have b1 := h1.1
  have b2 := h2.1
  rcases hR.is with ⟨rfl, rfl, rfl⟩ | ⟨rfl, rfl, rfl, rfl⟩ | ⟨rfl, rfl, rfl, rfl, rfl⟩ | ⟨rfl, rfl, rfl, rfl⟩ | ⟨rfl, rfl, rfl⟩
  · by_cases hb : valC C 2 o % 64 = 0 ∧ valC C 2 o / 64 ≤ rv
    · exact ⟨_, _, _, _, _, _, _, _, ⟨.inr (.inl ⟨rfl, rfl, rfl, rfl⟩)⟩, fun w0 w R g m h => rd_step0_ok w0 w R g m C a o rv b v false _ h hC ⟨by omega, ho⟩ ho2 hv hb,
        fun w0 w R g m c h => rr_step0_ok w0 w R g m c C a o rv s' v' _ h hC ho2 hv hb⟩
    · have hb2 : valC C 2 o % 64 ≠ 0 ∨ rv < valC C 2 o / 64 := by omega
      exact ⟨_, _, _, _, _, _, _, _, ⟨.inr (.inr (.inr (.inr ⟨rfl, rfl, rfl⟩)))⟩, fun w0 w R g m h => rd_step0_bad w0 w R g m C a o rv b v false _ h hC ⟨by omega, ho⟩ ho2 hv hb2,
        fun w0 w R g m c h => rr_step0_bad w0 w R g m c C a o rv s' v' _ h hC ho2 hv hb2⟩
  · exact ⟨_, _, _, _, _, _, _, _, ⟨.inr (.inr (.inl ⟨rfl, rfl, rfl, rfl, rfl⟩))⟩, fun w0 w R g m h => rd_step1 w0 w R g m C a o rv s' v false _ h hC ⟨by omega, hx⟩ ho1,
      fun w0 w R g m c h => rr_step1 w0 w R g m c C a o rv s' v' _ h hC ho1⟩
  · by_cases hs : valC C 2 o = s'
    · refine ⟨_, _, _, _, _, _, _, _, ⟨.inr (.inr (.inr (.inl ⟨rfl, rfl, ?_, rfl⟩)))⟩, fun w0 w R g m h => rd_step2 w0 w R g m C a o rv s' v' false _ h hC ⟨by omega, ho⟩ ho2,
        fun w0 w R g m c h => rr_step2_eq w0 w R g m c C a o rv s' v' _ h hC ho2 hs⟩
      show (valC C 2 o != s') = false
      simp [hs]
    · refine ⟨_, _, _, _, _, _, _, _, ⟨.inr (.inr (.inr (.inr ⟨rfl, rfl, ?_⟩)))⟩, fun w0 w R g m h => rd_step2 w0 w R g m C a o rv s' v' false _ h hC ⟨by omega, ho⟩ ho2,
        fun w0 w R g m c h => rr_step2_ne w0 w R g m c C a o rv s' v' _ h hC ho2 hs⟩
      show (valC C 2 o != s') = true
      simp [hs]
  · exact ⟨_, _, _, _, _, _, _, _, hR, fun w0 w R g m h => rd_step3 w0 w _ g _ a o rv b v' false h, fun w0 w R g m c h => rr_step3 w0 w _ g _ a o rv s' v' h⟩
  · exact ⟨_, _, _, _, _, _, _, _, hR, fun w0 w R g m h => rd_step3 w0 w _ g _ a o rv b v true h, fun w0 w R g m c h => rr_step4 w0 w _ g _ a o rv s' v' h⟩
theorem addr_next (x : Addr) (n : Nat) : (⟨(x.add n).block, (x.add n).off + 1, none⟩ : Addr) = x.add (n + 1) := by
  unfold Addr.add
  rw [if_neg (Nat.succ_ne_zero n)]
  split
  · rename_i h
    subst h
    rfl
  · rfl
/-- The cells. -/
structure RFc (a o : Int) (C : Nat → List Int) : Prop where
  ok : COk C
  h1 : hasC C 1 a
  h2 : hasC C 2 o
  v2 : 0 ≤ valC C 2 o ∧ valC C 2 o < 18446744073709551616
theorem RFc.data {a o v : Int} {C : Nat → List Int} (h : RFc a o C) : RFc a o (opC C 1 a v true) := ⟨h.ok.opC _ _ _ _, hasC_opC h.h1, hasC_opC h.h2, by rw [valC_op_ne (by decide)]; exact h.v2⟩
theorem RFc.orec {a o v : Int} {C : Nat → List Int} (h : RFc a o C) (hv : 0 ≤ v ∧ v ≤ 260) : RFc a o (opC C 2 o v true) := ⟨h.ok.opC _ _ _ _, hasC_opC h.h1, hasC_opC h.h2, by rw [valC_op_same h.h2]; omega⟩
set_option maxRecDepth 8000 in
set_option maxHeartbeats 8000000 in
theorem readerFollows_any (l0 l1 l2 l3 l4 : Int) (a1 a2 a3 : Int) (A4 : Option Addr) (n4 c4 : Nat) (w : World) (hA4 : IsStructs [.bool, .int .i64] w A4 n4 c4) :
    Calls Try.prog 12 #[.agg #[.int .i64 l0, .int .i64 l1, .int .i64 l2, .int .i64 l3, .int .i64 l4], .int .i64 a1, .int .i64 a2, .int .i64 a3, .slice A4 n4 c4] w (fun e w' => e = .returned (.bool true) ∧ Below w.heap.size w w') := by
  have H9 := hid hA4
  clear hA4
  obtain ⟨c, hc⟩ : ∃ c, c = mkCfg l0 l1 l2 l3 l4 := ⟨_, rfl⟩
  have hok : cfgErr c = 0 := by rw [hc]; exact mkCfg_ok _ _ _ _ _
  have hcb : (4 ≤ c.words ∧ c.words ≤ 12) ∧ (1 ≤ c.orecs ∧ c.orecs ≤ 8) := by
    rw [hc]
    have := (mk_bd l0 l1 l2 l3 l4).1
    have := place_nonneg l1 8 (by omega); have := place_lt l1 8 (by omega)
    exact ⟨(mk_bd l0 l1 l2 l3 l4).1, by show 1 ≤ 1 + place l1 8; omega, by show 1 + place l1 8 ≤ 8; omega⟩
  have HF : Hid (∀ w, Calls Try.prog 61 #[.int .i64 l0, .int .i64 l1, .int .i64 l2, .int .i64 l3, .int .i64 l4] w (fun e w' => e = .returned c.val ∧ Chg [] w w')) := hid fun w => by rw [hc]; exact config_any w l0 l1 l2 l3 l4
  have HO := hid (new_ok4 hok)
  have HC := hid hok
  have h0 := hid ((Hold.start w).alloc (.cells #[.int .i64 l0, .int .i64 l1, .int .i64 l2, .int .i64 l3, .int .i64 l4] 57))
  clear hok hc
  go_enter Try.func12, Try.ntmps12
  go_wp2_with fail
  refine (lab_small w _ _ c l0 l1 l2 l3 l4 HF.out HC.out h0.out).mono ?_
  rintro e v1 ⟨m, r, rfl, h1⟩
  obtain ⟨C0, hC0⟩ : ∃ C0, C0 = newC c 4 (initL c.words.toNat) := ⟨_, rfl⟩
  have HG : Hid (∀ k, valC C0 2 k = 0) := hid fun k => by
    rw [hC0]
    unfold valC
    rw [show getC (newC c 4 (initL c.words.toNat)) 2 = zerosN c.orecs.toNat from getC_at (C := newC c 4 (initL c.words.toNat)) (k := 2) (by decide) (by decide)]
    simp only [zerosN, List.getD, List.getElem?_replicate]
    split <;> rfl
  have hL1 : 0 < (C0 1).length := by
    rw [hC0]
    show 0 < (initL c.words.toNat ++ zerosN (nbl c)).length
    rw [List.length_append, initL_len]; omega
  have hL2 : 0 < (C0 2).length := by
    rw [hC0]
    show 0 < (zerosN c.orecs.toNat).length
    simp [zerosN]; omega
  have hk0 : COk C0 := by rw [hC0]; exact HO.out
  have hg1 : ∀ k : Int, 0 ≤ k → k < c.words → hasC C0 1 k := fun k k0 k1 => by
    obtain ⟨n, rfl⟩ : ∃ n : Nat, k = n := ⟨k.toNat, by omega⟩
    rw [hC0]
    refine has_new (j := 1) (k := n) (by decide) (by decide) ?_
    show n < (initL c.words.toNat ++ zerosN (nbl c)).length
    rw [List.length_append, initL_len]; omega
  have hg2 : ∀ k : Int, 0 ≤ k → k < c.orecs → hasC C0 2 k := fun k k0 k1 => by
    obtain ⟨n, rfl⟩ : ∃ n : Nat, k = n := ⟨k.toNat, by omega⟩
    rw [hC0]
    refine has_new (j := 2) (k := n) (by decide) (by decide) ?_
    show n < (zerosN c.orecs.toNat).length
    simp [zerosN]; omega
  rw [← hC0] at h1
  have h2 := h1.newBlk (t := 27) (cs := #[.pointer (some ⟨m, 0, none⟩), .pointer (some ⟨r, 0, none⟩)])
  have H2 := hid h2
  have HK0 := hid (And.intro hk0 (And.intro hg1 hg2))
  clear h0 h1 h2 hC0 hk0 hg1 hg2 HO
  go_upto_region 4 with fail
  have h2 := H2.out
  generalize hW : World.alloc _ _ = W2 at h2 ⊢
  generalize v1.heap.size = gp at h2 ⊢
  clear hW H2
  have le1 := HK0.out.1.len 1
  have le2 := HK0.out.1.len 2
  have hh1 : ∀ k : Int, 0 ≤ k → k < ((C0 1).length : Int) → hasC C0 1 k := fun k k0 k1 => ⟨k0, by rw [show getC C0 1 = C0 1 from getC_at (k := 1) (by decide) (by decide)]; exact k1⟩
  have hh2 : ∀ k : Int, 0 ≤ k → k < ((C0 2).length : Int) → hasC C0 2 k := fun k k0 k1 => ⟨k0, by rw [show getC C0 2 = C0 2 from getC_at (k := 2) (by decide) (by decide)]; exact k1⟩
  obtain ⟨x, h3⟩ := (h2.pk3 [2, 0, 1]).refOpen
  have d13 := h3.blk.some_ (i := 13) (u := .slice (x.A 1) (C0 1).length (x.c 1)) rfl
  have d14 := h3.blk.some_ (i := 14) (u := .slice (x.A 2) (C0 2).length (x.c 2)) rfl
  have p1 := h2.blk.some_ (i := 1) rfl
  obtain ⟨L1, hl1⟩ : ∃ L1, L1 = (C0 1).length := ⟨_, rfl⟩
  obtain ⟨L2, hl2⟩ : ∃ L2, L2 = (C0 2).length := ⟨_, rfl⟩
  rw [← hl1] at d13 hh1 le1 hL1
  rw [← hl2] at d14 hh2 le2 hL2
  obtain ⟨a, ha⟩ : ∃ a, a = place a1 L1 := ⟨_, rfl⟩
  have a0 : 0 ≤ a := by rw [ha]; exact place_nonneg a1 _ (by omega)
  have a1' : a < L1 := by rw [ha]; exact place_lt a1 _ (by omega)
  obtain ⟨o, ho⟩ : ∃ o, o = place a2 L2 := ⟨_, rfl⟩
  have o0 : 0 ≤ o := by rw [ho]; exact place_nonneg a2 _ (by omega)
  have o1 : o < L2 := by rw [ho]; exact place_lt a2 _ (by omega)
  obtain ⟨rv, hrv⟩ : ∃ rv, rv = place a3 5 := ⟨_, rfl⟩
  have rv0 : 0 ≤ rv ∧ rv < 5 := by rw [hrv]; exact ⟨place_nonneg _ 5 (by omega), place_lt _ 5 (by omega)⟩
  have HP := hid (And.intro ha (And.intro ho hrv))
  have HR1 : Hid (RFc a o C0) := hid ⟨HK0.out.1, hh1 a a0 a1', hh2 o o0 o1, by rw [HG.out]; omega⟩
  have HLL := hid (And.intro hl1 hl2)
  have ab : 0 ≤ a ∧ a ≤ 1000 := by omega
  have ob : 0 ≤ o ∧ o ≤ 1000 := by omega
  clear ha ho hrv hh1 hh2 h3 HG HK0 hl1 hl2 a0 a1' o0 o1
  generalize x.A 1 = X1 at d13
  generalize x.c 1 = Y1 at d13
  generalize x.A 2 = X2 at d14
  generalize x.c 2 = Y2 at d14
  replace d13 : W2.drew.cell? _ = _ := d13
  replace d14 : W2.drew.cell? _ = _ := d14
  replace p1 : W2.drew.cell? _ = _ := p1
  have h3 := h2.drew
  clear h2
  refine wp_region_brk [] (by kernel_rfl) ?_
  refine wpAnyB_now (fun w' => w'.cell? ⟨gp, 1, none⟩ = some (.pointer (some ⟨r, 0, none⟩)) ∧ w'.cell? ⟨r, 13, none⟩ = some (.slice X1 L1 Y1) ∧ w'.cell? ⟨r, 14, none⟩ = some (.slice X2 L2 Y2)) (fun _ _ => trivial) _ _ _ _ ?_
  refine' wpAnyB_bulk [true, true, true, true, true, true, true, true, false, true, true, true, true, true, true, true, true, false, true] 138 (listed' := #[true, true, true, true, true, true, true, true, false, true, true, true, true, true, true, true, true, false, true, false, false, false, false]) rfl (by kernel_rfl) (by kernel_rfl) (by kernel_rfl) (by kernel_rfl) (by kernel_rfl) (by kernel_rfl) (by decide) (fun _ _ _ _ h => h) rfl ⟨p1, d13, d14⟩ (fun wq hq => ?_) ?_; rotate_left 1
  · simp only [maskL]
    obtain ⟨q1, q13, q14⟩ := hq
    repeat (go_big_quiet_step (fail))
    exact wpQuiet_nil rfl
  refine wpAnyB_bar [false, false, false, false, false, false, false, false, true] (fuel := 5) (by rfl) (by rfl) (by kernel_rfl) (fun QB hQB hQX => ?_)
  simp only [maskL]
  go_wp2_with fail
  refine (place_any _ _ _ (by omega) (by omega)).mono ?_
  rintro e w' ⟨rfl, rfl⟩
  rw [← HP.out.1]
  go_wp2_with fail
  refine hQB.out _ _ ⟨p1, d13, d14⟩ ?_
  clear hQB hQX QB
  refine wpAnyB_bar [false, false, false, false, false, false, false, false, false, false, false, false, false, false, false, false, false, true] (fuel := 4) (by rfl) (by rfl) (by kernel_rfl) (fun QB hQB hQX => ?_)
  simp only [maskL]
  go_wp2_with fail
  refine (place_any _ _ _ (by omega) (by omega)).mono ?_
  rintro e w' ⟨rfl, rfl⟩
  rw [← HP.out.2.1]
  go_wp2_with fail
  refine hQB.out _ _ ⟨p1, d13, d14⟩ ?_
  clear hQB hQX QB
  refine wpAnyB_bar [false, false, false, false, false, false, false, false, false, false, false, false, false, false, false, false, false, false, false, true] (fuel := 3) (by rfl) (by rfl) (by kernel_rfl) (fun QB hQB hQX => ?_)
  simp only [maskL]
  go_wp2_with fail
  refine (place_any _ _ _ (by omega) (by omega)).mono ?_
  rintro e w' ⟨rfl, rfl⟩
  rw [← HP.out.2.2]
  go_wp2_with fail
  refine hQB.out _ _ ⟨p1, d13, d14⟩ ?_
  clear hQB hQX QB
  refine' wpAnyB_bulk [false, false, false, false, false, false, false, false, false, false, false, false, false, false, false, false, false, false, false, false, true, true, true] 138 (listed' := #[true, true, true, true, true, true, true, true, true, true, true, true, true, true, true, true, true, true, true, true, true, true, true]) rfl (by kernel_rfl) (by kernel_rfl) (by kernel_rfl) (by kernel_rfl) (by kernel_rfl) (by kernel_rfl) (by decide) (fun _ _ _ _ h => h) rfl ⟨p1, d13, d14⟩ (fun wq hq => ?_) ?_; rotate_left 1
  · simp only [maskL]
    repeat (go_big_quiet_step (fail))
    exact wpQuiet_nil rfl
  refine wpAnyB_done (by kernel_rfl) ?_ _
  clear d13 d14 p1 HP HLL hL1 hL2 le1 le2
  go_wp2_with fail
  refine (rd_new w _ _ a o rv h3).mono ?_
  rintro e w4 ⟨g1, rfl, h4⟩
  clear h3
  go_wp2_with fail
  refine (rr_new w _ _ a o rv h4).mono ?_
  rintro e w5 ⟨g2, rfl, h5⟩
  have h6 : Hold w w5 (prA gp m r * (rdA g1 a o rv 0 0 0 false * (rrA g2 a o rv 0 0 0 * (memA m C0 * (refA r c C0 * Asr.emp))))) := h5.pk5 [2, 1, 0, 3, 4]
  clear h4 h5
  go_wp2_with fail
  go_loopw [18] (fun s wr => ∃ (i : Nat) (C : Nat → List Int) (t b v t' s' v' : Int) (cf : Bool), i ≤ 5 ∧ s = .int .i64 i ∧ RFc a o C ∧ RF t b v cf t' s' v' ∧ Hold w wr (prA gp m r * (rdA g1 a o rv t b v cf * (rrA g2 a o rv t' s' v' * (memA m C * (refA r c C * Asr.emp)))))) (fun s _ => 5 - (intOf s).toNat)
  case atStart => exact ⟨0, C0, 0, 0, 0, 0, 0, 0, false, by omega, rfl, HR1.out, ⟨.inl ⟨rfl, rfl, rfl⟩⟩, h6⟩
  case round =>
    clear h6 HR1
    obtain ⟨i, C, t, b, v, t', s', v', cf, hi, rfl, hc, hr, h7⟩ := hrel
    have HC1 := hid hc
    have HR1 := hid hr
    clear hc hr
    by_cases hlt : i < 5
    · have e1 : decide ((i : Int) < 5) = true := decide_eq_true (by omega)
      have i0 : (0 : Int) ≤ (i : Int) := by omega
      go_upto_if 67 with fail
      go_cut [18] (fun s wx => s = .int .i64 i ∧ ∃ (C2 : Nat → List Int), RFc a o C2 ∧ Hold w wx (prA gp m r * (rdA g1 a o rv t b v cf * (rrA g2 a o rv t' s' v' * (memA m C2 * (refA r c C2 * Asr.emp))))))
      case first =>
        by_cases h4 : i < n4
        · have e2 : decide ((i : Int) < (n4 : Int)) = true := decide_eq_true (by omega)
          have i1 : (i : Int) < (n4 : Int) := by omega
          obtain ⟨ad, hA4, hcell⟩ := H9.out.at_ h7.below h4
          obtain ⟨bv, hb, bb, hbe⟩ := hcell 0 .bool rfl
          obtain ⟨iv, hiv, z, hze, _⟩ := hcell 1 (.int .i64) rfl
          rw [hbe] at hb
          rw [hze] at hiv
          replace hb : wr.drew.cell? (ad.add (i * 2)) = some (.bool bb) := by simpa using hb
          replace hiv : wr.drew.cell? ⟨(ad.add (i * 2)).block, (ad.add (i * 2)).off + 1, none⟩ = some (.int .i64 z) := by rw [addr_next]; exact hiv
          clear hcell hbe hze
          subst hA4
          replace h7 := h7.drew
          go_upto_region 12 with fail
          refine wp_region_brk [] (by kernel_rfl) ?_
          refine wpAnyB_now (fun w' => w'.cell? ⟨(ad.add (i * 2)).block, (ad.add (i * 2)).off + 1, none⟩ = some (.int .i64 z)) (fun _ _ => trivial) _ _ _ _ ?_
          refine' wpAnyB_bulk [true, true, true, true, true, true, true, true, true, true] 138 (listed' := #[true, true, true, true, true, true, true, true, true, true]) rfl (by kernel_rfl) (by kernel_rfl) (by kernel_rfl) (by kernel_rfl) (by kernel_rfl) (by kernel_rfl) (by decide) (fun _ _ _ _ h => h) rfl hiv (fun wq hq => ?_) ?_; rotate_left 1
          · simp only [maskL]
            repeat (go_big_quiet_step (fail))
            exact wpQuiet_nil rfl
          refine wpAnyB_done (by kernel_rfl) ?_ _
          have p0 := h7.blk.some_ (i := 0) rfl
          have p1 := h7.blk.some_ (i := 1) rfl
          cases bb
          · go_wp2_with fail
            refine (pair_set w _ _ m r c C 1 a _ (h7.pk5 [3, 4, 0, 1, 2]) HC1.out.ok HC1.out.h1 (by omega)).mono ?_
            rintro e w8 ⟨rfl, h8⟩
            generalize hC2 : opC C 1 a _ true = C2 at h8
            have HC2 : Hid (RFc a o C2) := hid (by rw [← hC2]; exact HC1.out.data)
            clear hC2 h7 p0 p1 hb hiv
            go_wp2_with fail
            go_meet
            exact ⟨rfl, C2, HC2.out, h8.pk5 [2, 3, 4, 0, 1]⟩
          · go_wp2_with fail
            refine (word14_any _ _).mono ?_
            rintro e w' ⟨rfl, rfl⟩
            obtain ⟨wd, hwd⟩ : ∃ wd, wd = word14 z := ⟨_, rfl⟩
            have wd0 : 0 ≤ wd ∧ wd ≤ 260 := by rw [hwd]; exact word14_lt _
            rw [← hwd]
            clear hwd
            go_wp2_with fail
            refine (pair_set w _ _ m r c C 2 o wd (h7.pk5 [3, 4, 0, 1, 2]) HC1.out.ok HC1.out.h2 (by omega)).mono ?_
            rintro e w8 ⟨rfl, h8⟩
            obtain ⟨C2, hC2⟩ : ∃ C2, C2 = opC C 2 o wd true := ⟨_, rfl⟩
            rw [← hC2] at h8
            have HC2 : Hid (RFc a o C2) := hid (by rw [hC2]; exact HC1.out.orec wd0)
            clear hC2 h7 p0 p1 hb hiv
            go_wp2_with fail
            go_meet
            exact ⟨rfl, C2, HC2.out, h8.pk5 [2, 3, 4, 0, 1]⟩
        · have e2 : decide ((i : Int) < (n4 : Int)) = false := decide_eq_false (by omega)
          go_wp2_with fail
          go_meet
          exact ⟨rfl, C, HC1.out, h7⟩
      case rest =>
      clear h7 HC1
      obtain ⟨rfl, C2, hc, h7⟩ := hcut
      obtain ⟨ac, t2, b2, v2, cf2, t3, s3, v3, hR2, k1, k2⟩ := rf_step a o rv t b v t' s' v' cf C2 HR1.out hc.ok hc.h1 hc.h2 hc.v2 (by omega) (by omega)
      have HC2 := hid hc
      have HR2 := hid hR2
      have K1 := hid k1
      have K2 := hid k2
      clear hc hR2 k1 k2 HR1 C
      have ef : ((t2 == 3) != (t2 == 3)) = false := by simp
      have eg : (cf2 != cf2) = false := by simp
      go_upto_region 17 with fail
      replace h7 := h7.drew
      refine wp_region_brk [] (by kernel_rfl) ?_
      refine wpAnyB_now (fun w' => ∃ Z, Hold w w' (prA gp m r * Z)) (fun _ _ => trivial) _ _ _ _ ?_
      refine' wpAnyB_bulk [true, true, true, false, true, true, true] 138 (listed' := #[true, true, true, false, true, true, true, false, false, false, false, false, false, false, false, false, false, false, false, false, false, false, false, false, false, false, false, false, false, false, false]) rfl (by kernel_rfl) (by kernel_rfl) (by kernel_rfl) (by kernel_rfl) (by kernel_rfl) (by kernel_rfl) (by decide) (fun _ _ _ _ h => h) rfl ⟨_, h7⟩ (fun wq hq => ?_) ?_; rotate_left 1
      · simp only [maskL]
        obtain ⟨Z, hq⟩ := hq
        have q0 := hq.blk.some_ (i := 0) rfl
        have q1 := hq.blk.some_ (i := 1) rfl
        repeat (go_big_quiet_step (fail))
        exact wpQuiet_nil rfl
      refine wpAnyB_bar [false, false, false, true] (fuel := 24) (by rfl) (by rfl) (by kernel_rfl) (fun QB hQB hQX => ?_)
      simp only [maskL]
      go_wp2_with fail
      refine (K1.out w _ _ g1 m (h7.pk4 [1, 3, 0, 2])).mono ?_
      rintro e w8 ⟨rfl, h8⟩
      replace h8 : Hold w w8 (prA gp m r * (rdA g1 a o rv t2 b2 v2 cf2 * (rrA g2 a o rv t' s' v' * (memA m C2 * (refA r c C2 * Asr.emp))))) := h8.pk4 [2, 0, 3, 1]
      clear h7
      go_wp2_with fail
      refine hQB.out _ _ ⟨_, h8⟩ ?_
      clear hQB hQX QB
      refine wpAnyB_bar [false, false, false, false, false, false, false, true] (fuel := 23) (by rfl) (by rfl) (by kernel_rfl) (fun QB hQB hQX => ?_)
      simp only [maskL]
      go_wp2_with fail
      refine (K2.out w _ _ g2 r c (h8.pk5 [2, 4, 0, 1, 3])).mono ?_
      rintro e w9 ⟨rfl, h9⟩
      replace h9 : Hold w w9 (prA gp m r * (rdA g1 a o rv t2 b2 v2 cf2 * (rrA g2 a o rv t3 s3 v3 * (memA m C2 * (refA r c C2 * Asr.emp))))) := h9.pk5 [2, 3, 0, 4, 1]
      clear h8
      go_wp2_with fail
      refine hQB.out _ _ ⟨_, h9⟩ ?_
      clear hQB hQX QB
      refine wpAnyB_now (fun w' => ∃ Z, Hold w w' (prA gp m r * (rrA g2 a o rv t3 s3 v3 * Z))) (fun _ ⟨Z, h⟩ => ⟨_, h⟩) _ _ _ _ ?_
      refine' wpAnyB_bulk [false, false, false, false, false, false, false, false, true, true, true, false, true] 138 (listed' := #[true, true, true, true, true, true, true, true, true, true, true, false, true, false, false, false, false, false, false, false, false, false, false, false, false, false, false, false, false, false, false]) rfl (by kernel_rfl) (by kernel_rfl) (by kernel_rfl) (by kernel_rfl) (by kernel_rfl) (by kernel_rfl) (by decide) (fun _ _ _ _ h => h) rfl ⟨_, h9.pk3 [0, 2, 1]⟩ (fun wq hq => ?_) ?_; rotate_left 1
      · simp only [maskL]
        repeat (go_big_quiet_step (fail))
        exact wpQuiet_nil rfl
      refine wpAnyB_bar [false, false, false, false, false, false, false, false, false, false, false, true] (fuel := 18) (by rfl) (by rfl) (by kernel_rfl) (fun QB hQB hQX => ?_)
      simp only [maskL]
      go_wp2_with fail
      refine (rd_done w _ _ g1 a o rv t2 b2 v2 cf2 (h9.pk2 [1, 0])).mono ?_
      rintro e w' ⟨rfl, rfl⟩
      go_wp2_with fail
      refine hQB.out _ _ ⟨_, h9.pk3 [0, 2, 1]⟩ ?_
      clear hQB hQX QB
      refine wpAnyB_bar [false, false, false, false, false, false, false, false, false, false, false, false, false, true] (fuel := 17) (by rfl) (by rfl) (by kernel_rfl) (fun QB hQB hQX => ?_)
      simp only [maskL]
      go_wp2_with fail
      refine (rr_done w _ _ g2 a o rv t3 s3 v3 (h9.pk3 [2, 0, 1])).mono ?_
      rintro e w' ⟨rfl, rfl⟩
      rw [HR2.out.done]
      go_wp2_with fail
      refine hQB.out _ _ ⟨_, h9.pk3 [0, 2, 1]⟩ ?_
      clear hQB hQX QB
      have ec := HR2.out.conf
      refine' wpAnyB_bulk [false, false, false, false, false, false, false, false, false, false, false, false, false, false, true, true, true, true, false, true, true, true, true, true] 138 (listed' := #[true, true, true, true, true, true, true, true, true, true, true, true, true, true, true, true, true, true, false, true, true, true, true, true, false, false, false, false, false, false, false]) rfl (by kernel_rfl) (by kernel_rfl) (by kernel_rfl) (by kernel_rfl) (by kernel_rfl) (by kernel_rfl) (by decide) (fun _ _ _ _ h => h) rfl ⟨_, h9.pk3 [0, 2, 1]⟩ (fun wq hq => ?_) ?_; rotate_left 1
      · simp only [maskL]
        obtain ⟨Z, hq⟩ := hq
        have q3 := hq.drop.blk.some_ (i := 3) rfl
        repeat (go_big_quiet_step (fail))
        exact wpQuiet_nil rfl
      refine wpAnyB_bar [false, false, false, false, false, false, false, false, false, false, false, false, false, false, false, false, false, false, true] (fuel := 7) (by rfl) (by rfl) (by kernel_rfl) (fun QB hQB hQX => ?_)
      simp only [maskL]
      go_wp2_with fail
      refine (rd_conflict w _ _ g1 a o rv t2 b2 v2 cf2 (h9.pk2 [1, 0])).mono ?_
      rintro e w' ⟨rfl, rfl⟩
      go_wp2_with fail
      refine hQB.out _ _ ⟨_, h9.pk3 [0, 2, 1]⟩ ?_
      clear hQB hQX QB
      refine' wpAnyB_bulk [false, false, false, false, false, false, false, false, false, false, false, false, false, false, false, false, false, false, false, false, false, false, false, false, true, true, true, true] 138 (listed' := #[true, true, true, true, true, true, true, true, true, true, true, true, true, true, true, true, true, true, true, true, true, true, true, true, true, true, true, true, false, false, false]) rfl (by kernel_rfl) (by kernel_rfl) (by kernel_rfl) (by kernel_rfl) (by kernel_rfl) (by kernel_rfl) (by decide) (fun _ _ _ _ h => h) rfl ⟨_, h9.pk3 [0, 2, 1]⟩ (fun wq hq => ?_) ?_; rotate_left 1
      · simp only [maskL]
        obtain ⟨Z, hq⟩ := hq
        have q0 := hq.blk.some_ (i := 0) rfl
        have q1 := hq.blk.some_ (i := 1) rfl
        repeat (go_big_quiet_step (fail))
        exact wpQuiet_nil rfl
      refine wpAnyB_bar [false, false, false, false, false, false, false, false, false, false, false, false, false, false, false, false, false, false, false, false, false, false, false, false, false, false, false, false, true] (fuel := 2) (by rfl) (by rfl) (by kernel_rfl) (fun QB hQB hQX => ?_)
      simp only [maskL]
      go_wp2_with fail
      refine (pair_same w _ _ m r c C2 (h9.pk5 [3, 4, 0, 1, 2]) HC2.out.ok).mono ?_
      rintro e w10 ⟨rfl, h10⟩
      replace h10 : Hold w w10 (prA gp m r * (rdA g1 a o rv t2 b2 v2 cf2 * (rrA g2 a o rv t3 s3 v3 * (memA m C2 * (refA r c C2 * Asr.emp))))) := h10.pk5 [2, 3, 4, 0, 1]
      clear h9
      go_wp2_with fail
      refine hQB.out _ _ ⟨_, h10.pk3 [0, 2, 1]⟩ ?_
      clear hQB hQX QB
      refine' wpAnyB_bulk [false, false, false, false, false, false, false, false, false, false, false, false, false, false, false, false, false, false, false, false, false, false, false, false, false, false, false, false, false, true, true] 138 (listed' := #[true, true, true, true, true, true, true, true, true, true, true, true, true, true, true, true, true, true, true, true, true, true, true, true, true, true, true, true, true, true, true]) rfl (by kernel_rfl) (by kernel_rfl) (by kernel_rfl) (by kernel_rfl) (by kernel_rfl) (by kernel_rfl) (by decide) (fun _ _ _ _ h => h) rfl ⟨_, h10.pk3 [0, 2, 1]⟩ (fun wq hq => ?_) ?_; rotate_left 1
      · simp only [maskL]
        repeat (go_big_quiet_step (fail))
        exact wpQuiet_nil rfl
      refine wpAnyB_done (by kernel_rfl) ?_ _
      clear ec ef eg K1 K2
      have q3 := h10.drop.drop.blk.some_ (i := 3) rfl
      have q5 := h10.drop.drop.blk.some_ (i := 5) rfl
      by_cases ht : t3 = 3
      · subst ht
        go_wp2_with fail
        refine (rd_value w _ _ g1 a o rv t2 b2 v2 cf2 (h10.pk2 [1, 0])).mono ?_
        rintro e w' ⟨rfl, rfl⟩
        rw [show rdVal t2 v2 cf2 = v3 from HR2.out.val]
        have e3 : (v3 != v3) = false := bne_self_eq_false v3
        clear q3 q5
        go_wp2_with fail
        go_round
        case rel => exact ⟨i + 1, C2, t2, b2, v2, 3, s3, v3, cf2, by omega, by go_num, HC2.out, HR2.out, h10⟩
        case measure => simp [intOf]; omega
      · have e4 : (t3 == 3) = false := by simp [ht]
        go_wp2_with fail
        refine (rd_value w _ _ g1 a o rv t2 b2 v2 cf2 (h10.pk2 [1, 0])).mono ?_
        rintro e w' ⟨rfl, rfl⟩
        rw [show rdVal t2 v2 cf2 = 0 from HR2.out.val.trans (if_neg ht)]
        clear q3 q5 e4
        go_wp2_with fail
        go_round
        case rel => exact ⟨i + 1, C2, t2, b2, v2, t3, s3, v3, cf2, by omega, by go_num, HC2.out, HR2.out, h10⟩
        case measure => simp [intOf]; omega
    · obtain rfl : i = 5 := by omega
      have e1 : decide (((5 : Nat) : Int) < 5) = false := rfl
      go_wp2_with fail
      refine (awake14_any w _ _ h7).mono ?_
      rintro e v3 ⟨rfl, h11⟩
      have H11 := hid h11.below
      clear h7 h11
      go_wp2_with fail
      go_ret
      exact ⟨rfl, H11.out⟩
end Go.Proofs.Ytddghhddafeojaa
