/- ValidatorCalm. -/
import Derived.Test.YtfmmphabfdpegaaVal3
namespace Go.Proofs.Ytfmmphabfdpegaa
open Go.RowKit
set_option linter.unusedVariables false

/-- The first orec of the list, from k on, that is newer. -/
def badF (C : Nat → List Int) (xs : List Int) (v : Int) (k : Nat) : Nat := k + (xs.drop k).findIdx fun z => decide (v < valC C 2 z / 64)
theorem badF_end (C : Nat → List Int) (xs : List Int) (v : Int) : badF C xs v xs.length = xs.length := by simp [badF]
theorem badF_step (C : Nat → List Int) (xs : List Int) (v : Int) (k : Nat) (hk : k < xs.length) : badF C xs v k = if v < valC C 2 (xs.getD k 0) / 64 then k else badF C xs v (k + 1) := by
  unfold badF
  rw [getD_at hk, List.drop_eq_getElem_cons hk, List.findIdx_cons]
  by_cases h : v < valC C 2 xs[k] / 64
  · simp [h]
  · simp [h]; omega
theorem badF_le (C : Nat → List Int) (xs : List Int) (v : Int) : badF C xs v 0 ≤ xs.length := by
  have := List.findIdx_le_length (xs := xs) (p := fun z => decide (v < valC C 2 z / 64))
  simpa [badF] using this
theorem badF_at {C : Nat → List Int} {xs : List Int} {v : Int} (h : badF C xs v 0 < xs.length) : v < valC C 2 (xs.getD (badF C xs v 0) 0) / 64 := by
  have h2 : badF C xs v 0 = xs.findIdx fun z => decide (v < valC C 2 z / 64) := by simp [badF]
  rw [h2] at h ⊢
  rw [getD_at h]
  simpa using List.findIdx_getElem (w := h)
theorem badF_first {C : Nat → List Int} {xs : List Int} {v : Int} {j : Nat} (hj : j < xs.length) (h : v < valC C 2 (xs.getD j 0) / 64) : badF C xs v 0 ≤ j := by
  have h2 : badF C xs v 0 = xs.findIdx fun z => decide (v < valC C 2 z / 64) := by simp [badF]
  rw [h2]
  rcases Nat.lt_or_ge j (xs.findIdx fun z => decide (v < valC C 2 z / 64)) with hlt | hge
  · have := List.not_of_lt_findIdx hlt
    rw [getD_at hj] at h
    simp at this
    omega
  · exact hge
def VC (w : World) (gp a m r c6 : Nat) (A6 : Option Addr) (N : Nat) (xs : List Int) (v : Int) (C : Nat → List Int) (B j : Nat) (wx : World) : Prop :=
  ∃ f : Bool, j ≤ N ∧ (f = false → j ≤ B) ∧ (f = true → j = B + 1 ∧ B < N) ∧ Hold w wx (prA gp m r * (slA A6 N c6 (xs.map (Value.int .i64)) * (chkA a (xs.drop j) v f * (memA m C * (refA r cf16 C * Asr.emp)))))
set_option maxRecDepth 8000 in
set_option maxHeartbeats 8000000 in
theorem validatorCalm_any (w : World) (A0 A2 : Option Addr) (n0 n2 c0 c2 b0 b2 : Nat) (rv : Int) (x0 x2 : List Int)
    (hA0 : Reads w b0 A0 n0 (x0.map (Value.int .i64))) (hA2 : Reads w b2 A2 n2 (x2.map (Value.int .i64)))
    (l0 : n0 ≤ 9223372036854775807) (l2 : n2 ≤ 9223372036854775807) :
    Calls Try.prog 12 #[.slice A0 n0 c0, .int .i64 rv, .slice A2 n2 c2] w (fun e w' => e = .returned (.bool true) ∧ Below w.heap.size w w') := by
  have H0 := hid hA0
  have H2 := hid hA2
  clear hA0 hA2
  go_enter Try.func12, Try.ntmps12
  go_wp2_with fail
  refine (config16 w _ _ (Hold.start w)).mono ?_
  rintro e w1 ⟨rfl, h1⟩
  go_wp2_with fail
  refine (lab_start w _ _ cf16 2 cf16_ok (by decide) h1).mono ?_
  rintro e w2 ⟨m, r, rfl, h2⟩
  have h3 : Hold w _ (prA w2.heap.size m r * (memA m vs0 * (refA r cf16 vs0 * Asr.emp))) := h2.newBlk (t := 66) (cs := #[.pointer (some ⟨m, 0, none⟩), .pointer (some ⟨r, 0, none⟩)])
  have H4 := hid h3
  clear h1 h2 h3
  go_wp2_with fail
  have h4 := H4.out
  generalize hW : World.alloc _ _ = W at h4 ⊢
  generalize w2.heap.size = gp at h4 ⊢
  clear hW H4
  go_loopw [9] (fun i wr => ∃ (o : Nat) (C : Nat → List Int), o ≤ 6 ∧ i = .int .i64 o ∧ COk C ∧ VR C ∧ Hold w wr (prA gp m r * (memA m C * (refA r cf16 C * Asr.emp)))) (fun i _ => 6 - (intOf i).toNat)
  case atStart => exact ⟨0, vs0, by omega, rfl, vs0_ok, vs0_vr, h4⟩
  case round =>
    clear h4
    obtain ⟨o, C, ho, rfl, hC, hV, h5⟩ := hrel
    have HK := hid (And.intro hC hV)
    clear hC hV
    by_cases hlt : o < 6
    · have e1 : decide ((o : Int) < 6) = true := decide_eq_true (by omega)
      go_wp2_with fail
      obtain ⟨y, hy⟩ : ∃ y, y = x2.getD o 0 := ⟨_, rfl⟩
      have HY := hid hy
      clear hy
      obtain ⟨wd, hwd⟩ : ∃ wd, wd = word16 y := ⟨_, rfl⟩
      have hwl := word16_lt y
      rw [← hwd] at hwl
      have HW := hid hwd
      clear hwd
      replace h5 := h5.drew
      refine wp_region_brk [] (by kernel_rfl) ?_
      refine wpAnyB_now (fun w' => ∃ Z, Hold w w' (prA gp m r * Z)) (fun _ _ => trivial) _ _ _ _ ?_
      refine' wpAnyB_bulk [true, true, true, true] 129 (listed' := #[true, true, true, true, false, false, false, false]) rfl (by kernel_rfl) (by kernel_rfl) (by kernel_rfl) (by kernel_rfl) (by kernel_rfl) (by kernel_rfl) (by decide) (fun _ _ _ _ h => h) rfl ⟨_, h5⟩ (fun wq hq => ?_) ?_; rotate_left 1
      · simp only [maskL]
        obtain ⟨Z, hq⟩ := hq
        have q0 := hq.blk.some_ (i := 0) rfl
        have q1 := hq.blk.some_ (i := 1) rfl
        repeat (go_big_quiet_step (fail))
        exact wpQuiet_nil rfl
      refine wpAnyB_bar [false, false, false, false, true] (fuel := 3) (by rfl) (by rfl) (by kernel_rfl) (fun QB hQB hQX => ?_)
      simp only [maskL]
      go_wp2_with fail
      refine (at_nat _ A2 n2 c2 _ x2 o (H2.out.below h5.below) l2).mono ?_
      rintro e w' ⟨rfl, rfl⟩
      rw [← HY.out]
      go_wp2_with fail
      refine hQB.out _ _ ⟨_, h5⟩ ?_
      clear hQB hQX QB
      refine wpAnyB_bar [false, false, false, false, false, true] (fuel := 2) (by rfl) (by rfl) (by kernel_rfl) (fun QB hQB hQX => ?_)
      simp only [maskL]
      go_wp2_with fail
      refine (word16_any _ _).mono ?_
      rintro e w' ⟨rfl, rfl⟩
      rw [← HW.out]
      go_wp2_with fail
      refine hQB.out _ _ ⟨_, h5⟩ ?_
      clear hQB hQX QB
      refine wpAnyB_bar [false, false, false, false, false, false, true] (fuel := 1) (by rfl) (by rfl) (by kernel_rfl) (fun QB hQB hQX => ?_)
      simp only [maskL]
      go_wp2_with fail
      refine (pair_set w _ _ m r cf16 C 2 o wd (h5.pk3 [1, 2, 0]) HK.out.1 (HK.out.2.has (by omega) (by omega)) (by omega)).mono ?_
      rintro e w6 ⟨rfl, h6⟩
      replace h6 : Hold w w6 (prA gp m r * (memA m (opC C 2 o wd true) * (refA r cf16 (opC C 2 o wd true) * Asr.emp))) := h6.pk3 [2, 0, 1]
      clear h5
      go_wp2_with fail
      refine hQB.out _ _ ⟨_, h6⟩ ?_
      clear hQB hQX QB
      refine' wpAnyB_bulk [false, false, false, false, false, false, false, true] 129 (listed' := #[true, true, true, true, true, true, true, true]) rfl (by kernel_rfl) (by kernel_rfl) (by kernel_rfl) (by kernel_rfl) (by kernel_rfl) (by kernel_rfl) (by decide) (fun _ _ _ _ h => h) rfl ⟨_, h6⟩ (fun wq hq => ?_) ?_; rotate_left 1
      · simp only [maskL]
        repeat (go_big_quiet_step (fail))
        exact wpQuiet_nil rfl
      refine wpAnyB_done (by kernel_rfl) ?_ _
      have H6 := hid h6
      clear h6
      go_wp2_with fail
      go_round
      case rel => exact ⟨o + 1, _, by omega, by go_num, HK.out.1.opC _ _ _ _, HK.out.2.set _ hwl, H6.out⟩
      case measure => simp [intOf]; omega
    · obtain rfl : o = 6 := by omega
      have e1 : decide (((6 : Nat) : Int) < 6) = false := rfl
      clear hlt ho
      obtain ⟨v, hv⟩ : ∃ v, v = place rv 6 := ⟨_, rfl⟩
      have Hv := hid hv
      clear hv
      go_wp2_with fail
      refine (place_any _ _ _ (by omega) (by omega)).mono ?_
      rintro e w' ⟨rfl, rfl⟩
      rw [← Hv.out]
      go_wp2_with fail
      refine (orecs_any w _ _ A0 n0 c0 _ x0 h5 H0.out l0).mono ?_
      rintro e w6 ⟨A6, c6, rfl, h6⟩
      obtain ⟨xs, hxs⟩ : ∃ xs, xs = lst16 (x0.take (min n0 12)) := ⟨_, rfl⟩
      have hxl : xs.length = min n0 12 := by
        rw [hxs]; have := H0.out.len; simp [lst16] at this ⊢; omega
      have hxe := lst16_lt (x0.take (min n0 12))
      rw [← hxs] at h6 hxe
      have HX := hid hxe
      clear hxs hxe h5
      rw [← hxl] at h6
      rw [← hxl]
      have hx12 : xs.length ≤ 12 := by omega
      clear hxl H0 H2
      obtain ⟨N, hN⟩ : ∃ N, N = xs.length := ⟨_, rfl⟩
      rw [← hN] at h6 hx12 ⊢
      have HN := hid hN
      clear hN
      have h9 : Hold w w6 (slA A6 N c6 (xs.map (Value.int .i64)) * (prA gp m r * (memA m C * (refA r cf16 C * Asr.emp)))) := h6.imp (Imp.on _ (Imp.rowSl _ _ _ _ _))
      obtain ⟨_, _, bq, hbq⟩ := h9.sl
      clear h6
      go_wp2_with fail
      refine (chk_new w _ _ A6 _ c6 _ xs v h9 hbq (by omega)).mono ?_
      rintro e w7 ⟨a, rfl, h10⟩
      obtain ⟨x, h8⟩ := (h10.pk5 [4, 2, 1, 0, 3]).refOpen
      have H8 := hid h8
      have HB0 : Hid (N = badF C xs v N) := hid (by rw [HN.out]; exact (badF_end _ _ _).symm)
      clear h9 h10 h8 hbq
      go_wp2_with fail
      go_loopw [14, 15] (fun s i wr => ∃ k : Nat, k ≤ N ∧ i = .int .i64 ((k : Int) - 1) ∧ s = .int .i64 (badF C xs v k : Nat) ∧ Hold w wr (refF r cf16 C x (prA gp m r * (slA A6 N c6 (xs.map (Value.int .i64)) * (chkA a xs v false * (memA m C * Asr.emp)))))) (fun _ i _ => (intOf i + 1).toNat)
      case atStart => exact ⟨N, by omega, by first | rfl | go_num, by rw [← HB0.out], H8.out⟩
      case round =>
        clear H8 HB0
        obtain ⟨k, hk, rfl, rfl, h8⟩ := hrel
        by_cases hlt : 0 < k
        · obtain ⟨k, rfl⟩ : ∃ j, k = j + 1 := ⟨k - 1, by omega⟩
          rw [show (((k + 1 : Nat) : Int) - 1) = (k : Int) by omega]
          have hkN : k < N := by omega
          have i0 : (0 : Int) ≤ (k : Int) := by omega
          have e2 : decide ((0 : Int) ≤ (k : Int)) = true := decide_eq_true i0
          have i1 : (k : Int) < (N : Int) := by omega
          obtain ⟨z, hz⟩ : ∃ z, z = xs.getD k 0 := ⟨_, rfl⟩
          have hzr := HX.out z (by rw [hz]; exact getD_mem (by rw [← HN.out]; exact hkN))
          have hbs := badF_step C xs v k (by rw [← HN.out]; exact hkN)
          rw [← hz] at hbs
          obtain ⟨zn, rfl⟩ : ∃ zn : Nat, z = zn := ⟨z.toNat, by omega⟩
          have hz6 : zn < (C 2).length := by rw [HK.out.2.len]; omega
          obtain ⟨gr, _, hro⟩ := h8.refOrec hz6
          have HRO := hid hro
          have hvb := HK.out.2.val zn
          obtain ⟨vz, hvz⟩ : ∃ vz, vz = valC C 2 zn := ⟨_, rfl⟩
          rw [← hvz] at hvb hbs
          have HVZ := hid hvz
          obtain ⟨bd, hbd⟩ : ∃ bd, bd = badF C xs v (k + 1) := ⟨_, rfl⟩
          rw [← hbd] at hbs ⊢
          have HBS := hid hbs
          obtain ⟨ad, rfl, _, hat⟩ := (h8.drop.rest.drop).slAt (k := k) hkN
          have hxk : (xs.map (Value.int .i64))[k]? = some (.int .i64 zn) := by
            rw [List.getElem?_map, hz]
            have hk2 : k < xs.length := by rw [← HN.out]; exact hkN
            simp [List.getD, List.getElem?_eq_getElem hk2]
          rw [hxk] at hat
          have HAT := hid hat
          have i2 : (0 : Int) ≤ (zn : Int) := by omega
          have i3 : (zn : Int) < ((C 2).length : Int) := by omega
          clear hro hvz hat hxk hz hbd hbs
          go_wp2_with fail
          replace h8 := h8.drew
          by_cases hbad : v < vz / 64
          all_goals
            have HBD := hid hbad
            refine wp_region_brk [] (by kernel_rfl) ?_
            refine wpAnyB_now (fun w' => Hold w w' (refF r cf16 C x (prA gp m r * (slA (some ad) N c6 (xs.map (Value.int .i64)) * (chkA a xs v false * (memA m C * Asr.emp)))))) (fun _ _ => trivial) _ _ _ _ ?_
            refine' wpAnyB_bulk [true, true, true, true, true, true, true, true, true, true, true, true, false, true] 129 (listed' := #[true, true, true, true, true, true, true, true, true, true, true, true, false, true, false]) rfl (by kernel_rfl) (by kernel_rfl) (by kernel_rfl) (by kernel_rfl) (by kernel_rfl) (by kernel_rfl) (by decide) (fun _ _ _ _ h => h) rfl h8 (fun wq hq => ?_) ?_; rotate_left 1
            · simp only [maskL]
              have q1 := hq.drop.rest.blk.some_ (i := 1) rfl
              obtain ⟨q2, q3⟩ := HRO.out wq _ hq
              rw [← HVZ.out] at q2
              have q4 := HAT.out wq hq.drop.rest.drop
              repeat (go_big_quiet_step (fail))
              exact wpQuiet_nil rfl
            refine wpAnyB_bar [false, false, false, false, false, false, false, false, false, false, false, false, true] (fuel := 1) (by rfl) (by rfl) (by kernel_rfl) (fun QB hQB hQX => ?_)
            simp only [maskL]
            go_wp2_with fail
            refine (rver_any _ vz (by omega) (by omega)).mono ?_
            rintro e w' ⟨rfl, rfl⟩
            have e3 : decide (v < vz / 64) = decide (v < vz / 64) := rfl
            go_wp2_with fail
            refine hQB.out _ _ h8 ?_
            clear hQB hQX QB
            refine' wpAnyB_bulk [false, false, false, false, false, false, false, false, false, false, false, false, false, false, true] 129 (listed' := #[true, true, true, true, true, true, true, true, true, true, true, true, true, true, true]) rfl (by kernel_rfl) (by kernel_rfl) (by kernel_rfl) (by kernel_rfl) (by kernel_rfl) (by kernel_rfl) (by decide) (fun _ _ _ _ h => h) rfl h8 (fun wq hq => ?_) ?_; rotate_left 1
            · simp only [maskL]
              repeat (go_big_quiet_step (fail))
              exact wpQuiet_nil rfl
            refine wpAnyB_done (by kernel_rfl) ?_ _
            have H9 := hid h8
            clear h8
            go_wp2_with fail
            go_round
            case rel => exact ⟨k, by omega, by first | rfl | go_num, by rw [HBS.out]; first | rw [if_pos HBD.out] | rw [if_neg (by have := HBD.out; omega)], H9.out⟩
            case measure => first | (simp [intOf]; done) | (simp [intOf]; omega)
        · obtain rfl : k = 0 := by omega
          rw [show (((0 : Nat) : Int) - 1) = -1 from rfl]
          obtain ⟨B, hB⟩ : ∃ B, B = badF C xs v 0 := ⟨_, rfl⟩
          rw [← hB]
          have hBl := badF_le C xs v
          have hBa := fun h => badF_at (C := C) (xs := xs) (v := v) h
          have hBf := fun j h => badF_first (C := C) (xs := xs) (v := v) (j := j) h
          rw [← hB, ← HN.out] at hBl
          rw [← hB, ← HN.out] at hBa
          rw [← hB, ← HN.out] at hBf
          have HBB := hid (And.intro hBa hBf)
          have h9 : VC w gp a m r c6 A6 N xs v C B 0 wr := ⟨false, by omega, (fun _ => by omega), (fun h => by cases h), h8.refShut.pk5 [1, 2, 3, 4, 0]⟩
          have H9 := hid h9
          clear h8 h9 hB hBa hBf hk hlt
          go_wp2_with fail
          go_loopw [13] (fun i wr => ∃ j : Nat, i = .int .i64 j ∧ VC w gp a m r c6 A6 N xs v C B j wr) (fun i _ => 14 - (intOf i).toNat)
          case atStart => exact ⟨0, rfl, H9.out⟩
          case round =>
            clear H9
            obtain ⟨j, rfl, f, hj, hf, ht, h6⟩ := hrel
            by_cases hd : (f || (xs.drop j).isEmpty) = true
            · have HD := hid hd
              have hfin : (B < N ∧ f = true ∧ j = B + 1) ∨ (B = N ∧ f = false ∧ j = B) := by
                cases f
                · have := hf rfl
                  simp [List.isEmpty_iff, List.drop_eq_nil_iff] at hd
                  rw [← HN.out] at hd
                  exact .inr ⟨by omega, rfl, by omega⟩
                · have := ht rfl
                  exact .inl ⟨by omega, rfl, by omega⟩
              clear hd hf ht
              rcases hfin with ⟨hBN, rfl, rfl⟩ | ⟨rfl, rfl, rfl⟩
              · have e4 : decide ((B : Int) < (N : Int)) = true := decide_eq_true (by omega)
                have e5 : ((B : Int) + 1 == min ((B : Int) + 1) (N : Int)) = true := by simp; omega
                have e6 : decide (N < B + 1) = false := by simp; omega
                go_wp2_with fail
                refine (chk_done w _ _ a (xs.drop _) v _ (h6.pk3 [2, 0, 1])).mono ?_
                rintro e w' ⟨rfl, rfl⟩
                rw [HD.out]
                go_wp2_with fail
                refine (chk_failed w _ _ a (xs.drop _) v _ (h6.pk3 [2, 0, 1])).mono ?_
                rintro e w' ⟨rfl, rfl⟩
                have q0 := h6.blk.some_ (i := 0) rfl
                have q1 := h6.blk.some_ (i := 1) rfl
                go_wp2_with fail
                refine (pair_same w _ _ m r cf16 C (h6.pk5 [3, 4, 0, 1, 2]) HK.out.1).mono ?_
                rintro e w8 ⟨rfl, h7⟩
                clear h6 q0 q1
                go_wp2_with fail
                refine (awake16_any w _ _ h7).mono ?_
                rintro e w9 ⟨rfl, h8⟩
                have H10 := hid h8.below
                clear h7 h8
                go_wp2_with fail
                go_ret
                exact ⟨rfl, H10.out⟩
              · have e4 : decide ((j : Int) < (j : Int)) = false := by simp
                have e5 : ((j : Int) == min ((j : Int) + 1) (j : Int)) = true := by simp; omega
                go_wp2_with fail
                refine (chk_done w _ _ a (xs.drop _) v _ (h6.pk3 [2, 0, 1])).mono ?_
                rintro e w' ⟨rfl, rfl⟩
                rw [HD.out]
                go_wp2_with fail
                refine (chk_failed w _ _ a (xs.drop _) v _ (h6.pk3 [2, 0, 1])).mono ?_
                rintro e w' ⟨rfl, rfl⟩
                have q0 := h6.blk.some_ (i := 0) rfl
                have q1 := h6.blk.some_ (i := 1) rfl
                go_wp2_with fail
                refine (pair_same w _ _ m r cf16 C (h6.pk5 [3, 4, 0, 1, 2]) HK.out.1).mono ?_
                rintro e w8 ⟨rfl, h7⟩
                clear h6 q0 q1
                go_wp2_with fail
                refine (awake16_any w _ _ h7).mono ?_
                rintro e w9 ⟨rfl, h8⟩
                have H10 := hid h8.below
                clear h7 h8
                go_wp2_with fail
                go_ret
                exact ⟨rfl, H10.out⟩
            · obtain ⟨rfl, hkn⟩ : f = false ∧ ¬ (xs.drop j).isEmpty = true := by
                cases f
                · simpa using hd
                · simp at hd
              have hjN : j < N := by
                simp [List.isEmpty_iff, List.drop_eq_nil_iff] at hkn
                rw [← HN.out] at hkn
                omega
              have hkl : j < xs.length := by rw [← HN.out]; exact hjN
              have hzd : xs.drop j = xs.getD j 0 :: xs.drop (j + 1) := by rw [getD_at hkl]; exact List.drop_eq_getElem_cons hkl
              have hzr := HX.out _ (getD_mem hkl)
              rw [hzd] at h6
              obtain ⟨z, hz⟩ : ∃ z, z = xs.getD j 0 := ⟨_, rfl⟩
              rw [← hz] at hzr h6
              have hgot : (opA C 1 2 z (valC C 2 z) true) = ⟨1, 2, z, valC C 2 z, valC C 2 z, true⟩ := (op_yes (HK.out.2.has hzr.1 hzr.2) 1 _).1
              have hvb := HK.out.2.val z
              have hjB := hf rfl
              have hHV : Hid (∀ fn, fn = decide (v < valC C 2 z / 64) → (fn = false → j + 1 ≤ B) ∧ (fn = true → j + 1 = B + 1 ∧ B < N)) := hid (fun fn hfn => by
                by_cases hb : v < valC C 2 z / 64
                · have h1 := HBB.out.2 j hjN (by rw [← hz]; exact hb)
                  rw [decide_eq_true hb] at hfn
                  subst hfn
                  exact ⟨(fun h => by cases h), fun _ => by omega⟩
                · rw [decide_eq_false hb] at hfn
                  subst hfn
                  refine ⟨fun _ => ?_, (fun h => by cases h)⟩
                  by_cases hjb : j = B
                  · have h1 := HBB.out.1 (by omega)
                    rw [← hjb, ← hz] at h1
                    exact absurd h1 hb
                  · omega)
              obtain ⟨ad, rfl, hat⟩ := (h6.pk2 [1, 0]).slAt2 (k := j) hjN
              have hxk : (xs.map (Value.int .i64))[j]? = some (.int .i64 z) := by
                rw [List.getElem?_map, hz]
                simp [List.getD, List.getElem?_eq_getElem hkl]
              rw [hxk] at hat
              have HAT := hid hat
              have HG := hid hgot
              have HZ := hid hz
              have p0 := h6.blk.some_ (i := 0) rfl
              have e2 : decide ((j : Int) < 20) = true := decide_eq_true (by omega)
              have i0 : (0 : Int) ≤ (j : Int) := by omega
              have i1 : (j : Int) < (N : Int) := by omega
              clear hd hkn hzd hz hgot hf ht hat hxk hjB
              go_wp2_with fail
              refine (chk_done w _ _ a (z :: xs.drop (j + 1)) v _ (h6.pk3 [2, 0, 1])).mono ?_
              rintro e w' ⟨rfl, rfl⟩
              rw [show (false || (z :: xs.drop (j + 1)).isEmpty) = false from rfl]
              go_wp2_with fail
              refine (chk_step w _ _ a m C z (xs.drop (j + 1)) v (h6.pk4 [2, 3, 0, 1]) HK.out.1 (by omega) (HK.out.2.got z)).mono ?_
              rintro e w8 ⟨rfl, h7⟩
              rw [HG.out] at h7 ⊢
              have h8 : Hold w w8 (prA gp m r * (slA (some ad) N c6 (xs.map (Value.int .i64)) * (chkA a (xs.drop (j + 1)) v (decide (v < valC C 2 z / 64)) * (memA m C * (refA r cf16 C * Asr.emp))))) := h7.pk4 [2, 3, 0, 1]
              obtain ⟨fn, hfn⟩ : ∃ fn, fn = decide (v < valC C 2 z / 64) := ⟨_, rfl⟩
              rw [← hfn] at h8
              have HFN := hid hfn
              obtain ⟨vz, hvz⟩ : ∃ vz, vz = valC C 2 z := ⟨_, rfl⟩
              rw [← hvz]
              have h9 := h8.newBlk (t := 39) (cs := #[.int .i64 1, .int .i64 2, .int .i64 z, .int .u64 vz, .int .u64 vz, .bool true])
              have H9 := hid h9
              clear h6 h7 h8 h9 p0 hfn hvz
              go_wp2_with fail
              have h9 := H9.out
              generalize hW : World.alloc _ _ = W9 at h9 ⊢
              generalize w8.heap.size = ga at h9 ⊢
              clear hW H9
              obtain ⟨⟨x0, x1, x2, x3, x4, x5⟩, _⟩ := blk_acc h9.blk
              have y0 := HAT.out W9 _ (h9.drop.pk2 [1, 0])
              have e3 : (z != z) = false := by simp
              have e4 : decide (N ≤ j) = false := by simp; omega
              have e5 : decide ((N : Int) ≤ (j : Int)) = false := by simp; omega
              go_quiet (fail)
              have H10 : Hid (VC w gp a m r c6 (some ad) N xs v C B (j + 1) (W9.drewN nq)) := hid ⟨fn, by omega, (hHV.out fn HFN.out).1, (hHV.out fn HFN.out).2, h9.drop.drewN nq⟩
              clear h9
              go_wp2_with fail
              go_round
              case rel => exact ⟨j + 1, by go_num, H10.out⟩
              case measure => simp [intOf]; omega
end Go.Proofs.Ytfmmphabfdpegaa
