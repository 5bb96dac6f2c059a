/- ValidatorProves, ValidatorCalm: plain laws. -/
import Derived.Test.YtfmmphabfdpegaaVal2
import Derived.Deep.DeepCutAuto
namespace Go.Proofs.Ytfmmphabfdpegaa
open Go.RowKit
set_option linter.unusedVariables false

theorem valC2 (C : Nat → List Int) (z : Int) : valC C 2 z = (C 2).getD z.toNat 0 := by
  unfold valC
  rw [show getC C 2 = C 2 from getC_at (k := 2) (by decide) (by decide)]
theorem valC_opC2 {C : Nat → List Int} {o x z : Int} (hh : hasC C 2 o) (hz : 0 ≤ z) : valC (opC C 2 o x true) 2 z = if z = o then x else valC C 2 z := by
  by_cases h : z = o
  · subst h
    rw [if_pos rfl, (op_yes hh 2 x).2.1]
    exact (valC_setK hh).1
  · rw [if_neg h, (op_yes hh 2 x).2.1, valC2, valC2, show ((2 : Int).toNat) = 2 from rfl, setK_eq]
    have h0 := hh.1
    have : o.toNat ≠ z.toNat := by omega
    simp [List.getD, List.getElem?_set_ne this]
/-- Versions have only grown. -/
structure VG (C D : Nat → List Int) (j : Nat) : Prop where
  len : (D 2).length = 6
  val : ∀ z, 0 ≤ z → z < 6 → 0 ≤ valC D 2 z ∧ valC C 2 z / 64 ≤ valC D 2 z / 64 ∧ valC D 2 z / 64 ≤ 4 + j
theorem VG.start {C : Nat → List Int} (h : VR C) : VG C C 0 := ⟨h.len, fun z _ _ => by have := h.val z; omega⟩
theorem VG.next {C D : Nat → List Int} {j : Nat} (h : VG C D j) : VG C D (j + 1) := ⟨h.len, fun z h0 h1 => by have := h.val z h0 h1; omega⟩
theorem VG.has {C D : Nat → List Int} {j : Nat} (h : VG C D j) {o : Int} (h0 : 0 ≤ o) (h1 : o < 6) : hasC D 2 o := ⟨h0, by
  rw [show getC D 2 = D 2 from getC_at (k := 2) (by decide) (by decide), h.len]; omega⟩
theorem VG.set {C D : Nat → List Int} {j : Nat} (h : VG C D j) {o : Int} (h0 : 0 ≤ o) (h1 : o < 6) : VG C (opC D 2 o ((valC D 2 o / 64 + 1) * 64) true) (j + 1) := by
  refine ⟨by rw [opC_len2]; exact h.len, fun z z0 z1 => ?_⟩
  rw [valC_opC2 (h.has h0 h1) z0]
  have ho := h.val o h0 h1
  have hz := h.val z z0 z1
  by_cases hzo : z = o
  · subst hzo
    rw [if_pos rfl]
    have h5 : 0 ≤ valC D 2 z / 64 := by omega
    generalize valC C 2 z / 64 = p at ho ⊢
    generalize valC D 2 z / 64 = q at ho h5 ⊢
    omega
  · rw [if_neg hzo]; omega
theorem VG.got {C D : Nat → List Int} {j : Nat} (h : VG C D j) (hj : j ≤ 100) {z : Int} (h0 : 0 ≤ z) (h1 : z < 6) : (opA D 1 2 z (valC D 2 z) true) = ⟨1, 2, z, valC D 2 z, valC D 2 z, true⟩ ∧ 0 ≤ valC D 2 z ∧ valC D 2 z < 18446744073709551616 := by
  have := h.val z h0 h1
  exact ⟨(op_yes (h.has h0 h1) 1 _).1, by omega, by omega⟩
def fineB (C : Nat → List Int) (xs : List Int) (v : Int) (k : Nat) : Bool := (xs.take k).all fun z => decide (valC C 2 z / 64 ≤ v)
theorem fineB_succ (C : Nat → List Int) (xs : List Int) (v : Int) (k : Nat) (hk : k < xs.length) : fineB C xs v (k + 1) = (fineB C xs v k && decide (valC C 2 (xs.getD k 0) / 64 ≤ v)) := by
  unfold fineB
  rw [List.take_succ_eq_append_getElem hk, List.all_append, getD_at hk]
  simp
theorem fineB_true {C : Nat → List Int} {xs : List Int} {v : Int} (h : ∀ i, i < xs.length → valC C 2 (xs.getD i 0) / 64 ≤ v) : fineB C xs v xs.length = true := by
  unfold fineB
  rw [List.take_length, List.all_eq_true]
  intro z hz
  obtain ⟨i, hi, rfl⟩ := List.getElem_of_mem hz
  have := h i hi
  rw [getD_at hi] at this
  simpa using this
section
variable {w0 w : World} {R : Asr} {r : Nat} {c : Cfg} {C : Nat → List Int} {x : Lay}
/-- An orec of the document's cells, read through the image. -/
theorem Hold.refOrec (h : Hold w0 w (refF r c C x R)) {i : Nat} (hi : i < (C 2).length) : ∃ gr, x.A 2 = some ⟨gr, 0, none⟩ ∧ ∀ w' R', Hold w0 w' (refF r c C x R') →
    w'.cell? ⟨gr, i, none⟩ = some (.int .u64 (valC C 2 i)) ∧ w'.cell? ⟨r, 14, none⟩ = some (.slice (some ⟨gr, 0, none⟩) (C 2).length (x.c 2)) := by
  obtain ⟨_, hR, _⟩ := h.refRow2
  obtain ⟨gr, hA, _⟩ := set_at (zs := C 2) (k := .u64) (A := x.A 2) (cp := x.c 2) (n := (C 2).length) (e := 33) hR (i := i) hi
  refine ⟨gr, hA, fun w' R' h' => ?_⟩
  obtain ⟨_, hR', _⟩ := h'.refRow2
  obtain ⟨gr', hA', hc', _⟩ := set_at (zs := C 2) (k := .u64) (A := x.A 2) (cp := x.c 2) (n := (C 2).length) (e := 33) hR' (i := i) hi
  rw [hA] at hA'
  injection hA' with hA'
  injection hA' with hA'
  subst hA'
  refine ⟨by rw [hc', valC2]; rfl, ?_⟩
  have := h'.blk.some_ (i := 14) (u := slV C x 2) rfl
  unfold slV at this
  rw [hA] at this
  exact this
end
def VP (w : World) (gp a m r : Nat) (xs : List Int) (v : Int) (C D : Nat → List Int) (j : Nat) (wx : World) : Prop :=
  ∃ (k : Nat) (f : Bool), k ≤ xs.length ∧ (f = false → k = min j xs.length) ∧ (f = false → ∀ i, i < k → valC C 2 (xs.getD i 0) / 64 ≤ v) ∧ Hold w wx (prA gp m r * (chkA a (xs.drop k) v f * (memA m D * (refA r cf16 D * Asr.emp))))
set_option maxRecDepth 8000 in
set_option maxHeartbeats 8000000 in
theorem validatorProves_any (w : World) (A0 A2 A3 : Option Addr) (n0 n2 n3 c0 c2 c3 b0 b2 b3 : Nat) (rv : Int) (x0 x2 x3 : List Int)
    (hA0 : Reads w b0 A0 n0 (x0.map (Value.int .i64))) (hA2 : Reads w b2 A2 n2 (x2.map (Value.int .i64))) (hA3 : Reads w b3 A3 n3 (x3.map (Value.int .i64)))
    (l0 : n0 ≤ 9223372036854775807) (l2 : n2 ≤ 9223372036854775807) (l3 : n3 ≤ 9223372036854775807) :
    Calls Try.prog 9 #[.slice A0 n0 c0, .int .i64 rv, .slice A2 n2 c2, .slice A3 n3 c3] w (fun e w' => e = .returned (.bool true) ∧ Below w.heap.size w w') := by
  have H0 := hid hA0
  have H2 := hid hA2
  have H3 := hid hA3
  clear hA0 hA2 hA3
  go_enter Try.func9, Try.ntmps9
  go_wp2_with fail
  refine (config16 w _ _ (Hold.start w)).mono ?_
  rintro e w1 ⟨rfl, h1⟩
  go_wp2_with fail
  refine (lab_start w _ _ cf16 2 cf16_ok (by decide) h1).mono ?_
  rintro e w2 ⟨m, r, rfl, h2⟩
  have h3 : Hold w _ (prA w2.heap.size m r * (memA m vs0 * (refA r cf16 vs0 * Asr.emp))) := h2.newBlk (t := 66) (cs := #[.pointer (some ⟨m, 0, none⟩), .pointer (some ⟨r, 0, none⟩)])
  have H4 := hid h3
  clear h1 h2 h3
  go_wp2_with fail
  have h4 := H4.out
  generalize hW : World.alloc _ _ = W at h4 ⊢
  generalize w2.heap.size = gp at h4 ⊢
  clear hW H4
  go_loopw [11] (fun i wr => ∃ (o : Nat) (C : Nat → List Int), o ≤ 6 ∧ i = .int .i64 o ∧ COk C ∧ VR C ∧ Hold w wr (prA gp m r * (memA m C * (refA r cf16 C * Asr.emp)))) (fun i _ => 6 - (intOf i).toNat)
  case atStart => exact ⟨0, vs0, by omega, rfl, vs0_ok, vs0_vr, h4⟩
  case round =>
    clear h4
    obtain ⟨o, C, ho, rfl, hC, hV, h5⟩ := hrel
    have HK := hid (And.intro hC hV)
    clear hC hV
    by_cases hlt : o < 6
    · have e1 : decide ((o : Int) < 6) = true := decide_eq_true (by omega)
      go_wp2_with fail
      obtain ⟨y, hy⟩ : ∃ y, y = x2.getD o 0 := ⟨_, rfl⟩
      have HY := hid hy
      clear hy
      obtain ⟨wd, hwd⟩ : ∃ wd, wd = word16 y := ⟨_, rfl⟩
      have hwl := word16_lt y
      rw [← hwd] at hwl
      have HW := hid hwd
      clear hwd
      replace h5 := h5.drew
      refine wp_region_brk [] (by kernel_rfl) ?_
      refine wpAnyB_now (fun w' => ∃ Z, Hold w w' (prA gp m r * Z)) (fun _ _ => trivial) _ _ _ _ ?_
      refine' wpAnyB_bulk [true, true, true, true] 123 (listed' := #[true, true, true, true, false, false, false, false]) rfl (by kernel_rfl) (by kernel_rfl) (by kernel_rfl) (by kernel_rfl) (by kernel_rfl) (by kernel_rfl) (by decide) (fun _ _ _ _ h => h) rfl ⟨_, h5⟩ (fun wq hq => ?_) ?_; rotate_left 1
      · simp only [maskL]
        obtain ⟨Z, hq⟩ := hq
        have q0 := hq.blk.some_ (i := 0) rfl
        have q1 := hq.blk.some_ (i := 1) rfl
        repeat (go_big_quiet_step (fail))
        exact wpQuiet_nil rfl
      refine wpAnyB_bar [false, false, false, false, true] (fuel := 3) (by rfl) (by rfl) (by kernel_rfl) (fun QB hQB hQX => ?_)
      simp only [maskL]
      go_wp2_with fail
      refine (at_nat _ A2 n2 c2 _ x2 o (H2.out.below h5.below) l2).mono ?_
      rintro e w' ⟨rfl, rfl⟩
      rw [← HY.out]
      go_wp2_with fail
      refine hQB.out _ _ ⟨_, h5⟩ ?_
      clear hQB hQX QB
      refine wpAnyB_bar [false, false, false, false, false, true] (fuel := 2) (by rfl) (by rfl) (by kernel_rfl) (fun QB hQB hQX => ?_)
      simp only [maskL]
      go_wp2_with fail
      refine (word16_any _ _).mono ?_
      rintro e w' ⟨rfl, rfl⟩
      rw [← HW.out]
      go_wp2_with fail
      refine hQB.out _ _ ⟨_, h5⟩ ?_
      clear hQB hQX QB
      refine wpAnyB_bar [false, false, false, false, false, false, true] (fuel := 1) (by rfl) (by rfl) (by kernel_rfl) (fun QB hQB hQX => ?_)
      simp only [maskL]
      go_wp2_with fail
      refine (pair_set w _ _ m r cf16 C 2 o wd (h5.pk3 [1, 2, 0]) HK.out.1 (HK.out.2.has (by omega) (by omega)) (by omega)).mono ?_
      rintro e w6 ⟨rfl, h6⟩
      replace h6 : Hold w w6 (prA gp m r * (memA m (opC C 2 o wd true) * (refA r cf16 (opC C 2 o wd true) * Asr.emp))) := h6.pk3 [2, 0, 1]
      clear h5
      go_wp2_with fail
      refine hQB.out _ _ ⟨_, h6⟩ ?_
      clear hQB hQX QB
      refine' wpAnyB_bulk [false, false, false, false, false, false, false, true] 123 (listed' := #[true, true, true, true, true, true, true, true]) rfl (by kernel_rfl) (by kernel_rfl) (by kernel_rfl) (by kernel_rfl) (by kernel_rfl) (by kernel_rfl) (by decide) (fun _ _ _ _ h => h) rfl ⟨_, h6⟩ (fun wq hq => ?_) ?_; rotate_left 1
      · simp only [maskL]
        repeat (go_big_quiet_step (fail))
        exact wpQuiet_nil rfl
      refine wpAnyB_done (by kernel_rfl) ?_ _
      have H6 := hid h6
      clear h6
      go_wp2_with fail
      go_round
      case rel => exact ⟨o + 1, _, by omega, by go_num, HK.out.1.opC _ _ _ _, HK.out.2.set _ hwl, H6.out⟩
      case measure => simp [intOf]; omega
    · obtain rfl : o = 6 := by omega
      have e1 : decide (((6 : Nat) : Int) < 6) = false := rfl
      clear hlt ho
      obtain ⟨v, hv⟩ : ∃ v, v = place rv 6 := ⟨_, rfl⟩
      have Hv := hid hv
      clear hv
      go_wp2_with fail
      refine (place_any _ _ _ (by omega) (by omega)).mono ?_
      rintro e w' ⟨rfl, rfl⟩
      rw [← Hv.out]
      go_wp2_with fail
      refine (orecs_any w _ _ A0 n0 c0 _ x0 h5 H0.out l0).mono ?_
      rintro e w6 ⟨A6, c6, rfl, h6⟩
      obtain ⟨xs, hxs⟩ : ∃ xs, xs = lst16 (x0.take (min n0 12)) := ⟨_, rfl⟩
      have hxl : xs.length = min n0 12 := by
        rw [hxs]; have := H0.out.len; simp [lst16] at this ⊢; omega
      have hxe := lst16_lt (x0.take (min n0 12))
      rw [← hxs] at h6 hxe
      have HX := hid hxe
      clear hxs hxe h5
      rw [← hxl] at h6
      rw [← hxl]
      have hx12 : xs.length ≤ 12 := by omega
      clear hxl H0 H2
      obtain ⟨N, hN⟩ : ∃ N, N = xs.length := ⟨_, rfl⟩
      rw [← hN] at h6 hx12 ⊢
      have HN := hid hN
      clear hN
      have h7 : Hold w w6 (prA gp m r * (slA A6 N c6 (xs.map (Value.int .i64)) * (memA m C * (refA r cf16 C * Asr.emp)))) := (h6.imp (Imp.on _ (Imp.rowSl _ _ _ _ _))).pk4 [1, 0, 2, 3]
      obtain ⟨x, h8⟩ := (h7.pk4 [3, 0, 1, 2]).refOpen
      have H8 := hid h8
      clear h6 h7 h8
      go_wp2_with fail
      go_loopw [14, 15] (fun s i wr => ∃ k : Nat, k ≤ N ∧ i = .int .i64 k ∧ s = .bool (fineB C xs v k) ∧ Hold w wr (refF r cf16 C x (prA gp m r * (slA A6 N c6 (xs.map (Value.int .i64)) * (memA m C * Asr.emp))))) (fun _ i _ => N - (intOf i).toNat)
      case atStart => exact ⟨0, by omega, rfl, rfl, H8.out⟩
      case round =>
        clear H8
        obtain ⟨k, hk, rfl, rfl, h8⟩ := hrel
        by_cases hlt : k < N
        · have e2 : decide ((k : Int) < N) = true := decide_eq_true (by omega)
          have i0 : (0 : Int) ≤ (k : Int) := by omega
          have i1 : (k : Int) < (N : Int) := by omega
          obtain ⟨z, hz⟩ : ∃ z, z = xs.getD k 0 := ⟨_, rfl⟩
          have hzr := HX.out z (by rw [hz]; exact getD_mem (by rw [← HN.out]; exact hlt))
          have hfs := fineB_succ C xs v k (by rw [← HN.out]; exact hlt)
          rw [← hz] at hfs
          obtain ⟨zn, rfl⟩ : ∃ zn : Nat, z = zn := ⟨z.toNat, by omega⟩
          obtain ⟨fb, hfb⟩ : ∃ fb, fb = fineB C xs v k := ⟨_, rfl⟩
          rw [← hfb] at hfs ⊢
          have HFS := hid hfs
          have HZ := hid hz
          clear hfs hz hfb
          go_wp2_with fail
          cases fb
          · go_quiet (fail)
            have H9 := hid (h8.drewN nq)
            clear h8
            go_wp2_with fail
            go_round
            case rel => exact ⟨k + 1, by omega, by go_num, by rw [HFS.out]; rfl, H9.out⟩
            case measure => simp [intOf]; omega
          · have hz6 : zn < (C 2).length := by rw [HK.out.2.len]; omega
            obtain ⟨gr, _, hro⟩ := h8.refOrec hz6
            have HRO := hid hro
            have hvb := HK.out.2.val zn
            obtain ⟨vz, hvz⟩ : ∃ vz, vz = valC C 2 zn := ⟨_, rfl⟩
            rw [← hvz] at hvb
            have HVZ := hid hvz
            obtain ⟨ad, rfl, _, hat⟩ := (h8.drop.rest.drop).slAt (k := k) hlt
            have hxk : (xs.map (Value.int .i64))[k]? = some (.int .i64 zn) := by
              rw [List.getElem?_map, HZ.out]
              have hk2 : k < xs.length := by rw [← HN.out]; exact hlt
              simp [List.getD, List.getElem?_eq_getElem hk2]
            rw [hxk] at hat
            have HAT := hid hat
            have i2 : (0 : Int) ≤ (zn : Int) := by omega
            have i3 : (zn : Int) < ((C 2).length : Int) := by omega
            clear hro hvz hat hxk
            replace h8 := h8.drew
            refine wp_region_brk [] (by kernel_rfl) ?_
            refine wpAnyB_now (fun w' => Hold w w' (refF r cf16 C x (prA gp m r * (slA (some ad) N c6 (xs.map (Value.int .i64)) * (memA m C * Asr.emp))))) (fun _ _ => trivial) _ _ _ _ ?_
            refine' wpAnyB_bulk [true, true, true, true, true, true, true, true, true, true, true, true, true, true, false, true] 123 (listed' := #[true, true, true, true, true, true, true, true, true, true, true, true, true, true, false, true, false, false, false]) rfl (by kernel_rfl) (by kernel_rfl) (by kernel_rfl) (by kernel_rfl) (by kernel_rfl) (by kernel_rfl) (by decide) (fun _ _ _ _ h => h) rfl h8 (fun wq hq => ?_) ?_; rotate_left 1
            · simp only [maskL]
              have q1 := hq.drop.rest.blk.some_ (i := 1) rfl
              obtain ⟨q2, q3⟩ := HRO.out wq _ hq
              rw [← HVZ.out] at q2
              have q4 := HAT.out wq hq.drop.rest.drop
              repeat (go_big_quiet_step (fail))
              exact wpQuiet_nil rfl
            refine wpAnyB_bar [false, false, false, false, false, false, false, false, false, false, false, false, false, false, true] (fuel := 3) (by rfl) (by rfl) (by kernel_rfl) (fun QB hQB hQX => ?_)
            simp only [maskL]
            go_wp2_with fail
            refine (rver_any _ vz (by omega) (by omega)).mono ?_
            rintro e w' ⟨rfl, rfl⟩
            go_wp2_with fail
            refine hQB.out _ _ h8 ?_
            clear hQB hQX QB
            refine' wpAnyB_bulk [false, false, false, false, false, false, false, false, false, false, false, false, false, false, false, false, true, true, true] 123 (listed' := #[true, true, true, true, true, true, true, true, true, true, true, true, true, true, true, true, true, true, true]) rfl (by kernel_rfl) (by kernel_rfl) (by kernel_rfl) (by kernel_rfl) (by kernel_rfl) (by kernel_rfl) (by decide) (fun _ _ _ _ h => h) rfl h8 (fun wq hq => ?_) ?_; rotate_left 1
            · simp only [maskL]
              repeat (go_big_quiet_step (fail))
              exact wpQuiet_nil rfl
            refine wpAnyB_done (by kernel_rfl) ?_ _
            have H9 := hid h8
            clear h8
            go_wp2_with fail
            go_round
            case rel => exact ⟨k + 1, by omega, by go_num, by rw [HFS.out, ← HVZ.out]; rfl, H9.out⟩
            case measure => simp [intOf]; omega
        · obtain rfl : N = k := by omega
          have e2 : decide ((N : Int) < N) = false := by simp
          have h9 : Hold w wr (slA A6 N c6 (xs.map (Value.int .i64)) * (prA gp m r * (memA m C * (refA r cf16 C * Asr.emp)))) := h8.refShut.pk4 [2, 1, 3, 0]
          obtain ⟨_, _, bq, hbq⟩ := h9.sl
          obtain ⟨fb, hfb⟩ : ∃ fb, fb = fineB C xs v N := ⟨_, rfl⟩
          rw [← hfb]
          have HFB := hid hfb
          clear h8 hfb
          go_wp2_with fail
          refine (chk_new w _ _ A6 _ c6 _ xs v h9 hbq (by omega)).mono ?_
          rintro e w7 ⟨a, rfl, h10⟩
          have h11 : VP w gp a m r xs v C C 0 w7 := ⟨0, false, by omega, fun _ => by omega, fun _ i hi => by omega, h10.pk5 [2, 0, 3, 4]⟩
          have H11 := hid (And.intro HK.out.1 (And.intro (VG.start HK.out.2) h11))
          clear h9 h10 h11 hbq
          go_wp2_with fail
          go_loopw [17] (fun i wr => ∃ (j : Nat) (D : Nat → List Int), j ≤ 14 ∧ i = .int .i64 j ∧ COk D ∧ VG C D j ∧ VP w gp a m r xs v C D j wr) (fun i _ => 14 - (intOf i).toNat)
          case atStart => exact ⟨0, C, by omega, rfl, H11.out⟩
          case round =>
            clear H11 e2
            obtain ⟨j, D, hj, rfl, hD, hG, k, f, hk, hf, hfv, h6⟩ := hrel
            have HD := hid hD
            have HG := hid hG
            clear hD hG
            by_cases hlt : j < 14
            · have e2 : decide ((j : Int) < 14) = true := decide_eq_true (by omega)
              have hstep : Calls Try.prog 37 #[.pointer (some ⟨a, 0, none⟩), .pointer (some ⟨m, 0, none⟩)] wr (fun e w' => ∃ (ac : Acc), e = .returned ac.val ∧ VP w gp a m r xs v C D (j + 1) w') := by
                by_cases hd : (f || (xs.drop k).isEmpty) = true
                · refine (chk_step_done w _ _ a _ (xs.drop k) v f (h6.pk4 [1, 0, 2, 3]) hd).mono ?_
                  rintro e w8 ⟨rfl, h7⟩
                  refine ⟨_, rfl, k, f, hk, fun h => ?_, hfv, h7.pk4 [1, 0, 2, 3]⟩
                  have := hf h
                  subst h
                  simp [List.isEmpty_iff, List.drop_eq_nil_iff] at hd
                  omega
                · obtain ⟨rfl, hkn⟩ : f = false ∧ ¬ (xs.drop k).isEmpty = true := by
                    cases f
                    · simpa using hd
                    · simp at hd
                  have hkl : k < xs.length := by
                    simp [List.isEmpty_iff, List.drop_eq_nil_iff] at hkn
                    omega
                  have hzd : xs.drop k = xs.getD k 0 :: xs.drop (k + 1) := by rw [getD_at hkl]; exact List.drop_eq_getElem_cons hkl
                  have hzr := HX.out _ (getD_mem hkl)
                  rw [hzd] at h6
                  generalize hz : xs.getD k 0 = z at hzr h6
                  obtain ⟨g1, g2, g3⟩ := HG.out.got (by omega) hzr.1 hzr.2
                  refine (chk_step w _ _ a m D z (xs.drop (k + 1)) v (h6.pk4 [1, 2, 0, 3]) HD.out (by omega) (by rw [g1]; exact ⟨g2, g3⟩)).mono ?_
                  rintro e w8 ⟨rfl, h7⟩
                  refine ⟨_, rfl, k + 1, _, hkl, fun _ => ?_, fun h i hi => ?_, h7.pk4 [2, 0, 1, 3]⟩
                  · have := hf rfl; omega
                  · rw [g1] at h
                    have h := of_decide_eq_false h
                    by_cases hik : i < k
                    · exact hfv rfl i hik
                    · obtain rfl : i = k := by omega
                      rw [hz]
                      have := HG.out.val z hzr.1 hzr.2
                      have h : ¬ v < valC D 2 z / 64 := h
                      omega
              have HS := hid hstep
              have p0 := h6.blk.some_ (i := 0) rfl
              clear hstep hf hfv h6 hk k f
              go_wp2_with fail
              refine HS.out.mono ?_
              rintro e w8 ⟨ac, rfl, k, f, hk, hf, hfv, h6⟩
              have HV := hid (And.intro hf hfv)
              clear HS hf hfv p0
              go_wp2_with fail
              refine (at_nat _ A3 n3 c3 _ x3 j (H3.out.below h6.below) l3).mono ?_
              rintro e w' ⟨rfl, rfl⟩
              generalize x3.getD j 0 = cj
              go_wp2_with fail
              refine (place_any _ _ _ (by omega) (by omega)).mono ?_
              rintro e w' ⟨rfl, rfl⟩
              generalize ho : place cj 6 = o
              have o0 : 0 ≤ o := by rw [← ho]; exact place_nonneg _ 6 (by omega)
              have o1 : o < 6 := by rw [← ho]; exact place_lt _ 6 (by omega)
              clear ho
              obtain ⟨on, rfl⟩ : ∃ on : Nat, o = on := ⟨o.toNat, by omega⟩
              obtain ⟨y, h7⟩ := (h6.pk4 [3, 0, 1, 2]).refOpen
              have ho6 : on < (D 2).length := by rw [HG.out.len]; omega
              obtain ⟨gr, _, hro⟩ := h7.refOrec ho6
              obtain ⟨q2, q3⟩ := hro w8 _ h7
              have q1 := h6.blk.some_ (i := 1) rfl
              have q0 := h6.blk.some_ (i := 0) rfl
              obtain ⟨vo, hvo⟩ : ∃ vo, vo = valC D 2 on := ⟨_, rfl⟩
              rw [← hvo] at q2
              have hvb := HG.out.val on o0 o1
              rw [← hvo] at hvb
              have HVO := hid hvo
              have i3 : (on : Int) < ((D 2).length : Int) := by omega
              have hvq : 0 ≤ vo / 64 ∧ vo / 64 ≤ 18 := by omega
              obtain ⟨vq, hvq2⟩ : ∃ vq, vq = vo / 64 := ⟨_, rfl⟩
              rw [← hvq2] at hvq
              have HVQ := hid hvq2
              have hv0 : 0 ≤ vo ∧ vo < 18446744073709551616 := by omega
              clear hro h7 hvo hvb hvq2
              go_wp2_with fail
              refine (rver_any _ vo hv0.1 hv0.2).mono ?_
              rintro e w' ⟨rfl, rfl⟩
              rw [← HVQ.out]
              go_wp2_with fail
              refine (rfree_any _ _ (by omega) (by omega)).mono ?_
              rintro e w' ⟨rfl, rfl⟩
              by_cases hj3 : j < n3
              · have e3 : decide ((j : Int) < n3) = true := decide_eq_true (by omega)
                go_wp2_with fail
                refine (pair_set w _ _ m r cf16 D 2 on _ (h6.pk4 [2, 3, 0, 1]) HD.out (HG.out.has o0 o1) (by omega)).mono ?_
                rintro e w9 ⟨rfl, h7⟩
                rw [HVQ.out, HVO.out] at h7
                have H12 : Hid (VP w gp a m r xs v C (opC D 2 on ((valC D 2 on / 64 + 1) * 64) true) (j + 1) w9) := hid ⟨k, f, hk, HV.out.1, HV.out.2, h7.pk4 [2, 3, 0, 1]⟩
                clear h6 h7 q0 q1 q2 q3
                go_wp2_with fail
                go_round
                case rel => exact ⟨j + 1, _, by omega, by go_num, HD.out.opC _ _ _ _, HG.out.set o0 o1, H12.out⟩
                case measure => simp [intOf]; omega
              · have e3 : decide ((j : Int) < n3) = false := decide_eq_false (by omega)
                have H12 : Hid (VP w gp a m r xs v C D (j + 1) w8) := hid ⟨k, f, hk, HV.out.1, HV.out.2, h6⟩
                clear h6 q0 q1 q2 q3
                go_wp2_with fail
                go_round
                case rel => exact ⟨j + 1, D, by omega, by go_num, HD.out, HG.out.next, H12.out⟩
                case measure => simp [intOf]; omega
            · obtain rfl : j = 14 := by omega
              have e2 : decide (((14 : Nat) : Int) < 14) = false := rfl
              have hxn : xs.length ≤ 12 := by rw [← HN.out]; exact hx12
              have hd : (f || (xs.drop k).isEmpty) = true := by
                cases f
                · have := hf rfl
                  simp [List.isEmpty_iff, List.drop_eq_nil_iff]; omega
                · rfl
              have hfin : f = false → fb = true := fun h => by
                rw [HFB.out, HN.out]
                have := hf h
                exact fineB_true (fun i hi => hfv h i (by omega))
              have HD2 := hid hd
              clear hd hf hfv hlt hj
              go_wp2_with fail
              refine (chk_done w _ _ a (xs.drop k) v f (h6.pk2 [1, 0])).mono ?_
              rintro e w' ⟨rfl, rfl⟩
              rw [HD2.out]
              go_wp2_with fail
              refine (chk_failed w _ _ a (xs.drop k) v f (h6.pk2 [1, 0])).mono ?_
              rintro e w' ⟨rfl, rfl⟩
              cases f
              · obtain rfl := hfin rfl
                clear hfin
                go_wp2_with fail
                refine (awake16_any w _ _ h6).mono ?_
                rintro e w7 ⟨rfl, h7⟩
                have H7 := hid h7.below
                clear h6 h7
                go_wp2_with fail
                go_ret
                exact ⟨rfl, H7.out⟩
              · clear hfin
                go_wp2_with fail
                refine (awake16_any w _ _ h6).mono ?_
                rintro e w7 ⟨rfl, h7⟩
                have H7 := hid h7.below
                clear h6 h7
                go_wp2_with fail
                go_ret
                exact ⟨rfl, H7.out⟩
end Go.Proofs.Ytfmmphabfdpegaa
