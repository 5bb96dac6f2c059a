/- strongtxlaw11: FreelistFollows. -/
import Derived.Test.YtigjpfhjddkckaaFlf
import Derived.Deep.DeepCutAuto
import Derived.Deep.CutBlock
namespace Go.Proofs.Ytigjpfhjddkckaa
open Go.RowKit
set_option linter.unusedVariables false

theorem pm_done3 (w0 w : World) (R : Asr) (m : PM) (h : Hold w0 w (pmA m * R)) : Calls Try.prog 25 #[.pointer (some ⟨m.g, 0, none⟩)] w fun e w' => e = .returned (.bool ((m.at_ : Int) == 3)) ∧ w = w' := po_done w0 w R m.g m.cl m.at_ m.hd m.nx m.bk h
theorem qm_done3 (w0 w : World) (R : Asr) (q : QM) (h : Hold w0 w (qmA q * R)) : Calls Try.prog 29 #[.pointer (some ⟨q.g, 0, none⟩)] w fun e w' => e = .returned (.bool ((q.at_ : Int) == 3)) ∧ w = w' := pu_done w0 w R q.g q.cl q.bk q.at_ q.hd h
set_option maxRecDepth 8000 in
set_option maxHeartbeats 16000000 in
theorem freelistFollows_any (A0 A1 : Option Addr) (n0 c0 n1 c1 bb0 bb1 : Nat) (x0 x1 : List Int) (w : World) (hA0 : Reads w bb0 A0 n0 (x0.map (Value.int .i64))) (hA1 : Reads w bb1 A1 n1 (x1.map (Value.int .i64))) (le0 : n0 ≤ 9223372036854775807) (le1 : n1 ≤ 9223372036854775807) :
    Calls Try.prog 3 #[.slice A0 n0 c0, .slice A1 n1 c1] w (fun e w' => e = .returned (.bool true) ∧ Below w.heap.size w w') := by
  obtain ⟨iI, hiI, hzI0, hzI1, hzI2⟩ := info_parts info_intF
  have HX0 := hid hA0
  have HX1 := hid hA1
  clear hA0 hA1
  by_cases hp : 90 < n1
  · have ep : decide ((90 : Int) < (n1 : Int)) = true := decide_eq_true (by omega)
    have h := Hold.start w
    go_enter Try.func3, Try.ntmps3
    go_wp2_with fail
    refine (awake11_any w _ _ h).mono ?_
    rintro e v5 ⟨rfl, h6⟩
    have H6 := hid h6.below
    clear h h6
    go_wp2_with fail
    go_ret
    exact ⟨rfl, H6.out⟩
  have ep : decide ((90 : Int) < (n1 : Int)) = false := decide_eq_false (by omega)
  go_enter Try.func3, Try.ntmps3
  go_wp2_with fail
  refine (heap11_any w _ _ (Hold.start w)).mono ?_
  rintro e u1 ⟨rfl, h1⟩
  go_wp2_with fail
  refine (lab_start w _ _ cfH 4 cfH_ok (by decide) h1).mono ?_
  rintro e u2 ⟨m, r, rfl, h2⟩
  replace h2 : Hold w u2 (memA m (cH 4) * (refA r cfH (cH 4) * Asr.emp)) := h2
  have HV := hid (cH_fv (th := 4) (by decide))
  generalize cH 4 = C0 at h2 HV
  have H3 := hid ((h2.newBlk (t := 27) (cs := #[.pointer (some ⟨m, 0, none⟩), .pointer (some ⟨r, 0, none⟩)])).pk3 [1, 2, 0])
  clear h1 h2
  have H3 := hid (H3.out.newBlk (t := 40) (cs := #[.pointer none, .pointer none, .pointer none, .pointer none, .pointer none, .pointer none, .pointer none, .pointer none, .pointer none, .pointer none, .pointer none, .pointer none, .pointer none, .pointer none, .pointer none, .pointer none]))
  simp only [World.size_alloc] at H3
  go_wp2_with fail
  have h3 := H3.out
  generalize hW : World.alloc _ _ = W3 at h3 ⊢
  clear hW H3 ep
  generalize u2.heap.size + 1 = gm at h3 ⊢
  generalize u2.heap.size = gp at h3 ⊢
  have h4 : Hold w W3 (MS gm [.idle, .idle, .idle, .idle] * (queA 3 (.slice none 0 0) ((toI []).map (Value.int .i64)) * (memA m C0 * (refA r cfH C0 * (prA gp m r * Asr.emp))))) := by
    have ha : Hold w W3 (blkF gm (msF [.idle, .idle, .idle, .idle]) * (memA m C0 * (refA r cfH C0 * (prA gp m r * Asr.emp)))) := h3.pk4 [0, 1, 2, 3]
    have hb : Hold w W3 (MS gm [.idle, .idle, .idle, .idle] * (memA m C0 * (refA r cfH C0 * (prA gp m r * Asr.emp)))) := Hold.join (ha.imp (Imp.under _ (Imp.objsEmp (f := FM3.o) (xs := [.idle, .idle, .idle, .idle]) (fun x hx => by simp at hx; subst hx; rfl))))
    have hc := hb.nilQue 3
    exact hc.pk2 [1, 0]
  have HK0 : Hid (RF hs0 ns0 L0 [] [.idle, .idle, .idle, .idle] 0 0) := hid ⟨ki0 _ _ (by simp [FM3.p]) (by simp [FM3.q]), rfl, fun t mm g hk => by
    match t, hk with
    | 0, hk => cases hk
    | 1, hk => cases hk
    | 2, hk => cases hk
    | 3, hk => cases hk
    | t + 4, hk => simp at hk, Nat.le_refl _⟩
  clear h3
  go_loopw [8, 9, 10] (fun hv s j wr => ∃ (i q : Nat) (C : Nat → List Int) (hs ns : List Int) (L : Nat → List Nat) (held : List Nat) (ms : List FM3), i ≤ n1 ∧ q ≤ i ∧ j = .int .i64 i ∧ s = .int .i64 q ∧ FV C hs ns ∧ RF hs ns L held ms i i ∧ Hold w wr (MS gm ms * (queA 3 hv ((toI held).map (Value.int .i64)) * (memA m C * (refA r cfH C * (prA gp m r * Asr.emp)))))) (fun _ _ j _ => n1 - (intOf j).toNat)
  case atStart => exact ⟨0, 0, C0, hs0, ns0, L0, [], _, by omega, by omega, rfl, rfl, HV.out, HK0.out, h4⟩
  case round =>
    as_aux_lemma =>
    clear h4 HK0 HV
    obtain ⟨i, q, C, hs, ns, L, held, ms, hi, hqi, rfl, rfl, hvv, hk, h⟩ := hrel
    have HV := hid hvv
    have HK := hid hk
    have ib : (i : Int) + 1 ≤ 1000 := by omega
    clear hvv hk
    by_cases hlt : i < n1
    · have e1 : decide ((i : Int) < (n1 : Int)) = true := decide_eq_true (by omega)
      have i0 : (0 : Int) ≤ (i : Int) := by omega
      have i1 : (i : Int) < (n1 : Int) := by omega
      obtain ⟨ad, rfl, _, hcell⟩ := (HX1.out.below h.below).numAt hlt
      obtain ⟨z, hz⟩ : ∃ z, z = x1.getD i 0 := ⟨_, rfl⟩
      rw [← hz] at hcell
      have HZ := hid hz
      clear hz
      obtain ⟨t, ht⟩ : ∃ t : Nat, place z 4 = t := ⟨(place z 4).toNat, by have := place_nonneg z 4 (by omega); omega⟩
      have t4 : t < 4 := by have := place_lt z 4 (by omega); omega
      have t4' : (t : Int) < 4 := by omega
      have t0' : (0 : Int) ≤ (t : Int) := by omega
      have Ht := hid ht
      have tl : t < ms.length := by rw [HK.out.ml]; exact t4
      clear ht
      go_wp2_with fail
      refine (place_any _ _ _ (by omega) (by omega)).mono ?_
      rintro e w' ⟨rfl, rfl⟩
      rw [Ht.out]
      clear Ht hcell
      obtain ⟨x, hx⟩ : ∃ x, ms[t]? = some x := ⟨_, List.getElem?_eq_getElem tl⟩
      have k0 : wr.cell? ⟨gm, t * 4, none⟩ = some (x.c 0) := ms_cell h hx t4 (f := 0) (by omega)
      have k1 : wr.cell? ⟨gm, t * 4 + 1, none⟩ = some (x.c 1) := ms_cell h hx t4 (f := 1) (by omega)
      have HX := hid hx
      clear hx
      go_upto_region 13 with fail
      go_cut [8, 48] (fun hv b wx => Hold w wx (MS gm ms * (queA 3 hv ((toI held).map (Value.int .i64)) * (memA m C * (refA r cfH C * (prA gp m r * Asr.emp))))) ∧ ∃ bb : Bool, b = .bool bb ∧ (bb = true ∧ x = .idle ∨ bb = false ∧ x ≠ .idle))
      case first =>
        as_aux_lemma =>
        cases x with
        | idle =>
          as_aux_lemma =>
          replace k0 : wr.cell? ⟨gm, t * 4, none⟩ = some (.pointer none) := k0
          replace k1 : wr.cell? ⟨gm, t * 4 + 1, none⟩ = some (.pointer none) := k1
          go_wp2_with fail
          go_meet
          exact ⟨h, true, rfl, .inl ⟨rfl, rfl⟩⟩
        | pop pm g' =>
          as_aux_lemma =>
          replace k0 : wr.cell? ⟨gm, t * 4, none⟩ = some (.pointer (some ⟨pm.g, 0, none⟩)) := k0
          replace k1 : wr.cell? ⟨gm, t * 4 + 1, none⟩ = some (.pointer none) := k1
          go_wp2_with fail
          go_meet
          exact ⟨h, false, rfl, .inr ⟨rfl, fun h => by cases h⟩⟩
        | push qm g' =>
          as_aux_lemma =>
          replace k0 : wr.cell? ⟨gm, t * 4, none⟩ = some (.pointer none) := k0
          replace k1 : wr.cell? ⟨gm, t * 4 + 1, none⟩ = some (.pointer (some ⟨qm.g, 0, none⟩)) := k1
          go_wp2_with fail
          go_meet
          exact ⟨h, false, rfl, .inr ⟨rfl, fun h => by cases h⟩⟩
      case rest =>
      as_aux_lemma =>
      clear h k0 k1
      obtain ⟨h, bb, rfl, hbb⟩ := hcut
      have HBB := hid hbb
      clear hbb
      go_upto_if 48 with fail
      go_cut [8, 9, 10, 11] (fun hv s j tt wx => j = .int .i64 i ∧ tt = .int .i64 t ∧ ∃ (q : Nat) (held : List Nat) (ms : List FM3) (x : FM3), s = .int .i64 q ∧ q ≤ i + 1 ∧ RF hs ns L held ms i i ∧ ms[t]? = some x ∧ x ≠ .idle ∧ Hold w wx (MS gm ms * (queA 3 hv ((toI held).map (Value.int .i64)) * (memA m C * (refA r cfH C * (prA gp m r * Asr.emp))))))
      case first =>
        as_aux_lemma =>
        cases bb with
        | false =>
          as_aux_lemma =>
          have hne : x ≠ .idle := HBB.out.elim (fun h => by cases h.1) (fun h => h.2)
          go_wp2_with fail
          go_meet
          exact ⟨rfl, rfl, q, held, ms, x, rfl, by omega, HK.out, HX.out, hne, h⟩
        | true =>
          as_aux_lemma =>
          have hxi : x = .idle := HBB.out.elim (fun h => h.2) (fun h => by cases h.1)
          subst hxi
          clear HBB
          obtain ⟨ad2, hA2, _, hcell⟩ := (HX1.out.below h.below).numAt hlt
          obtain rfl := Option.some.inj hA2
          rw [← HZ.out] at hcell
          obtain ⟨Ah, ch, hvf⟩ := (h.pk2 [1]).queForm
          rw [show ((toI held).map (Value.int .i64)).length = held.length by simp [toI]] at hvf
          subst hvf
          clear hA2
          cases held with
          | nil =>
            as_aux_lemma =>
            rw [show ([] : List Nat).length = 0 from rfl] at h ⊢
            go_wp2_with fail
            clear hcell
            have hat := at_nat _ A0 n0 c0 _ x0 (q + 1) (HX0.out.below h.below) le0
            rw [show ((q + 1 : Nat) : Int) = (q : Int) + 1 by simp] at hat
            refine hat.mono ?_
            rintro e w' ⟨rfl, rfl⟩
            clear hat
            generalize x0.getD (q + 1) 0 = z2
            obtain ⟨kc, hkc⟩ : ∃ kc : Nat, place z2 4 = kc := ⟨(place z2 4).toNat, by have := place_nonneg z2 4 (by omega); omega⟩
            have kc4 : kc < 4 := by have := place_lt z2 4 (by omega); omega
            have HKC := hid hkc
            clear hkc
            go_wp2_with fail
            refine (place_any _ _ _ (by omega) (by omega)).mono ?_
            rintro e w' ⟨rfl, rfl⟩
            rw [HKC.out]
            clear HKC
            go_upto_region 21 with fail
            replace h := h.drew
            refine wp_region_brk [] (by kernel_rfl) ?_
            refine' wpAnyB_bulk [true, true, true, false, true] 235 (listed' := #[true, true, true, false, true, false, false, false, false, false, false, false]) rfl (by kernel_rfl) (by kernel_rfl) (by kernel_rfl) (by kernel_rfl) (by kernel_rfl) (by kernel_rfl) (by decide) (fun _ _ _ _ h => h) rfl trivial (fun wq hq => ?_) ?_; rotate_left 1
            · simp only [maskL]
              repeat (go_big_quiet_step (fail))
              exact wpQuiet_nil rfl
            refine wpAnyB_bar [false, false, false, true] (fuel := 7) (by rfl) (by rfl) (by kernel_rfl) (fun QB hQB hQX => ?_)
            simp only [maskL]
            go_wp2_with fail
            refine (po_new w _ _ kc h).mono ?_
            rintro e v8 ⟨g, rfl, h8⟩
            clear h
            go_wp2_with fail
            refine hQB.out _ _ trivial ?_
            clear hQB hQX QB
            refine' wpAnyB_bulk [false, false, false, false, false, false, true, true] 235 (listed' := #[true, true, true, true, true, false, true, true, false, false, false, false]) rfl (by kernel_rfl) (by kernel_rfl) (by kernel_rfl) (by kernel_rfl) (by kernel_rfl) (by kernel_rfl) (by decide) (fun _ _ _ _ h => h) rfl trivial (fun wq hq => ?_) ?_; rotate_left 1
            · simp only [maskL]
              repeat (go_big_quiet_step (fail))
              exact wpQuiet_nil rfl
            refine wpAnyB_bar [false, false, false, false, false, true] (fuel := 4) (by rfl) (by rfl) (by kernel_rfl) (fun QB hQB hQX => ?_)
            simp only [maskL]
            go_wp2_with fail
            refine (qo_new w _ _ kc h8).mono ?_
            rintro e v9 ⟨g', rfl, h9⟩
            clear h8
            go_wp2_with fail
            refine hQB.out _ _ trivial ?_
            clear hQB hQX QB
            have h10 : Hold w v9 (MS gm ms * (pmA ⟨g, kc, 0, 0, 0, -1⟩ * (rpA (rpm ⟨g, kc, 0, 0, 0, -1⟩ g') * _))) := h9.pk3 [2, 1, 0]
            clear h9
            have h10 := h10.part
            refine wpAnyB_bar [false, false, false, false, false, false, false, false, true] (fuel := 3) (by rfl) (by rfl) (by kernel_rfl) (fun QB hQB hQX => ?_)
            simp only [maskL]
            have p2 := blkF_get (i := t * 4) h10 (by omega)
            have z2 := blkF_frozen h10 (t * 4)
            have H11 := hid (blkF_set (i := t * 4) h10 (by omega) (pv g))
            clear h10
            go_wp2_with fail
            refine hQB.out _ _ trivial ?_
            have h11 := H11.out
            unfold pv at h11
            generalize hW : World.setCell _ _ _ = W11 at h11 ⊢
            clear hQB hQX QB hW H11 p2 z2
            refine' wpAnyB_bulk [false, false, false, false, false, false, false, false, false, true, true] 235 (listed' := #[true, true, true, true, true, true, true, true, true, true, true, false]) rfl (by kernel_rfl) (by kernel_rfl) (by kernel_rfl) (by kernel_rfl) (by kernel_rfl) (by kernel_rfl) (by decide) (fun _ _ _ _ h => h) rfl trivial (fun wq hq => ?_) ?_; rotate_left 1
            · simp only [maskL]
              repeat (go_big_quiet_step (fail))
              exact wpQuiet_nil rfl
            refine wpAnyB_bar [false, false, false, false, false, false, false, false, false, false, false, true] (fuel := 0) (by rfl) (by rfl) (by kernel_rfl) (fun QB hQB hQX => ?_)
            simp only [maskL]
            have p2 := blkF_get (i := t * 4 + 2) h11 (by omega)
            have z2 := blkF_frozen h11 (t * 4 + 2)
            have H12 := hid (blkF_set (i := t * 4 + 2) h11 (by omega) (.pointer (some ⟨g', 0, none⟩)))
            clear h11
            go_wp2_with fail
            refine hQB.out _ _ trivial ?_
            have h12 := H12.out
            generalize hW : World.setCell _ _ _ = W12 at h12 ⊢
            clear hQB hQX QB hW H12 p2 z2
            refine wpAnyB_done (by kernel_rfl) ?_ _
            have h13 : Hold w W12 ((FM3.pop ⟨g, kc, 0, 0, 0, -1⟩ g').o * (blkF gm _ * (objs FM3.o ms * _))) := (h12.pk4 [2, 3, 0, 1]).join
            have H14 := hid (ms_new h13 tl HK.out.ml (new_pop ⟨g, kc, 0, 0, 0, -1⟩ g' HX.out))
            have HRF := hid (HK.out.newPop HX.out kc4 g g')
            clear h12 h13
            go_wp2_with fail
            go_meet
            exact ⟨rfl, rfl, q + 1, _, _, _, by simp, by omega, HRF.out, List.getElem?_set_self tl, (by intro h; cases h), H14.out⟩
          | cons b held =>
            rw [show (b :: held).length = held.length + 1 from rfl] at h ⊢
            obtain ⟨n', hn'⟩ : ∃ n', n' = held.length := ⟨_, rfl⟩
            rw [← hn'] at h ⊢
            have HN' := hid hn'
            have e3 : decide ((0 : Int) < (n' : Int) + 1) = true := decide_eq_true (by omega)
            clear hn'
            go_wp2_with fail
            refine (place_any _ _ _ (by omega) (by omega)).mono ?_
            rintro e w' ⟨rfl, rfl⟩
            generalize place _ 2 = d
            by_cases hd : d = 0
            · subst hd
              clear hcell e3
              have hqf : Hold w wc (queA 3 (.slice Ah (n' + 1) ch) (.int .i64 b :: (toI held).map (Value.int .i64)) * _) := h.pk2 [1, 0]
              obtain ⟨ah, rfl⟩ := queSome hqf
              have hb0 : wc.cell? ah = some (.int .i64 b) := by
                have := Hold.queAt hqf (k := 0) (u := .int .i64 b) rfl
                rw [add_zeroF] at this; exact this
              have hb6 : b < 6 := HK.out.ki.hd b (by simp)
              have t1 := fun w => slice_tailP (P := Try.prog) 22 (by kernel_rfl) sz_intF w ah n' ch
              obtain ⟨A2, hA2⟩ : ∃ A2, A2 = if ch = 1 then some ah else some (ah.add 1) := ⟨_, rfl⟩
              rw [← hA2] at t1
              have h11 : Hold w wc (queA 3 (.slice A2 n' (ch - 1)) ((toI held).map (Value.int .i64)) * (MS gm ms * (memA m C * (refA r cfH C * (prA gp m r * Asr.emp))))) := by
                rw [hA2]; exact hqf.imp (Imp.on _ (Imp.queTail 3 ah n' ch _ _))
              clear hqf h hA2
              go_wp2_with fail
              refine (heap11_any w _ _ h11).mono ?_
              rintro e v6 ⟨rfl, h6⟩
              clear h11 t1 hb0
              go_wp2_with fail
              refine (rclass_any _ cfH b cfH_ok (by show b < 6; exact hb6)).mono ?_
              rintro e v7 ⟨rfl, hc7⟩
              rw [cls_cfH hb6]
              have h7 := h6.chg0 hc7
              clear h6 hc7
              go_upto_region 19 with fail
              replace h7 := h7.drew
              refine wp_region_brk [] (by kernel_rfl) ?_
              refine' wpAnyB_bulk [true, true, true, true, false, true, true] 235 (listed' := #[true, true, true, true, false, true, true, false, false, false, false, false, false, false]) rfl (by kernel_rfl) (by kernel_rfl) (by kernel_rfl) (by kernel_rfl) (by kernel_rfl) (by kernel_rfl) (by decide) (fun _ _ _ _ h => h) rfl trivial (fun wq hq => ?_) ?_; rotate_left 1
              · simp only [maskL]
                repeat (go_big_quiet_step (fail))
                exact wpQuiet_nil rfl
              refine wpAnyB_bar [false, false, false, false, true] (fuel := 7) (by rfl) (by rfl) (by kernel_rfl) (fun QB hQB hQX => ?_)
              simp only [maskL]
              go_wp2_with fail
              refine (pu_new w _ _ (fcls b) b h7).mono ?_
              rintro e v8 ⟨g, rfl, h8⟩
              clear h7
              go_wp2_with fail
              refine hQB.out _ _ trivial ?_
              clear hQB hQX QB
              refine' wpAnyB_bulk [false, false, false, false, false, false, false, false, true, true] 235 (listed' := #[true, true, true, true, true, true, true, false, true, true, false, false, false, false]) rfl (by kernel_rfl) (by kernel_rfl) (by kernel_rfl) (by kernel_rfl) (by kernel_rfl) (by kernel_rfl) (by decide) (fun _ _ _ _ h => h) rfl trivial (fun wq hq => ?_) ?_; rotate_left 1
              · simp only [maskL]
                repeat (go_big_quiet_step (fail))
                exact wpQuiet_nil rfl
              refine wpAnyB_bar [false, false, false, false, false, false, false, true] (fuel := 4) (by rfl) (by rfl) (by kernel_rfl) (fun QB hQB hQX => ?_)
              simp only [maskL]
              go_wp2_with fail
              refine (qu_new w _ _ (fcls b) b h8).mono ?_
              rintro e v9 ⟨g', rfl, h9⟩
              clear h8
              go_wp2_with fail
              refine hQB.out _ _ trivial ?_
              clear hQB hQX QB
              have h10 : Hold w v9 (MS gm ms * (qmA ⟨g, fcls b, b, 0, 0⟩ * (rqA (rqm ⟨g, fcls b, b, 0, 0⟩ g') * (queA 3 (.slice A2 n' (ch - 1)) ((toI held).map (Value.int .i64)) * (memA m C * (refA r cfH C * (prA gp m r * Asr.emp))))))) := h9.pk6 [3, 1, 0, 2, 4, 5]
              clear h9
              have h10 := h10.part
              refine wpAnyB_bar [false, false, false, false, false, false, false, false, false, false, true] (fuel := 3) (by rfl) (by rfl) (by kernel_rfl) (fun QB hQB hQX => ?_)
              simp only [maskL]
              have p2 := blkF_get (i := t * 4 + 1) h10 (by omega)
              have z2 := blkF_frozen h10 (t * 4 + 1)
              have H11 := hid (blkF_set (i := t * 4 + 1) h10 (by omega) (pv g))
              clear h10
              go_wp2_with fail
              refine hQB.out _ _ trivial ?_
              have h11 := H11.out
              unfold pv at h11
              generalize hW : World.setCell _ _ _ = W11 at h11 ⊢
              clear hQB hQX QB hW H11 p2 z2
              refine' wpAnyB_bulk [false, false, false, false, false, false, false, false, false, false, false, true, true] 235 (listed' := #[true, true, true, true, true, true, true, true, true, true, true, true, true, false]) rfl (by kernel_rfl) (by kernel_rfl) (by kernel_rfl) (by kernel_rfl) (by kernel_rfl) (by kernel_rfl) (by decide) (fun _ _ _ _ h => h) rfl trivial (fun wq hq => ?_) ?_; rotate_left 1
              · simp only [maskL]
                repeat (go_big_quiet_step (fail))
                exact wpQuiet_nil rfl
              refine wpAnyB_bar [false, false, false, false, false, false, false, false, false, false, false, false, false, true] (fuel := 0) (by rfl) (by rfl) (by kernel_rfl) (fun QB hQB hQX => ?_)
              simp only [maskL]
              have p2 := blkF_get (i := t * 4 + 3) h11 (by omega)
              have z2 := blkF_frozen h11 (t * 4 + 3)
              have H12 := hid (blkF_set (i := t * 4 + 3) h11 (by omega) (.pointer (some ⟨g', 0, none⟩)))
              clear h11
              go_wp2_with fail
              refine hQB.out _ _ trivial ?_
              have h12 := H12.out
              generalize hW : World.setCell _ _ _ = W12 at h12 ⊢
              clear hQB hQX QB hW H12 p2 z2
              refine wpAnyB_done (by kernel_rfl) ?_ _
              have h13 : Hold w W12 ((FM3.push ⟨g, fcls b, b, 0, 0⟩ g').o * (blkF gm _ * (objs FM3.o ms * (queA 3 (.slice A2 n' (ch - 1)) ((toI held).map (Value.int .i64)) * (memA m C * (refA r cfH C * (prA gp m r * Asr.emp))))))) := (h12.pk4 [2, 3, 0, 1]).join
              have h14 := ms_new h13 tl HK.out.ml (new_push ⟨g, fcls b, b, 0, 0⟩ g' HX.out)
              have H14 := hid h14
              have HRF := hid (HK.out.newPush HX.out g g')
              clear h12 h13 h14
              go_wp2_with fail
              go_meet
              exact ⟨rfl, rfl, q + 1, held, _, _, by simp, by omega, HRF.out, List.getElem?_set_self tl, (by intro h; cases h), H14.out⟩
            · have ed : (d == 0) = false := by simp [hd]
              go_wp2_with fail
              clear hcell
              have hat := at_nat _ A0 n0 c0 _ x0 (q + 1) (HX0.out.below h.below) le0
              rw [show ((q + 1 : Nat) : Int) = (q : Int) + 1 by simp] at hat
              refine hat.mono ?_
              rintro e w' ⟨rfl, rfl⟩
              clear hat
              generalize x0.getD (q + 1) 0 = z2
              obtain ⟨kc, hkc⟩ : ∃ kc : Nat, place z2 4 = kc := ⟨(place z2 4).toNat, by have := place_nonneg z2 4 (by omega); omega⟩
              have kc4 : kc < 4 := by have := place_lt z2 4 (by omega); omega
              have HKC := hid hkc
              clear hkc
              go_wp2_with fail
              refine (place_any _ _ _ (by omega) (by omega)).mono ?_
              rintro e w' ⟨rfl, rfl⟩
              rw [HKC.out]
              clear HKC
              go_upto_region 21 with fail
              replace h := h.drew
              refine wp_region_brk [] (by kernel_rfl) ?_
              refine' wpAnyB_bulk [true, true, true, false, true] 235 (listed' := #[true, true, true, false, true, false, false, false, false, false, false, false]) rfl (by kernel_rfl) (by kernel_rfl) (by kernel_rfl) (by kernel_rfl) (by kernel_rfl) (by kernel_rfl) (by decide) (fun _ _ _ _ h => h) rfl trivial (fun wq hq => ?_) ?_; rotate_left 1
              · simp only [maskL]
                repeat (go_big_quiet_step (fail))
                exact wpQuiet_nil rfl
              refine wpAnyB_bar [false, false, false, true] (fuel := 7) (by rfl) (by rfl) (by kernel_rfl) (fun QB hQB hQX => ?_)
              simp only [maskL]
              go_wp2_with fail
              refine (po_new w _ _ kc h).mono ?_
              rintro e v8 ⟨g, rfl, h8⟩
              clear h
              go_wp2_with fail
              refine hQB.out _ _ trivial ?_
              clear hQB hQX QB
              refine' wpAnyB_bulk [false, false, false, false, false, false, true, true] 235 (listed' := #[true, true, true, true, true, false, true, true, false, false, false, false]) rfl (by kernel_rfl) (by kernel_rfl) (by kernel_rfl) (by kernel_rfl) (by kernel_rfl) (by kernel_rfl) (by decide) (fun _ _ _ _ h => h) rfl trivial (fun wq hq => ?_) ?_; rotate_left 1
              · simp only [maskL]
                repeat (go_big_quiet_step (fail))
                exact wpQuiet_nil rfl
              refine wpAnyB_bar [false, false, false, false, false, true] (fuel := 4) (by rfl) (by rfl) (by kernel_rfl) (fun QB hQB hQX => ?_)
              simp only [maskL]
              go_wp2_with fail
              refine (qo_new w _ _ kc h8).mono ?_
              rintro e v9 ⟨g', rfl, h9⟩
              clear h8
              go_wp2_with fail
              refine hQB.out _ _ trivial ?_
              clear hQB hQX QB
              have h10 : Hold w v9 (MS gm ms * (pmA ⟨g, kc, 0, 0, 0, -1⟩ * (rpA (rpm ⟨g, kc, 0, 0, 0, -1⟩ g') * _))) := h9.pk3 [2, 1, 0]
              clear h9
              have h10 := h10.part
              refine wpAnyB_bar [false, false, false, false, false, false, false, false, true] (fuel := 3) (by rfl) (by rfl) (by kernel_rfl) (fun QB hQB hQX => ?_)
              simp only [maskL]
              have p2 := blkF_get (i := t * 4) h10 (by omega)
              have z2 := blkF_frozen h10 (t * 4)
              have H11 := hid (blkF_set (i := t * 4) h10 (by omega) (pv g))
              clear h10
              go_wp2_with fail
              refine hQB.out _ _ trivial ?_
              have h11 := H11.out
              unfold pv at h11
              generalize hW : World.setCell _ _ _ = W11 at h11 ⊢
              clear hQB hQX QB hW H11 p2 z2
              refine' wpAnyB_bulk [false, false, false, false, false, false, false, false, false, true, true] 235 (listed' := #[true, true, true, true, true, true, true, true, true, true, true, false]) rfl (by kernel_rfl) (by kernel_rfl) (by kernel_rfl) (by kernel_rfl) (by kernel_rfl) (by kernel_rfl) (by decide) (fun _ _ _ _ h => h) rfl trivial (fun wq hq => ?_) ?_; rotate_left 1
              · simp only [maskL]
                repeat (go_big_quiet_step (fail))
                exact wpQuiet_nil rfl
              refine wpAnyB_bar [false, false, false, false, false, false, false, false, false, false, false, true] (fuel := 0) (by rfl) (by rfl) (by kernel_rfl) (fun QB hQB hQX => ?_)
              simp only [maskL]
              have p2 := blkF_get (i := t * 4 + 2) h11 (by omega)
              have z2 := blkF_frozen h11 (t * 4 + 2)
              have H12 := hid (blkF_set (i := t * 4 + 2) h11 (by omega) (.pointer (some ⟨g', 0, none⟩)))
              clear h11
              go_wp2_with fail
              refine hQB.out _ _ trivial ?_
              have h12 := H12.out
              generalize hW : World.setCell _ _ _ = W12 at h12 ⊢
              clear hQB hQX QB hW H12 p2 z2
              refine wpAnyB_done (by kernel_rfl) ?_ _
              have h13 : Hold w W12 ((FM3.pop ⟨g, kc, 0, 0, 0, -1⟩ g').o * (blkF gm _ * (objs FM3.o ms * _))) := (h12.pk4 [2, 3, 0, 1]).join
              have H14 := hid (ms_new h13 tl HK.out.ml (new_pop ⟨g, kc, 0, 0, 0, -1⟩ g' HX.out))
              have HRF := hid (HK.out.newPop HX.out kc4 g g')
              clear h12 h13
              go_wp2_with fail
              go_meet
              exact ⟨rfl, rfl, q + 1, _, _, _, by simp, by omega, HRF.out, List.getElem?_set_self tl, (by intro h; cases h), H14.out⟩
      case rest =>
      clear h HBB HK HX tl
      obtain ⟨rfl, rfl, q, held, ms, x, rfl, hq, hk, hx, hne, h⟩ := hcut
      have HK := hid hk
      have HX := hid hx
      have tl : t < ms.length := by rw [HK.out.ml]; exact t4
      have k0 : wc.cell? ⟨gm, t * 4, none⟩ = some (x.c 0) := ms_cell h hx t4 (f := 0) (by omega)
      have k1 : wc.cell? ⟨gm, t * 4 + 1, none⟩ = some (x.c 1) := ms_cell h hx t4 (f := 1) (by omega)
      clear hk hx hqi
      cases x with
      | idle => exact absurd rfl hne
      | pop pm g' =>
        as_aux_lemma =>
        replace k0 : wc.cell? ⟨gm, t * 4, none⟩ = some (.pointer (some ⟨pm.g, 0, none⟩)) := k0
        replace k1 : wc.cell? ⟨gm, t * 4 + 1, none⟩ = some (.pointer none) := k1
        go_upto_if 113 with fail
        clear k0 k1
        go_cut [8, 10, 11] (fun hv j tt wx => j = .int .i64 i ∧ tt = .int .i64 t ∧ ∃ (C : Nat → List Int) (hs ns : List Int) (L : Nat → List Nat) (held : List Nat) (ms : List FM3), FV C hs ns ∧ RF hs ns L held ms (i + 1) (i + 1) ∧ Hold w wx (MS gm ms * (queA 3 hv ((toI held).map (Value.int .i64)) * (memA m C * (refA r cfH C * (prA gp m r * Asr.emp))))))
        case rest =>
          as_aux_lemma =>
          clear h HV HK HX
          obtain ⟨rfl, rfl, C2, hs, ns, L, held, ms, hvv, hk, h12⟩ := hcut
          have HV2 := hid hvv
          have HRF := hid hk
          clear hvv hk
          have p0 := (h12.pk5 [4]).blk.some_ (i := 0) rfl
          have p1 := (h12.pk5 [4]).blk.some_ (i := 1) rfl
          go_wp2_with fail
          refine (pair_same w _ _ m r cfH C2 (h12.pk4 [2, 3, 0, 1]) HV2.out.ok).mono ?_
          rintro e v13 ⟨rfl, h13⟩
          have H13 := hid (h13.pk4 [2, 3, 0, 1])
          clear h12 h13 p0 p1
          go_wp2_with fail
          go_round
          case rel => exact ⟨i + 1, q, C2, _, _, _, _, _, by omega, by omega, by go_num, rfl, HV2.out, HRF.out, H13.out⟩
          case measure => simp [intOf]; omega
        case first =>
        as_aux_lemma =>
        obtain ⟨m2, hm2⟩ : ∃ m2, m2 = popN hs ns pm := ⟨_, rfl⟩
        obtain ⟨ac, hac⟩ : ∃ ac, ac = popA hs ns pm := ⟨_, rfl⟩
        obtain ⟨C2, hC2⟩ : ∃ C2, C2 = popC C pm := ⟨_, rfl⟩
        have hg2 : m2.g = pm.g := by rw [hm2]; exact popN_gk _ _ _
        have hst := HK.out.popStep ib HX.out
        have hpw := HK.out.ki.px t pm (RF.p_at HX.out)
        rw [← hm2] at hst
        have HST := hid hst
        have HPW := hid hpw
        have HM2 := hid (And.intro hm2 hg2)
        have HAC := hid hac
        have HC2 := hid hC2
        have HV2 : Hid (FV C2 (popH hs pm) ns) := hid (by rw [hC2]; exact popC_fv HV.out HK.out.ki.fi hpw)
        clear hm2 hac hC2 hg2 hst hpw hne
        have h5 : Hold w wc (pmA pm * (rpA (rpm pm g') * (MH gm ms t * (queA 3 u8 ((toI held).map (Value.int .i64)) * (memA m C * (refA r cfH C * (prA gp m r * Asr.emp))))))) := (ms_take h HX.out).part
        clear h
        have et : (((m2.at_ : Int) == 3) != ((m2.at_ : Int) == 3)) = false := by simp
        have ebk : (m2.bk != m2.bk) = false := by simp
        go_upto_region 25 with fail
        replace h5 := h5.drew
        refine wp_region_brk [] (by kernel_rfl) ?_
        refine wpAnyB_now (fun w' => w'.cell? ⟨gm, t * 4, none⟩ = some (.pointer (some ⟨pm.g, 0, none⟩)) ∧ w'.cell? ⟨gm, t * 4 + 2, none⟩ = some (.pointer (some ⟨g', 0, none⟩)) ∧ w'.cell? ⟨gp, 0, none⟩ = some (.pointer (some ⟨m, 0, none⟩)) ∧ w'.cell? ⟨gp, 1, none⟩ = some (.pointer (some ⟨r, 0, none⟩))) (fun _ _ => trivial) _ _ _ _ ?_
        refine' wpAnyB_bulk [true, true, true, true, true, true, false, true, true, true, true, true, true] 235 (listed' := #[true, true, true, true, true, true, false, true, true, true, true, true, true, false, false, false, false, false, false, false, false, false, false, false, false, false, false, false, false, false, false, false, false, false, false, false, false, false, false, false, false, false, false, false, false, false]) rfl (by kernel_rfl) (by kernel_rfl) (by kernel_rfl) (by kernel_rfl) (by kernel_rfl) (by kernel_rfl) (by decide) (fun _ _ _ _ h => h) rfl ⟨mh_cell (f := 0) (h5.pk3 [2]) HX.out t4 (by omega), mh_cell (f := 2) (h5.pk3 [2]) HX.out t4 (by omega), (h5.pk7 [6]).blk.some_ (i := 0) rfl, (h5.pk7 [6]).blk.some_ (i := 1) rfl⟩ (fun wq hq => ?_) ?_; rotate_left 1
        · simp only [maskL]
          obtain ⟨q1, q2, q3, q4⟩ := hq
          repeat (go_big_quiet_step (fail))
          exact wpQuiet_nil rfl
        refine wpAnyB_bar [false, false, false, false, false, false, true] (fuel := 33) (by rfl) (by rfl) (by kernel_rfl) (fun QB hQB hQX => ?_)
        simp only [maskL]
        go_wp2_with fail
        refine (po_step w _ _ m C hs ns i pm (h5.pk5 [0, 4, 1, 2, 3]) HV.out HK.out.ki.fi (by omega) HPW.out).mono ?_
        rintro e v6 ⟨rfl, h6⟩
        rw [← HM2.out.1, ← HC2.out] at h6
        rw [← HAC.out]
        clear h5
        go_wp2_with fail
        refine hQB.out _ _ ⟨mh_cell (f := 0) (h6.pk4 [3]) HX.out t4 (by omega), mh_cell (f := 2) (h6.pk4 [3]) HX.out t4 (by omega), (h6.pk7 [6]).blk.some_ (i := 0) rfl, (h6.pk7 [6]).blk.some_ (i := 1) rfl⟩ ?_
        clear hQB hQX QB
        refine wpAnyB_bar [false, false, false, false, false, false, false, false, false, false, false, false, false, true] (fuel := 32) (by rfl) (by rfl) (by kernel_rfl) (fun QB hQB hQX => ?_)
        simp only [maskL]
        go_wp2_with fail
        refine (qo_step w _ _ r cfH C hs ns i (rpm pm g') (h6.pk6 [2, 5, 0, 1, 3, 4]) HV.out HK.out.ki.fi (by omega) (PW.rpm HPW.out g')).mono ?_
        rintro e v7 ⟨rfl, h7⟩
        rw [show popA hs ns (rpm pm g') = ac from HAC.out.symm]
        rw [popN_rpm, ← HM2.out.1, show popC C (rpm pm g') = C2 from HC2.out.symm] at h7
        clear h6
        go_wp2_with fail
        refine hQB.out _ _ ⟨mh_cell (f := 0) (h7.pk5 [4]) HX.out t4 (by omega), mh_cell (f := 2) (h7.pk5 [4]) HX.out t4 (by omega), (h7.pk7 [6]).blk.some_ (i := 0) rfl, (h7.pk7 [6]).blk.some_ (i := 1) rfl⟩ ?_
        clear hQB hQX QB
        refine wpAnyB_now (fun w' => (w'.cell? ⟨gm, t * 4, none⟩ = some (.pointer (some ⟨pm.g, 0, none⟩)) ∧ w'.cell? ⟨gm, t * 4 + 2, none⟩ = some (.pointer (some ⟨g', 0, none⟩)) ∧ w'.cell? ⟨gp, 0, none⟩ = some (.pointer (some ⟨m, 0, none⟩)) ∧ w'.cell? ⟨gp, 1, none⟩ = some (.pointer (some ⟨r, 0, none⟩))) ∧ w'.cell? ⟨g', 1, none⟩ = some (.int .i64 m2.at_) ∧ w'.cell? ⟨g', 4, none⟩ = some (.int .i64 m2.bk)) (fun _ h => h.1) _ _ _ _ ?_
        have HSS : Hid ((v7.cell? ⟨gm, t * 4, none⟩ = some (.pointer (some ⟨pm.g, 0, none⟩)) ∧ v7.cell? ⟨gm, t * 4 + 2, none⟩ = some (.pointer (some ⟨g', 0, none⟩)) ∧ v7.cell? ⟨gp, 0, none⟩ = some (.pointer (some ⟨m, 0, none⟩)) ∧ v7.cell? ⟨gp, 1, none⟩ = some (.pointer (some ⟨r, 0, none⟩))) ∧ v7.cell? ⟨g', 1, none⟩ = some (.int .i64 m2.at_) ∧ v7.cell? ⟨g', 4, none⟩ = some (.int .i64 m2.bk)) := hid ⟨⟨mh_cell (f := 0) (h7.pk5 [4]) HX.out t4 (by omega), mh_cell (f := 2) (h7.pk5 [4]) HX.out t4 (by omega), (h7.pk7 [6]).blk.some_ (i := 0) rfl, (h7.pk7 [6]).blk.some_ (i := 1) rfl⟩, h7.blk.some_ (i := 1) rfl, h7.blk.some_ (i := 4) rfl⟩
        have h8 : Hold w v7 (pmA m2 * (rpA (rpm m2 g') * (MH gm ms t * (queA 3 u8 ((toI held).map (Value.int .i64)) * (memA m C2 * (refA r cfH C2 * (prA gp m r * Asr.emp))))))) := h7.pk6 [2, 0, 4, 5, 3, 1]
        clear h7
        refine' wpAnyB_bulk [false, false, false, false, false, false, false, false, false, false, false, false, false, false, true, true, true, true, true, true, false, true, true, true, true, true, true, true, true] 235 (listed' := #[true, true, true, true, true, true, true, true, true, true, true, true, true, true, true, true, true, true, true, true, false, true, true, true, true, true, true, true, true, false, false, false, false, false, false, false, false, false, false, false, false, false, false, false, false, false]) rfl (by kernel_rfl) (by kernel_rfl) (by kernel_rfl) (by kernel_rfl) (by kernel_rfl) (by kernel_rfl) (by decide) (fun _ _ _ _ h => h) rfl HSS.out (fun wq hq => ?_) ?_; rotate_left 1
        · simp only [maskL]
          obtain ⟨⟨q1, q2, q3, q4⟩, q5, q6⟩ := hq
          repeat (go_big_quiet_step (fail))
          exact wpQuiet_nil rfl
        refine wpAnyB_bar [false, false, false, false, false, false, false, false, false, false, false, false, false, false, false, false, false, false, false, false, true] (fuel := 17) (by rfl) (by rfl) (by kernel_rfl) (fun QB hQB hQX => ?_)
        simp only [maskL]
        go_wp2_with fail
        rw [← HM2.out.2]
        refine (pm_done3 w _ _ m2 h8).mono ?_
        rintro e w' ⟨rfl, rfl⟩
        go_wp2_with fail
        refine hQB.out _ _ HSS.out ?_
        clear hQB hQX QB
        refine' wpAnyB_bulk [false, false, false, false, false, false, false, false, false, false, false, false, false, false, false, false, false, false, false, false, false, false, false, false, false, false, false, false, false, true, true, true, true, true, true, true, false, true, true, true, true, true, true, true] 235 (listed' := #[true, true, true, true, true, true, true, true, true, true, true, true, true, true, true, true, true, true, true, true, true, true, true, true, true, true, true, true, true, true, true, true, true, true, true, true, false, true, true, true, true, true, true, true, false, false]) rfl (by kernel_rfl) (by kernel_rfl) (by kernel_rfl) (by kernel_rfl) (by kernel_rfl) (by kernel_rfl) (by decide) (fun _ _ _ _ h => h) rfl HSS.out (fun wq hq => ?_) ?_; rotate_left 1
        · simp only [maskL]
          obtain ⟨⟨q1, q2, q3, q4⟩, q5, q6⟩ := hq
          repeat (go_big_quiet_step (fail))
          exact wpQuiet_nil rfl
        refine wpAnyB_bar [false, false, false, false, false, false, false, false, false, false, false, false, false, false, false, false, false, false, false, false, false, false, false, false, false, false, false, false, false, false, false, false, false, false, false, false, true] (fuel := 2) (by rfl) (by rfl) (by kernel_rfl) (fun QB hQB hQX => ?_)
        simp only [maskL]
        go_wp2_with fail
        rw [← HM2.out.2]
        refine (pm_block w _ _ m2 h8).mono ?_
        rintro e w' ⟨rfl, rfl⟩
        go_wp2_with fail
        refine hQB.out _ _ HSS.out ?_
        clear hQB hQX QB
        refine' wpAnyB_bulk [false, false, false, false, false, false, false, false, false, false, false, false, false, false, false, false, false, false, false, false, false, false, false, false, false, false, false, false, false, false, false, false, false, false, false, false, false, false, false, false, false, false, false, false, true, true] 235 (listed' := #[true, true, true, true, true, true, true, true, true, true, true, true, true, true, true, true, true, true, true, true, true, true, true, true, true, true, true, true, true, true, true, true, true, true, true, true, true, true, true, true, true, true, true, true, true, true]) rfl (by kernel_rfl) (by kernel_rfl) (by kernel_rfl) (by kernel_rfl) (by kernel_rfl) (by kernel_rfl) (by decide) (fun _ _ _ _ h => h) rfl HSS.out (fun wq hq => ?_) ?_; rotate_left 1
        · simp only [maskL]
          repeat (go_big_quiet_step (fail))
          exact wpQuiet_nil rfl
        refine wpAnyB_done (by kernel_rfl) ?_ _
        have h9 : Hold w v7 ((FM3.pop m2 g').o * (MH gm ms t * (queA 3 u8 ((toI held).map (Value.int .i64)) * (memA m C2 * (refA r cfH C2 * (prA gp m r * Asr.emp)))))) := h8.join
        have h10 := ms_give (y := .pop m2 g') h9 HX.out HK.out.ml (fun f _ => pop_c HM2.out.2 g' f)
        have HX2 : Hid ((ms.set t (FM3.pop m2 g'))[t]? = some (FM3.pop m2 g')) := hid (List.getElem?_set_self tl)
        have k2 := HSS.out.1.2.1
        have k5 := HSS.out.2.1
        have k6 := HSS.out.2.2
        clear h8 h9 et ebk
        rcases HST.out with ⟨h3, hb, hrf⟩ | ⟨b, L', h3, hb, hb6, hrf⟩ | ⟨h3, hrf⟩
        · as_aux_lemma =>
          have e33 : ((m2.at_ : Int) == 3) = true := by rw [h3]; rfl
          have HRF := hid hrf
          rw [hb] at k6
          have s0 := ms_cell h10 HX2.out t4 (f := 0) (by omega)
          have s1 := ms_cell h10 HX2.out t4 (f := 1) (by omega)
          have s2 := ms_cell h10 HX2.out t4 (f := 2) (by omega)
          have s3 := ms_cell h10 HX2.out t4 (f := 3) (by omega)
          rw [Nat.add_zero] at s0
          have f0 := ms_frozen h10 (t * 4)
          have f1 := ms_frozen h10 (t * 4 + 1)
          have f2 := ms_frozen h10 (t * 4 + 2)
          have f3 := ms_frozen h10 (t * 4 + 3)
          have h11 := ms_gone h10 t4 (by rw [List.length_set]; exact HK.out.ml)
          rw [List.set_set] at h11
          have H11 := hid h11
          clear h10 h11 hrf h3 HSS HST hb
          go_wp2_with fail
          go_meet
          exact ⟨rfl, rfl, C2, _, _, _, _, _, HV2.out, HRF.out, H11.out⟩
        · as_aux_lemma =>
          have e33 : ((m2.at_ : Int) == 3) = true := by rw [h3]; rfl
          have HRF := hid hrf
          rw [hb] at k6
          have ebb : decide (0 ≤ (b : Int)) = true := decide_eq_true (by omega)
          have hhl : held.length ≤ 100 := by have := HK.out.hl; omega
          have h7 := h10.pk2 [1, 0]
          clear h10 hrf h3 hb HSS HST
          go_wp2_with (at_builtin; refine wpList_que rfl _ _ 22 rfl iI (.int .i64 0) 8 Try.underlying22 hiI hzI0 hzI1 hzI2 rfl (.int .i64 b) _ rfl h7 rfl rfl (by simp [toI]; omega) (by decide) ?_)
          intro hv2 w8 h8
          rw [show (toI held).map (Value.int .i64) ++ [.int .i64 (b : Int)] = (toI (held ++ [b])).map (Value.int .i64) by simp [toI]] at h8
          have h9 : Hold w w8 (MS gm (ms.set t (FM3.pop m2 g')) * _) := h8.pk2 [1, 0]
          have s0 := ms_cell h9 HX2.out t4 (f := 0) (by omega)
          have s1 := ms_cell h9 HX2.out t4 (f := 1) (by omega)
          have s2 := ms_cell h9 HX2.out t4 (f := 2) (by omega)
          have s3 := ms_cell h9 HX2.out t4 (f := 3) (by omega)
          rw [Nat.add_zero] at s0
          have f0 := ms_frozen h9 (t * 4)
          have f1 := ms_frozen h9 (t * 4 + 1)
          have f2 := ms_frozen h9 (t * 4 + 2)
          have f3 := ms_frozen h9 (t * 4 + 3)
          have h11 := ms_gone h9 t4 (by rw [List.length_set]; exact HK.out.ml)
          rw [List.set_set] at h11
          have H11 := hid h11
          clear h7 h8 h9 h11 k2 k5 k6 ebb
          go_wp2_with fail
          go_meet
          exact ⟨rfl, rfl, C2, _, _, _, _, _, HV2.out, HRF.out, H11.out⟩
        · as_aux_lemma =>
          have e33 : ((m2.at_ : Int) == 3) = false := by simp; omega
          have HRF := hid hrf
          have H12 := hid h10
          clear h10 hrf h3 HSS HST
          go_wp2_with fail
          go_meet
          exact ⟨rfl, rfl, C2, _, _, _, _, _, HV2.out, HRF.out, H12.out⟩
      | push pm g' =>
        as_aux_lemma =>
        replace k0 : wc.cell? ⟨gm, t * 4, none⟩ = some (.pointer none) := k0
        replace k1 : wc.cell? ⟨gm, t * 4 + 1, none⟩ = some (.pointer (some ⟨pm.g, 0, none⟩)) := k1
        go_upto_if 113 with fail
        clear k0 k1
        go_cut [8, 10, 11] (fun hv j tt wx => j = .int .i64 i ∧ tt = .int .i64 t ∧ ∃ (C : Nat → List Int) (hs ns : List Int) (L : Nat → List Nat) (held : List Nat) (ms : List FM3), FV C hs ns ∧ RF hs ns L held ms (i + 1) (i + 1) ∧ Hold w wx (MS gm ms * (queA 3 hv ((toI held).map (Value.int .i64)) * (memA m C * (refA r cfH C * (prA gp m r * Asr.emp))))))
        case rest =>
          as_aux_lemma =>
          clear h HV HK HX
          obtain ⟨rfl, rfl, C2, hs, ns, L, held, ms, hvv, hk, h12⟩ := hcut
          have HV2 := hid hvv
          have HRF := hid hk
          clear hvv hk
          have p0 := (h12.pk5 [4]).blk.some_ (i := 0) rfl
          have p1 := (h12.pk5 [4]).blk.some_ (i := 1) rfl
          go_wp2_with fail
          refine (pair_same w _ _ m r cfH C2 (h12.pk4 [2, 3, 0, 1]) HV2.out.ok).mono ?_
          rintro e v13 ⟨rfl, h13⟩
          have H13 := hid (h13.pk4 [2, 3, 0, 1])
          clear h12 h13 p0 p1
          go_wp2_with fail
          go_round
          case rel => exact ⟨i + 1, q, C2, _, _, _, _, _, by omega, by omega, by go_num, rfl, HV2.out, HRF.out, H13.out⟩
          case measure => simp [intOf]; omega
        case first =>
        as_aux_lemma =>
        obtain ⟨m2, hm2⟩ : ∃ m2, m2 = pushN hs pm := ⟨_, rfl⟩
        obtain ⟨ac, hac⟩ : ∃ ac, ac = pushA hs ns pm := ⟨_, rfl⟩
        obtain ⟨C2, hC2⟩ : ∃ C2, C2 = pushC C pm := ⟨_, rfl⟩
        have hg2 : m2.g = pm.g := by rw [hm2]; exact pushN_gk _ _
        have hst := HK.out.pushStep ib HX.out
        have hpw := HK.out.ki.qy t pm (RF.q_at HX.out)
        rw [← hm2] at hst
        have HST := hid hst
        have HPW := hid hpw
        have HM2 := hid (And.intro hm2 hg2)
        have HAC := hid hac
        have HC2 := hid hC2
        have HV2 : Hid (FV C2 (pushH hs pm) (pushS ns pm)) := hid (by rw [hC2]; exact pushC_fv HV.out HK.out.ki.fi hpw)
        clear hm2 hac hC2 hg2 hst hpw hne
        have h5 : Hold w wc (qmA pm * (rqA (rqm pm g') * (MH gm ms t * (queA 3 u8 ((toI held).map (Value.int .i64)) * (memA m C * (refA r cfH C * (prA gp m r * Asr.emp))))))) := (ms_take h HX.out).part
        clear h
        have et : (((m2.at_ : Int) == 3) != ((m2.at_ : Int) == 3)) = false := by simp
        go_upto_region 31 with fail
        replace h5 := h5.drew
        refine wp_region_brk [] (by kernel_rfl) ?_
        refine wpAnyB_now (fun w' => w'.cell? ⟨gm, t * 4 + 1, none⟩ = some (.pointer (some ⟨pm.g, 0, none⟩)) ∧ w'.cell? ⟨gm, t * 4 + 3, none⟩ = some (.pointer (some ⟨g', 0, none⟩)) ∧ w'.cell? ⟨gp, 0, none⟩ = some (.pointer (some ⟨m, 0, none⟩)) ∧ w'.cell? ⟨gp, 1, none⟩ = some (.pointer (some ⟨r, 0, none⟩))) (fun _ _ => trivial) _ _ _ _ ?_
        refine' wpAnyB_bulk [true, true, true, true, true, true, false, true, true, true, true, true, true] 235 (listed' := #[true, true, true, true, true, true, false, true, true, true, true, true, true, false, false, false, false, false, false, false, false, false, false, false, false, false, false, false, false, false, false]) rfl (by kernel_rfl) (by kernel_rfl) (by kernel_rfl) (by kernel_rfl) (by kernel_rfl) (by kernel_rfl) (by decide) (fun _ _ _ _ h => h) rfl ⟨mh_cell (f := 1) (h5.pk3 [2]) HX.out t4 (by omega), mh_cell (f := 3) (h5.pk3 [2]) HX.out t4 (by omega), (h5.pk7 [6]).blk.some_ (i := 0) rfl, (h5.pk7 [6]).blk.some_ (i := 1) rfl⟩ (fun wq hq => ?_) ?_; rotate_left 1
        · simp only [maskL]
          obtain ⟨q1, q2, q3, q4⟩ := hq
          repeat (go_big_quiet_step (fail))
          exact wpQuiet_nil rfl
        refine wpAnyB_bar [false, false, false, false, false, false, true] (fuel := 18) (by rfl) (by rfl) (by kernel_rfl) (fun QB hQB hQX => ?_)
        simp only [maskL]
        go_wp2_with fail
        refine (pu_step w _ _ m C hs ns i pm (h5.pk5 [0, 4, 1, 2, 3]) HV.out HK.out.ki.fi (by omega) HPW.out).mono ?_
        rintro e v6 ⟨rfl, h6⟩
        rw [← HM2.out.1, ← HC2.out] at h6
        rw [← HAC.out]
        clear h5
        go_wp2_with fail
        refine hQB.out _ _ ⟨mh_cell (f := 1) (h6.pk4 [3]) HX.out t4 (by omega), mh_cell (f := 3) (h6.pk4 [3]) HX.out t4 (by omega), (h6.pk7 [6]).blk.some_ (i := 0) rfl, (h6.pk7 [6]).blk.some_ (i := 1) rfl⟩ ?_
        clear hQB hQX QB
        refine wpAnyB_bar [false, false, false, false, false, false, false, false, false, false, false, false, false, true] (fuel := 17) (by rfl) (by rfl) (by kernel_rfl) (fun QB hQB hQX => ?_)
        simp only [maskL]
        go_wp2_with fail
        refine (qu_step w _ _ r cfH C hs ns i (rqm pm g') (h6.pk6 [2, 5, 0, 1, 3, 4]) HV.out HK.out.ki.fi (by omega) (QW.rqm HPW.out g')).mono ?_
        rintro e v7 ⟨rfl, h7⟩
        rw [show pushA hs ns (rqm pm g') = ac from HAC.out.symm]
        rw [pushN_rqm, ← HM2.out.1, show pushC C (rqm pm g') = C2 from HC2.out.symm] at h7
        clear h6
        go_wp2_with fail
        refine hQB.out _ _ ⟨mh_cell (f := 1) (h7.pk5 [4]) HX.out t4 (by omega), mh_cell (f := 3) (h7.pk5 [4]) HX.out t4 (by omega), (h7.pk7 [6]).blk.some_ (i := 0) rfl, (h7.pk7 [6]).blk.some_ (i := 1) rfl⟩ ?_
        clear hQB hQX QB
        refine wpAnyB_now (fun w' => (w'.cell? ⟨gm, t * 4 + 1, none⟩ = some (.pointer (some ⟨pm.g, 0, none⟩)) ∧ w'.cell? ⟨gm, t * 4 + 3, none⟩ = some (.pointer (some ⟨g', 0, none⟩)) ∧ w'.cell? ⟨gp, 0, none⟩ = some (.pointer (some ⟨m, 0, none⟩)) ∧ w'.cell? ⟨gp, 1, none⟩ = some (.pointer (some ⟨r, 0, none⟩))) ∧ w'.cell? ⟨g', 2, none⟩ = some (.int .i64 m2.at_)) (fun _ h => h.1) _ _ _ _ ?_
        have HSS : Hid ((v7.cell? ⟨gm, t * 4 + 1, none⟩ = some (.pointer (some ⟨pm.g, 0, none⟩)) ∧ v7.cell? ⟨gm, t * 4 + 3, none⟩ = some (.pointer (some ⟨g', 0, none⟩)) ∧ v7.cell? ⟨gp, 0, none⟩ = some (.pointer (some ⟨m, 0, none⟩)) ∧ v7.cell? ⟨gp, 1, none⟩ = some (.pointer (some ⟨r, 0, none⟩))) ∧ v7.cell? ⟨g', 2, none⟩ = some (.int .i64 m2.at_)) := hid ⟨⟨mh_cell (f := 1) (h7.pk5 [4]) HX.out t4 (by omega), mh_cell (f := 3) (h7.pk5 [4]) HX.out t4 (by omega), (h7.pk7 [6]).blk.some_ (i := 0) rfl, (h7.pk7 [6]).blk.some_ (i := 1) rfl⟩, h7.blk.some_ (i := 2) rfl⟩
        have h8 : Hold w v7 (qmA m2 * (rqA (rqm m2 g') * (MH gm ms t * (queA 3 u8 ((toI held).map (Value.int .i64)) * (memA m C2 * (refA r cfH C2 * (prA gp m r * Asr.emp))))))) := h7.pk6 [2, 0, 4, 5, 3, 1]
        clear h7
        refine' wpAnyB_bulk [false, false, false, false, false, false, false, false, false, false, false, false, false, false, true, true, true, true, true, true, false, true, true, true, true, true, true, true, true] 235 (listed' := #[true, true, true, true, true, true, true, true, true, true, true, true, true, true, true, true, true, true, true, true, false, true, true, true, true, true, true, true, true, false, false]) rfl (by kernel_rfl) (by kernel_rfl) (by kernel_rfl) (by kernel_rfl) (by kernel_rfl) (by kernel_rfl) (by decide) (fun _ _ _ _ h => h) rfl HSS.out (fun wq hq => ?_) ?_; rotate_left 1
        · simp only [maskL]
          obtain ⟨⟨q1, q2, q3, q4⟩, q5⟩ := hq
          repeat (go_big_quiet_step (fail))
          exact wpQuiet_nil rfl
        refine wpAnyB_bar [false, false, false, false, false, false, false, false, false, false, false, false, false, false, false, false, false, false, false, false, true] (fuel := 2) (by rfl) (by rfl) (by kernel_rfl) (fun QB hQB hQX => ?_)
        simp only [maskL]
        go_wp2_with fail
        rw [← HM2.out.2]
        refine (qm_done3 w _ _ m2 h8).mono ?_
        rintro e w' ⟨rfl, rfl⟩
        go_wp2_with fail
        refine hQB.out _ _ HSS.out ?_
        clear hQB hQX QB
        refine' wpAnyB_bulk [false, false, false, false, false, false, false, false, false, false, false, false, false, false, false, false, false, false, false, false, false, false, false, false, false, false, false, false, false, true, true] 235 (listed' := #[true, true, true, true, true, true, true, true, true, true, true, true, true, true, true, true, true, true, true, true, true, true, true, true, true, true, true, true, true, true, true]) rfl (by kernel_rfl) (by kernel_rfl) (by kernel_rfl) (by kernel_rfl) (by kernel_rfl) (by kernel_rfl) (by decide) (fun _ _ _ _ h => h) rfl HSS.out (fun wq hq => ?_) ?_; rotate_left 1
        · simp only [maskL]
          obtain ⟨⟨q1, q2, q3, q4⟩, q5⟩ := hq
          repeat (go_big_quiet_step (fail))
          exact wpQuiet_nil rfl
        refine wpAnyB_done (by kernel_rfl) ?_ _
        have h9 : Hold w v7 ((FM3.push m2 g').o * (MH gm ms t * (queA 3 u8 ((toI held).map (Value.int .i64)) * (memA m C2 * (refA r cfH C2 * (prA gp m r * Asr.emp)))))) := h8.join
        have h10 := ms_give (y := .push m2 g') h9 HX.out HK.out.ml (fun f _ => push_c HM2.out.2 g' f)
        have HX2 : Hid ((ms.set t (FM3.push m2 g'))[t]? = some (FM3.push m2 g')) := hid (List.getElem?_set_self tl)
        have k2 := HSS.out.1.2.1
        have k5 := HSS.out.2
        clear h8 h9 et 
        rcases HST.out with ⟨L', h3, hrf⟩ | ⟨h3, hrf⟩
        · as_aux_lemma =>
          have e33 : ((m2.at_ : Int) == 3) = true := by rw [h3]; rfl
          have HRF := hid hrf
          have s0 := ms_cell h10 HX2.out t4 (f := 0) (by omega)
          have s1 := ms_cell h10 HX2.out t4 (f := 1) (by omega)
          have s2 := ms_cell h10 HX2.out t4 (f := 2) (by omega)
          have s3 := ms_cell h10 HX2.out t4 (f := 3) (by omega)
          rw [Nat.add_zero] at s0
          have f0 := ms_frozen h10 (t * 4)
          have f1 := ms_frozen h10 (t * 4 + 1)
          have f2 := ms_frozen h10 (t * 4 + 2)
          have f3 := ms_frozen h10 (t * 4 + 3)
          have h11 := ms_gone h10 t4 (by rw [List.length_set]; exact HK.out.ml)
          rw [List.set_set] at h11
          have H11 := hid h11
          clear h10 h11 hrf h3 HSS HST 
          go_wp2_with fail
          go_meet
          exact ⟨rfl, rfl, C2, _, _, _, _, _, HV2.out, HRF.out, H11.out⟩
        · as_aux_lemma =>
          have e33 : ((m2.at_ : Int) == 3) = false := by simp; omega
          have HRF := hid hrf
          have H12 := hid h10
          clear h10 hrf h3 HSS HST
          go_wp2_with fail
          go_meet
          exact ⟨rfl, rfl, C2, _, _, _, _, _, HV2.out, HRF.out, H12.out⟩
    · obtain rfl : i = n1 := by omega
      have e1 : decide ((i : Int) < (i : Int)) = false := by simp
      go_wp2_with fail
      refine (awake11_any w _ _ h).mono ?_
      rintro e v5 ⟨rfl, h6⟩
      have H6 := hid h6.below
      clear h h6
      go_wp2_with fail
      go_ret
      exact ⟨rfl, H6.out⟩
end Go.Proofs.Ytigjpfhjddkckaa
