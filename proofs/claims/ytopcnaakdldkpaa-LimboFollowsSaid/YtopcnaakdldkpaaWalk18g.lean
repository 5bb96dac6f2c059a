/- LimboFollows: the walk. -/
import Derived.Test.YtopcnaakdldkpaaWalk18f
import Derived.Test.YtopcnaakdldkpaaAppA
import Derived.Deep.CutBlock
import Derived.Deep.DeepCutAuto
namespace Go.Proofs.Ytopcnaakdldkpaa
open Go.RowKit
set_option linter.unusedVariables false
theorem bI_map (es : List (Int × Int)) : (es.map fun e => Value.int .i64 e.1) = (es.map (·.1)).map (Value.int .i64) := by rw [List.map_map]; rfl
theorem vI_map (es : List (Int × Int)) : (es.map fun e => Value.int .i64 e.2) = (es.map (·.2)).map (Value.int .i64) := by rw [List.map_map]; rfl
set_option maxRecDepth 8000 in
set_option maxHeartbeats 16000000 in
theorem limboFollows_any (w : World) (A : Option Addr) (n c : Nat) (hA : ∀ i, i < n → ∃ (x : Addr) (dr : Bool) (z : Int) (A' : Option Addr) (n' c' : Nat) (xs : List Int), A = some x ∧ I64b z ∧ n' ≤ maxLen ∧ xs.length = n' ∧ (∀ z ∈ xs, I64b z) ∧ ∀ w', Below w.heap.size w w' →
      w'.cell? (x.add (i * 3)) = some (.bool dr) ∧ w'.cell? ⟨(x.add (i * 3)).block, (x.add (i * 3)).off + 1, none⟩ = some (.int .i64 z) ∧ w'.cell? ⟨(x.add (i * 3)).block, (x.add (i * 3)).off + 2, none⟩ = some (.slice A' n' c') ∧ ∃ b, Reads w' b A' n' (xs.map (Value.int .i64))) :
    Calls Try.prog 3 #[.slice A n c] w fun e w' => e = .returned (.bool true) ∧ Below w.heap.size w w' := by
  have HA := hid hA
  have hst := Hold.start w
  clear hA
  go_enter Try.func3, Try.ntmps3
  by_cases hn : 20 < n
  · have e1 : decide ((20 : Int) < (n : Int)) = true := decide_eq_true (by omega)
    have e1' : decide (20 < n) = true := decide_eq_true hn
    have HW := hid (awake18_any w w _ hst)
    clear hst
    go_wp2_with fail
    refine HW.out.mono ?_
    rintro e w1 ⟨rfl, h1⟩
    have H1 := hid h1.below
    clear HW h1
    go_wp2_with fail
    go_ret
    exact ⟨rfl, H1.out⟩
  have e1 : decide ((20 : Int) < (n : Int)) = false := decide_eq_false (by omega)
  have e1' : decide (20 < n) = false := decide_eq_false hn
  go_wp2_with fail
  refine (heap18_any w _ _ hst).mono ?_
  rintro e w1 ⟨rfl, h1⟩
  clear hst
  go_wp2_with fail
  refine (lab_start w _ _ cfH 2 cfH_ok (by decide) h1).mono ?_
  rintro e w2 ⟨m, r, rfl, h2⟩
  replace h2 : Hold w w2 (memA m (cH 2) * (refA r cfH (cH 2) * Asr.emp)) := h2
  have HV := hid (cH_fv (th := 2) (by decide))
  generalize cH 2 = C0 at h2 HV
  have H3 := hid (((h2.newBlk (t := 27) (cs := #[.pointer (some ⟨m, 0, none⟩), .pointer (some ⟨r, 0, none⟩)])).pk3 [1, 2, 0]))
  clear h1 h2
  go_upto_region 4 with fail
  have h3 : Hold w _ (memA m C0 * (refA r cfH C0 * (prA w2.heap.size m r * Asr.emp))) := H3.out
  generalize hW : World.alloc _ _ = W3 at h3 ⊢
  generalize w2.heap.size = gp at h3 ⊢
  clear hW H3 e1 e1'
  go_wp2_with fail
  refine (heap18_any w _ _ h3).mono ?_
  rintro e w4 ⟨rfl, h4⟩
  clear h3
  go_wp2_with fail
  refine (lim_new w _ _ h4).mono ?_
  rintro e w5 ⟨gl, rfl, h5⟩
  clear h4
  go_wp2_with fail
  refine (heap18_any w _ _ h5).mono ?_
  rintro e w6 ⟨rfl, h6⟩
  clear h5
  go_wp2_with fail
  refine (rl_new w _ _ h6).mono ?_
  rintro e w7 ⟨gr, rfl, h7⟩
  clear h6
  have h8 : Hold w w7 (limA gl [] * (rlA gr [] * (memA m C0 * (refA r cfH C0 * (prA gp m r * Asr.emp))))) := h7.swap
  clear h7
  have hn20 : n ≤ 20 := by omega
  clear hn
  have h0 := h8
  clear h8
  have H0 := hid h0
  clear h0
  go_wp2_with fail
  go_loopw [7] (fun j wr => ∃ (i : Nat) (C : Nat → List Int) (hs ns : List Int) (es : List (Int × Int)) (B : Int), i ≤ n ∧ j = .int .i64 (i : Int) ∧ FV C hs ns ∧ FI hs ns B ∧ B ≤ 12 * (i : Int) ∧ es.length ≤ 6 * i ∧ (∀ e ∈ es, 0 ≤ e.1 ∧ e.1 < 6) ∧ Hold w wr (limA gl es * (rlA gr es * (memA m C * (refA r cfH C * (prA gp m r * Asr.emp)))))) (fun j _ => n - (intOf j).toNat)
  case atStart => exact ⟨0, C0, _, _, [], 0, by omega, rfl, HV.out, fi0, by omega, Nat.zero_le _, (fun e he => by cases he), H0.out⟩
  case round =>
    clear H0 HV
    obtain ⟨i, C, hs, ns, es, B, hi, rfl, hv, hf, hB, hel, hes, h⟩ := hrel
    have HV := hid hv
    have HF := hid hf
    have HES := hid hes
    clear hv hf hes
    by_cases hlt : i < n
    · have e2 : decide ((i : Int) < (n : Int)) = true := decide_eq_true (by omega)
      have e2' : decide (i < n) = true := decide_eq_true hlt
      obtain ⟨x, dr, z, A', n', c', xs, hAx, hz, hm, hx, hI, hA2⟩ := HA.out i hlt
      subst hAx
      obtain ⟨hc0, hc1, hc2, _⟩ := hA2 wr h.below
      have HA2 := hid hA2
      have HX := hid hx
      have HM := hid hm
      have i0 : (0 : Int) ≤ (i : Int) := by omega
      have i1 : (i : Int) < (n : Int) := by omega
      have HPL := hid (place_ex wr z 9 (by omega) (by omega))
      clear hz hA2 hx hm hI
      go_wp2_with fail
      refine HPL.out.mono ?_
      rintro e w' ⟨q, hq9, rfl, rfl⟩
      clear HPL hc1
      go_upto_if 48 with fail
      go_cut [7] (fun j wx => j = .int .i64 (i : Int) ∧ ∃ (C : Nat → List Int) (hs ns : List Int) (es : List (Int × Int)) (B : Int), FV C hs ns ∧ FI hs ns B ∧ B ≤ 12 * ((i : Int) + 1) ∧ es.length ≤ 6 * (i + 1) ∧ (∀ e ∈ es, 0 ≤ e.1 ∧ e.1 < 6) ∧ Hold w wx (limA gl es * (rlA gr es * (memA m C * (refA r cfH C * (prA gp m r * Asr.emp))))))
      case first =>
        cases dr with
        | false =>
          have HB1 := hid (blocks18_any w wr _ A' n' c' xs h HX.out HM.out (fun w' hb => (HA2.out w' hb).2.2.2))
          clear h
          go_wp2_with fail
          refine HB1.out.mono ?_
          rintro e w1 ⟨A2, n2, c2, rfl, hn2, h1⟩
          clear HB1 hc0 hc2
          obtain ⟨hI1, hl6⟩ := bkL_ok xs
          have h2 := h1.swap
          have HL := hid (lim_add w w1 _ gl es q A2 n2 c2 (bkL xs) h2 (fun w' q h => h.drop.queRd.2.2) hI1 (by omega) (by omega))
          have HN2 := hid hn2
          clear h1 h2 hn2
          go_wp2_with fail
          refine HL.out.mono ?_
          rintro e w3 ⟨rfl, h3⟩
          clear HL
          have h4 : Hold w w3 (rlA gr es * (limA gl (addE es q (bkL xs)) * (memA m C * (refA r cfH C * (prA gp m r * Asr.emp))))) := h3.pk3 [2, 0]
          clear h3
          obtain ⟨hc0, _, hc2, _⟩ := HA2.out w3 h4.below
          have HB2 := hid (blocks18_any w w3 _ A' n' c' xs h4 HX.out HM.out (fun w' hb => (HA2.out w' hb).2.2.2))
          clear h4
          go_wp2_with fail
          refine HB2.out.mono ?_
          rintro e w5 ⟨A4, n4, c4, rfl, hn4, h5⟩
          clear HB2 hc0 hc2
          have HL := hid (rl_add w w5 _ gr es q A4 n4 c4 (bkL xs) h5.swap hI1 (by omega) (by omega))
          have HN4 := hid hn4
          clear h5 hn4
          go_wp2_with fail
          refine HL.out.mono ?_
          rintro e w6 ⟨rfl, h6⟩
          clear HL
          have H7 : Hid (Hold w w6 (limA gl (addE es q (bkL xs)) * (rlA gr (addE es q (bkL xs)) * (memA m C * (refA r cfH C * (prA gp m r * Asr.emp)))))) := hid (h6.pk3 [2, 0])
          clear h6
          go_wp2_with fail
          go_meet
          exact ⟨rfl, C, hs, ns, _, B, HV.out, HF.out, by omega, by have := addE_len es q (bkL xs); omega, addE_ok q _ HES.out, H7.out⟩
        | true =>
          have HDR := hid (lim_drain w wr _ gl es q h (by omega) HES.out)
          clear h
          go_wp2_with fail
          refine HDR.out.mono ?_
          rintro e w1 ⟨d, gs, rfl, hgl, h2⟩
          clear HDR hc0 hc2
          go_wp2_with fail
          refine (heap18_any w _ _ h2).mono ?_
          rintro e w3 ⟨rfl, h3⟩
          clear h2
          have HT := hid (rl_take w w3 _ gr es q (h3.pk3 [2, 0, 1]) (by omega))
          clear h3
          go_wp2_with fail
          refine HT.out.mono ?_
          rintro e w4 ⟨A4, c4, rfl, h4⟩
          clear HT
          obtain ⟨z1, z2, z3⟩ := zipB (outE q es) gs hgl (fun e he => HES.out e (List.mem_filter.1 he).1)
          obtain ⟨qs0, hqs⟩ : ∃ qs, qs = List.zipWith qOf gs (outE q es) := ⟨_, rfl⟩
          rw [← hqs] at h4 z1 z2 z3
          rw [z2] at h4
          obtain ⟨no, hno⟩ : ∃ no, no = (outE q es).length := ⟨_, rfl⟩
          rw [← hno] at h4 ⊢
          have HND := hid (rd_new w w4 _ A4 no c4 _ h4 z3)
          obtain ⟨ek, hek⟩ : ∃ ek, ek = keptE q es := ⟨_, rfl⟩
          have HEK : Hid ((∀ e ∈ ek, 0 ≤ e.1 ∧ e.1 < 6) ∧ ek.length ≤ es.length) := hid ⟨fun e he => HES.out e (by rw [hek] at he; exact (List.mem_filter.1 he).1), by rw [hek]; exact keptE_le q es⟩
          rw [← hek] at HND
          clear h4 hqs hno hgl z2 z3 hek
          go_wp2_with fail
          refine HND.out.mono ?_
          rintro e w5 ⟨dd, p0, rfl, hp0, h5⟩
          clear HND
          have HDD := hid (DD.begin HF.out z1 rfl hp0)
          have h6 : Hold w w5 (drA d qs0 * (rdA dd (qs0.map (·.bk)) p0 * (memA m C * (refA r cfH C * (limA gl ek * (rlA gr ek * (prA gp m r * Asr.emp))))))) := h5.pk6 [2, 0, 4, 5, 3, 1]
          clear h5 hp0 z1
          generalize qs0.map (·.bk) = bs0 at h6 HDD
          have H6 := hid h6
          clear h6
          go_wp2_with fail
          go_loopw [11] (fun j wr => ∃ (k : Nat) (C : Nat → List Int) (hs ns : List Int) (qs : List QM) (bs : List Nat) (p : Option QM) (B' : Int), k ≤ 12 ∧ j = .int .i64 (k : Int) ∧ FV C hs ns ∧ DD hs ns B' qs bs p ∧ B' ≤ B + k ∧ Hold w wr (drA d qs * (rdA dd bs p * (memA m C * (refA r cfH C * (limA gl ek * (rlA gr ek * (prA gp m r * Asr.emp)))))))) (fun j _ => 12 - (intOf j).toNat)
          case atStart => exact ⟨0, C, hs, ns, qs0, bs0, p0, B, by omega, rfl, HV.out, HDD.out, by omega, H6.out⟩
          case round =>
            clear H6 HDD HV HF
            obtain ⟨k, C, hs, ns, qs, bs, p, B', hk, rfl, hv, hdd, hB', h⟩ := hrel
            have HV := hid hv
            have HDD := hid hdd
            clear hv hdd
            by_cases hlk : k < 12
            · have e3 : decide ((k : Int) < 12) = true := decide_eq_true (by omega)
              have e3' : decide (k < 12) = true := decide_eq_true hlk
              have hB9 : B' ≤ 900 := by omega
              obtain ⟨ib, hib⟩ : ∃ ib, ib = qs.isEmpty := ⟨_, rfl⟩
              have hib2 : bs.isEmpty = ib := by
                rw [HDD.out.bs, hib]
                cases qs <;> rfl
              obtain ⟨nq, hnq⟩ : ∃ nq, nq = qs.length := ⟨_, rfl⟩
              have hnq2 : bs.length = nq := by rw [HDD.out.bs, hnq, List.length_map]
              have HIB := hid (And.intro hib hib2)
              have HNQ := hid (And.intro hnq hnq2)
              obtain ⟨ac, hac⟩ : ∃ ac, ac = drAc hs ns qs := ⟨_, rfl⟩
              have HAC := hid hac
              clear hib hib2 hnq hnq2 hac
              have eib : (ib != ib) = false := bne_self_eq_false ib
              have enq : ((nq : Int) != (nq : Int)) = false := bne_self_eq_false _
              go_upto_region 20 with fail
              clear e3 e3'
              replace h := h.drew
              refine wp_region_brk [] (by kernel_rfl) ?_
              generalize hW : wr.drew = W at h ⊢
              clear hW
              refine wpAnyB_now (fun w' => w'.cell? ⟨gp, 0, none⟩ = some (.pointer (some ⟨m, 0, none⟩)) ∧ w'.cell? ⟨gp, 1, none⟩ = some (.pointer (some ⟨r, 0, none⟩))) (fun _ _ => trivial) _ _ _ _ ?_
              refine' wpAnyB_bulk [true, false, true] 131 (listed' := #[true, false, true, false, false, false, false, false, false, false, false, false, false, false, false, false, false, false, false, false, false, false, false, false, false, false, false, false, false, false, false]) rfl (by kernel_rfl) (by kernel_rfl) (by kernel_rfl) (by kernel_rfl) (by kernel_rfl) (by kernel_rfl) (by decide) (fun _ _ _ _ h => h) rfl (by first | exact ⟨(h9.pk7 [6]).blk.some_ (i := 0) rfl, (h9.pk7 [6]).blk.some_ (i := 1) rfl⟩ | exact ⟨(h7.pk7 [6]).blk.some_ (i := 0) rfl, (h7.pk7 [6]).blk.some_ (i := 1) rfl⟩ | exact ⟨(h.pk7 [6]).blk.some_ (i := 0) rfl, (h.pk7 [6]).blk.some_ (i := 1) rfl⟩) (fun wq hq => ?_) ?_; rotate_left 1
              · simp only [maskL]
                obtain ⟨q1, q2⟩ := hq
                repeat (go_big_quiet_step (fail))
                exact wpQuiet_nil rfl
              refine wpAnyB_bar [false, true] (fuel := 28) (by rfl) (by rfl) (by kernel_rfl) (fun QB hQB hQX => ?_)
              simp only [maskL]
              go_wp2_with fail
              refine (dr_done w W _ d qs h).mono ?_
              rintro e w' ⟨rfl, rfl⟩
              rw [← HIB.out.1]
              go_wp2_with fail
              refine hQB.out _ _ ⟨(h.pk7 [6]).blk.some_ (i := 0) rfl, (h.pk7 [6]).blk.some_ (i := 1) rfl⟩ ?_
              clear hQB hQX QB
              refine wpAnyB_bar [false, false, false, true] (fuel := 27) (by rfl) (by rfl) (by kernel_rfl) (fun QB hQB hQX => ?_)
              simp only [maskL]
              go_wp2_with fail
              refine (rd_done w W _ dd bs p h.swap).mono ?_
              rintro e w' ⟨rfl, rfl⟩
              rw [HIB.out.2]
              go_wp2_with fail
              refine hQB.out _ _ ⟨(h.pk7 [6]).blk.some_ (i := 0) rfl, (h.pk7 [6]).blk.some_ (i := 1) rfl⟩ ?_
              clear hQB hQX QB
              refine' wpAnyB_bulk [false, false, false, false, true, true, true, false, true, true, true] 131 (listed' := #[true, true, true, true, true, true, true, false, true, true, true, false, false, false, false, false, false, false, false, false, false, false, false, false, false, false, false, false, false, false, false]) rfl (by kernel_rfl) (by kernel_rfl) (by kernel_rfl) (by kernel_rfl) (by kernel_rfl) (by kernel_rfl) (by decide) (fun _ _ _ _ h => h) rfl (by first | exact ⟨(h9.pk7 [6]).blk.some_ (i := 0) rfl, (h9.pk7 [6]).blk.some_ (i := 1) rfl⟩ | exact ⟨(h7.pk7 [6]).blk.some_ (i := 0) rfl, (h7.pk7 [6]).blk.some_ (i := 1) rfl⟩ | exact ⟨(h.pk7 [6]).blk.some_ (i := 0) rfl, (h.pk7 [6]).blk.some_ (i := 1) rfl⟩) (fun wq hq => ?_) ?_; rotate_left 1
              · simp only [maskL]
                obtain ⟨q1, q2⟩ := hq
                repeat (go_big_quiet_step (fail))
                exact wpQuiet_nil rfl
              refine wpAnyB_two [false, false, false, false, false, false, false, true] [false, false, false, false, false, false, false, false, false, false, false, true] (fuel := 20) (by rfl) (by rfl) (by rfl) (by rfl) (by kernel_rfl) (fun QB hQB hQX => ?_) (fun QB hQB hQX => ?_)
              · simp only [maskL]
                go_wp2_with fail
                refine (dr_left w W _ d qs h).mono ?_
                rintro e w' ⟨rfl, rfl⟩
                rw [← HNQ.out.1]
                go_wp2_with fail
                refine hQB.out _ _ ⟨(h.pk7 [6]).blk.some_ (i := 0) rfl, (h.pk7 [6]).blk.some_ (i := 1) rfl⟩ ?_
                clear hQB hQX QB
                refine wpAnyB_bar [false, false, false, false, false, false, false, false, false, false, false, true] (fuel := 19) (by rfl) (by rfl) (by kernel_rfl) (fun QB hQB hQX => ?_)
                simp only [maskL]
                obtain ⟨A8, c8, h8⟩ := rdOpen h.swap
                rw [HNQ.out.2] at h8
                have q13 := h8.blk.some_ (i := 13) rfl
                clear h8
                go_wp2_with fail
                refine hQB.out _ _ ⟨(h.pk7 [6]).blk.some_ (i := 0) rfl, (h.pk7 [6]).blk.some_ (i := 1) rfl⟩ ?_
                clear hQB hQX QB q13
                refine' wpAnyB_bulk [false, false, false, false, false, false, false, false, false, false, false, false, true, true, true, true, true, true, true, false, true, true, true] 131 (listed' := #[true, true, true, true, true, true, true, true, true, true, true, true, true, true, true, true, true, true, true, false, true, true, true, false, false, false, false, false, false, false, false]) rfl (by kernel_rfl) (by kernel_rfl) (by kernel_rfl) (by kernel_rfl) (by kernel_rfl) (by kernel_rfl) (by decide) (fun _ _ _ _ h => h) rfl (by first | exact ⟨(h9.pk7 [6]).blk.some_ (i := 0) rfl, (h9.pk7 [6]).blk.some_ (i := 1) rfl⟩ | exact ⟨(h7.pk7 [6]).blk.some_ (i := 0) rfl, (h7.pk7 [6]).blk.some_ (i := 1) rfl⟩ | exact ⟨(h.pk7 [6]).blk.some_ (i := 0) rfl, (h.pk7 [6]).blk.some_ (i := 1) rfl⟩) (fun wq hq => ?_) ?_; rotate_left 1
                · simp only [maskL]
                  obtain ⟨q1, q2⟩ := hq
                  repeat (go_big_quiet_step (fail))
                  exact wpQuiet_nil rfl
                refine wpAnyB_bar [false, false, false, false, false, false, false, false, false, false, false, false, false, false, false, false, false, false, false, true] (fuel := 8) (by rfl) (by rfl) (by kernel_rfl) (fun QB hQB hQX => ?_)
                simp only [maskL]
                go_wp2_with fail
                refine (dr_stepG w W _ d m C hs ns B' qs bs p (h.pk3 [0, 2, 1]) HV.out hB9 HDD.out).mono ?_
                rintro e w6 ⟨rfl, h6⟩
                rw [← HAC.out]
                clear h
                go_wp2_with fail
                refine hQB.out _ _ ⟨(h6.pk7 [6]).blk.some_ (i := 0) rfl, (h6.pk7 [6]).blk.some_ (i := 1) rfl⟩ ?_
                clear hQB hQX QB
                refine wpAnyB_bar [false, false, false, false, false, false, false, false, false, false, false, false, false, false, false, false, false, false, false, false, false, false, false, true] (fuel := 7) (by rfl) (by rfl) (by kernel_rfl) (fun QB hQB hQX => ?_)
                simp only [maskL]
                go_wp2_with fail
                refine (rd_stepG w w6 _ dd r C hs ns B' qs bs p (h6.pk4 [2, 3, 0, 1]) HV.out hB9 HDD.out).mono ?_
                rintro e w7 ⟨bs', p', hdv, rfl, h7⟩
                rw [← HAC.out]
                have HDV := hid hdv
                clear h6 hdv
                go_wp2_with fail
                refine hQB.out _ _ ⟨(h7.pk7 [6]).blk.some_ (i := 0) rfl, (h7.pk7 [6]).blk.some_ (i := 1) rfl⟩ ?_
                clear hQB hQX QB
                refine' wpAnyB_bulk [false, false, false, false, false, false, false, false, false, false, false, false, false, false, false, false, false, false, false, false, false, false, false, false, true, true, true, true] 131 (listed' := #[true, true, true, true, true, true, true, true, true, true, true, true, true, true, true, true, true, true, true, true, true, true, true, true, true, true, true, true, false, false, false]) rfl (by kernel_rfl) (by kernel_rfl) (by kernel_rfl) (by kernel_rfl) (by kernel_rfl) (by kernel_rfl) (by decide) (fun _ _ _ _ h => h) rfl (by first | exact ⟨(h9.pk7 [6]).blk.some_ (i := 0) rfl, (h9.pk7 [6]).blk.some_ (i := 1) rfl⟩ | exact ⟨(h7.pk7 [6]).blk.some_ (i := 0) rfl, (h7.pk7 [6]).blk.some_ (i := 1) rfl⟩ | exact ⟨(h.pk7 [6]).blk.some_ (i := 0) rfl, (h.pk7 [6]).blk.some_ (i := 1) rfl⟩) (fun wq hq => ?_) ?_; rotate_left 1
                · simp only [maskL]
                  obtain ⟨q1, q2⟩ := hq
                  repeat (go_big_quiet_step (fail))
                  exact wpQuiet_nil rfl
                refine wpAnyB_bar [false, false, false, false, false, false, false, false, false, false, false, false, false, false, false, false, false, false, false, false, false, false, false, false, false, false, false, false, true] (fuel := 2) (by rfl) (by rfl) (by kernel_rfl) (fun QB hQB hQX => ?_)
                simp only [maskL]
                go_wp2_with fail
                refine (pair_same w _ _ m r cfH (drC C qs) (h7.pk4 [3, 1, 0, 2]) HDV.out.2.ok).mono ?_
                rintro e w9 ⟨rfl, h9⟩
                clear h7
                go_wp2_with fail
                refine hQB.out _ _ ⟨(h9.pk7 [6]).blk.some_ (i := 0) rfl, (h9.pk7 [6]).blk.some_ (i := 1) rfl⟩ ?_
                clear hQB hQX QB
                refine' wpAnyB_bulk [false, false, false, false, false, false, false, false, false, false, false, false, false, false, false, false, false, false, false, false, false, false, false, false, false, false, false, false, false, true, true] 131 (listed' := #[true, true, true, true, true, true, true, true, true, true, true, true, true, true, true, true, true, true, true, true, true, true, true, true, true, true, true, true, true, true, true]) rfl (by kernel_rfl) (by kernel_rfl) (by kernel_rfl) (by kernel_rfl) (by kernel_rfl) (by kernel_rfl) (by decide) (fun _ _ _ _ h => h) rfl (by first | exact ⟨(h9.pk7 [6]).blk.some_ (i := 0) rfl, (h9.pk7 [6]).blk.some_ (i := 1) rfl⟩ | exact ⟨(h7.pk7 [6]).blk.some_ (i := 0) rfl, (h7.pk7 [6]).blk.some_ (i := 1) rfl⟩ | exact ⟨(h.pk7 [6]).blk.some_ (i := 0) rfl, (h.pk7 [6]).blk.some_ (i := 1) rfl⟩) (fun wq hq => ?_) ?_; rotate_left 1
                · simp only [maskL]
                  obtain ⟨q1, q2⟩ := hq
                  repeat (go_big_quiet_step (fail))
                  exact wpQuiet_nil rfl
                refine wpAnyB_done (by kernel_rfl) ?_ _
                -- END
                have H9 : Hid (Hold w w9 (drA d (drN hs qs) * (rdA dd bs' p' * (memA m (drC C qs) * (refA r cfH (drC C qs) * (limA gl ek * (rlA gr ek * (prA gp m r * Asr.emp)))))))) := hid (h9.pk4 [3, 2, 0, 1])
                clear h9 eib enq
                go_wp2_with fail
                go_roundw
                case rel => exact ⟨k + 1, _, _, _, _, _, _, B' + 1, by omega, by go_num, HDV.out.2, HDV.out.1, by omega, H9.out⟩
                case measure => simp [intOf]; omega
              · simp only [maskL]
                obtain ⟨A8, c8, h8⟩ := rdOpen h.swap
                rw [HNQ.out.2] at h8
                have q13 := h8.blk.some_ (i := 13) rfl
                clear h8
                go_wp2_with fail
                refine hQB.out _ _ ⟨(h.pk7 [6]).blk.some_ (i := 0) rfl, (h.pk7 [6]).blk.some_ (i := 1) rfl⟩ ?_
                clear hQB hQX QB q13
                refine' wpAnyB_bulk [false, false, false, false, false, false, false, false, false, false, false, false, true] 131 (listed' := #[true, true, true, true, true, true, true, false, true, true, true, true, true, false, false, false, false, false, false, false, false, false, false, false, false, false, false, false, false, false, false]) rfl (by kernel_rfl) (by kernel_rfl) (by kernel_rfl) (by kernel_rfl) (by kernel_rfl) (by kernel_rfl) (by decide) (fun _ _ _ _ h => h) rfl (by first | exact ⟨(h9.pk7 [6]).blk.some_ (i := 0) rfl, (h9.pk7 [6]).blk.some_ (i := 1) rfl⟩ | exact ⟨(h7.pk7 [6]).blk.some_ (i := 0) rfl, (h7.pk7 [6]).blk.some_ (i := 1) rfl⟩ | exact ⟨(h.pk7 [6]).blk.some_ (i := 0) rfl, (h.pk7 [6]).blk.some_ (i := 1) rfl⟩) (fun wq hq => ?_) ?_; rotate_left 1
                · simp only [maskL]
                  obtain ⟨q1, q2⟩ := hq
                  repeat (go_big_quiet_step (fail))
                  exact wpQuiet_nil rfl
                refine wpAnyB_bar [false, false, false, false, false, false, false, true] (fuel := 18) (by rfl) (by rfl) (by kernel_rfl) (fun QB hQB hQX => ?_)
                simp only [maskL]
                go_wp2_with fail
                refine (dr_left w W _ d qs h).mono ?_
                rintro e w' ⟨rfl, rfl⟩
                rw [← HNQ.out.1]
                go_wp2_with fail
                refine hQB.out _ _ ⟨(h.pk7 [6]).blk.some_ (i := 0) rfl, (h.pk7 [6]).blk.some_ (i := 1) rfl⟩ ?_
                clear hQB hQX QB
                refine' wpAnyB_bulk [false, false, false, false, false, false, false, false, false, false, false, false, false, true, true, true, true, true, true, false, true, true, true] 131 (listed' := #[true, true, true, true, true, true, true, true, true, true, true, true, true, true, true, true, true, true, true, false, true, true, true, false, false, false, false, false, false, false, false]) rfl (by kernel_rfl) (by kernel_rfl) (by kernel_rfl) (by kernel_rfl) (by kernel_rfl) (by kernel_rfl) (by decide) (fun _ _ _ _ h => h) rfl (by first | exact ⟨(h9.pk7 [6]).blk.some_ (i := 0) rfl, (h9.pk7 [6]).blk.some_ (i := 1) rfl⟩ | exact ⟨(h7.pk7 [6]).blk.some_ (i := 0) rfl, (h7.pk7 [6]).blk.some_ (i := 1) rfl⟩ | exact ⟨(h.pk7 [6]).blk.some_ (i := 0) rfl, (h.pk7 [6]).blk.some_ (i := 1) rfl⟩) (fun wq hq => ?_) ?_; rotate_left 1
                · simp only [maskL]
                  obtain ⟨q1, q2⟩ := hq
                  repeat (go_big_quiet_step (fail))
                  exact wpQuiet_nil rfl
                refine wpAnyB_bar [false, false, false, false, false, false, false, false, false, false, false, false, false, false, false, false, false, false, false, true] (fuel := 8) (by rfl) (by rfl) (by kernel_rfl) (fun QB hQB hQX => ?_)
                simp only [maskL]
                go_wp2_with fail
                refine (dr_stepG w W _ d m C hs ns B' qs bs p (h.pk3 [0, 2, 1]) HV.out hB9 HDD.out).mono ?_
                rintro e w6 ⟨rfl, h6⟩
                rw [← HAC.out]
                clear h
                go_wp2_with fail
                refine hQB.out _ _ ⟨(h6.pk7 [6]).blk.some_ (i := 0) rfl, (h6.pk7 [6]).blk.some_ (i := 1) rfl⟩ ?_
                clear hQB hQX QB
                refine wpAnyB_bar [false, false, false, false, false, false, false, false, false, false, false, false, false, false, false, false, false, false, false, false, false, false, false, true] (fuel := 7) (by rfl) (by rfl) (by kernel_rfl) (fun QB hQB hQX => ?_)
                simp only [maskL]
                go_wp2_with fail
                refine (rd_stepG w w6 _ dd r C hs ns B' qs bs p (h6.pk4 [2, 3, 0, 1]) HV.out hB9 HDD.out).mono ?_
                rintro e w7 ⟨bs', p', hdv, rfl, h7⟩
                rw [← HAC.out]
                have HDV := hid hdv
                clear h6 hdv
                go_wp2_with fail
                refine hQB.out _ _ ⟨(h7.pk7 [6]).blk.some_ (i := 0) rfl, (h7.pk7 [6]).blk.some_ (i := 1) rfl⟩ ?_
                clear hQB hQX QB
                refine' wpAnyB_bulk [false, false, false, false, false, false, false, false, false, false, false, false, false, false, false, false, false, false, false, false, false, false, false, false, true, true, true, true] 131 (listed' := #[true, true, true, true, true, true, true, true, true, true, true, true, true, true, true, true, true, true, true, true, true, true, true, true, true, true, true, true, false, false, false]) rfl (by kernel_rfl) (by kernel_rfl) (by kernel_rfl) (by kernel_rfl) (by kernel_rfl) (by kernel_rfl) (by decide) (fun _ _ _ _ h => h) rfl (by first | exact ⟨(h9.pk7 [6]).blk.some_ (i := 0) rfl, (h9.pk7 [6]).blk.some_ (i := 1) rfl⟩ | exact ⟨(h7.pk7 [6]).blk.some_ (i := 0) rfl, (h7.pk7 [6]).blk.some_ (i := 1) rfl⟩ | exact ⟨(h.pk7 [6]).blk.some_ (i := 0) rfl, (h.pk7 [6]).blk.some_ (i := 1) rfl⟩) (fun wq hq => ?_) ?_; rotate_left 1
                · simp only [maskL]
                  obtain ⟨q1, q2⟩ := hq
                  repeat (go_big_quiet_step (fail))
                  exact wpQuiet_nil rfl
                refine wpAnyB_bar [false, false, false, false, false, false, false, false, false, false, false, false, false, false, false, false, false, false, false, false, false, false, false, false, false, false, false, false, true] (fuel := 2) (by rfl) (by rfl) (by kernel_rfl) (fun QB hQB hQX => ?_)
                simp only [maskL]
                go_wp2_with fail
                refine (pair_same w _ _ m r cfH (drC C qs) (h7.pk4 [3, 1, 0, 2]) HDV.out.2.ok).mono ?_
                rintro e w9 ⟨rfl, h9⟩
                clear h7
                go_wp2_with fail
                refine hQB.out _ _ ⟨(h9.pk7 [6]).blk.some_ (i := 0) rfl, (h9.pk7 [6]).blk.some_ (i := 1) rfl⟩ ?_
                clear hQB hQX QB
                refine' wpAnyB_bulk [false, false, false, false, false, false, false, false, false, false, false, false, false, false, false, false, false, false, false, false, false, false, false, false, false, false, false, false, false, true, true] 131 (listed' := #[true, true, true, true, true, true, true, true, true, true, true, true, true, true, true, true, true, true, true, true, true, true, true, true, true, true, true, true, true, true, true]) rfl (by kernel_rfl) (by kernel_rfl) (by kernel_rfl) (by kernel_rfl) (by kernel_rfl) (by kernel_rfl) (by decide) (fun _ _ _ _ h => h) rfl (by first | exact ⟨(h9.pk7 [6]).blk.some_ (i := 0) rfl, (h9.pk7 [6]).blk.some_ (i := 1) rfl⟩ | exact ⟨(h7.pk7 [6]).blk.some_ (i := 0) rfl, (h7.pk7 [6]).blk.some_ (i := 1) rfl⟩ | exact ⟨(h.pk7 [6]).blk.some_ (i := 0) rfl, (h.pk7 [6]).blk.some_ (i := 1) rfl⟩) (fun wq hq => ?_) ?_; rotate_left 1
                · simp only [maskL]
                  obtain ⟨q1, q2⟩ := hq
                  repeat (go_big_quiet_step (fail))
                  exact wpQuiet_nil rfl
                refine wpAnyB_done (by kernel_rfl) ?_ _
                -- END
                have H9 : Hid (Hold w w9 (drA d (drN hs qs) * (rdA dd bs' p' * (memA m (drC C qs) * (refA r cfH (drC C qs) * (limA gl ek * (rlA gr ek * (prA gp m r * Asr.emp)))))))) := hid (h9.pk4 [3, 2, 0, 1])
                clear h9 eib enq
                go_wp2_with fail
                go_roundw
                case rel => exact ⟨k + 1, _, _, _, _, _, _, B' + 1, by omega, by go_num, HDV.out.2, HDV.out.1, by omega, H9.out⟩
                case measure => simp [intOf]; omega
            · obtain rfl : k = 12 := by omega
              have e3 : decide (((12 : Nat) : Int) < 12) = false := rfl
              rw [show ((12 : Nat) : Int) = 12 from rfl]
              have H7 : Hid (Hold w wr (limA gl ek * (rlA gr ek * (memA m C * (refA r cfH C * (prA gp m r * Asr.emp)))))) := hid (h.pk6 [4, 5, 2, 3])
              clear h
              go_wp2_with fail
              go_meet
              exact ⟨rfl, C, hs, ns, ek, B', HV.out, HDD.out.fi, by omega, by have := HEK.out.2; omega, HEK.out.1, H7.out⟩
      case rest =>
      clear h HV HF HES hc0 hc2 HX HM HA2
      obtain ⟨rfl, C, hs, ns, es, B, hv, hf, hB, hel, hes, h⟩ := hcut
      have HV := hid hv
      have HF := hid hf
      have HES := hid hes
      clear hv hf hes
      have hl2 : es.length ≤ 2000 := by omega
      obtain ⟨A1, c1, A2, c2, h⟩ := rlOpen h.swap
      obtain ⟨ne, hne⟩ : ∃ ne, ne = es.length := ⟨_, rfl⟩
      rw [← hne] at h
      have HNE := hid hne
      clear hne
      replace h : Hold w wc (limA gl es * (blkA 61 gr (rlC (.slice A1 ne c1) (.slice A2 ne c2)) * (queA 3 (.slice A1 ne c1) (bI es) * (queA 3 (.slice A2 ne c2) (vI es) * (memA m C * (refA r cfH C * (prA gp m r * Asr.emp))))))) := h.pk4 [3, 0, 1, 2]
      go_upto_region 22 with fail
      replace h := h.drew
      refine wp_region_brk [] (by kernel_rfl) ?_
      generalize hW : wc.drew = W at h ⊢
      clear hW
      refine wpAnyB_now (fun w' => w'.cell? ⟨gr, 13, none⟩ = some (.slice A1 ne c1) ∧ w'.cell? ⟨gr, 14, none⟩ = some (.slice A2 ne c2)) (fun _ _ => trivial) _ _ _ _ ?_
      refine' wpAnyB_bulk [true, false, true, true, true, true] 131 (listed' := #[true, false, true, true, true, true, false, false, false, false, false, false, false, false, false, false, false, false]) rfl (by kernel_rfl) (by kernel_rfl) (by kernel_rfl) (by kernel_rfl) (by kernel_rfl) (by kernel_rfl) (by decide) (fun _ _ _ _ h => h) rfl ⟨h.drop.blk.some_ rfl, h.drop.blk.some_ rfl⟩ (fun wq hq => ?_) ?_; rotate_left 1
      · simp only [maskL]
        obtain ⟨q1, q2⟩ := hq
        repeat (go_big_quiet_step (fail))
        exact wpQuiet_nil rfl
      refine wpAnyB_bar [false, true] (fuel := 12) (by rfl) (by rfl) (by kernel_rfl) (fun QB hQB hQX => ?_)
      simp only [maskL]
      go_wp2_with fail
      refine (lim_Blocks w W _ gl es h hl2).mono ?_
      rintro e y1 ⟨A5, c5, rfl, h1⟩
      rw [← HNE.out] at h1 ⊢
      clear h
      go_wp2_with fail
      refine hQB.out _ _ ⟨h1.drop.drop.blk.some_ rfl, h1.drop.drop.blk.some_ rfl⟩ ?_
      clear hQB hQX QB
      refine wpAnyB_bar [false, false, false, false, false, false, true] (fuel := 11) (by rfl) (by rfl) (by kernel_rfl) (fun QB hQB hQX => ?_)
      simp only [maskL]
      go_wp2_with fail
      have hr1 := ints_row h1
      obtain ⟨-, -, b2, r2⟩ := h1.drop.drop.drop.queRd
      obtain ⟨b1, r1⟩ := hr1
      rw [bI_map] at r1
      have r2' : Reads y1 b2 A1 ne ((es.map (·.1)).map (Value.int .i64)) := by rw [← bI_map]; exact r2
      refine (ints_any y1 A5 A1 ne ne c5 c1 b1 b2 _ _ r1 r2' (by have := HNE.out; omega)).mono ?_
      rintro e y2 ⟨rfl, qd, rfl⟩
      rw [decide_eq_true (rfl : es.map (·.1) = es.map (·.1))]
      clear r1 r2 r2'
      have h2 := h1.drewN qd
      clear h1
      generalize hW : y1.drewN qd = y2 at h2 ⊢
      clear hW
      have h1 := h2
      clear h2
      go_wp2_with fail
      refine hQB.out _ _ ⟨h1.drop.drop.blk.some_ rfl, h1.drop.drop.blk.some_ rfl⟩ ?_
      clear hQB hQX QB
      have h := h1.drop
      clear h1
      refine' wpAnyB_bulk [false, false, false, false, false, false, false, true, true, true, false, true, true, true, true] 131 (listed' := #[true, true, true, true, true, true, true, true, true, true, false, true, true, true, true, false, false, false]) rfl (by kernel_rfl) (by kernel_rfl) (by kernel_rfl) (by kernel_rfl) (by kernel_rfl) (by kernel_rfl) (by decide) (fun _ _ _ _ h => h) rfl ⟨h.drop.blk.some_ rfl, h.drop.blk.some_ rfl⟩ (fun wq hq => ?_) ?_; rotate_left 1
      · simp only [maskL]
        obtain ⟨q1, q2⟩ := hq
        repeat (go_big_quiet_step (fail))
        exact wpQuiet_nil rfl
      refine wpAnyB_bar [false, false, false, false, false, false, false, false, false, false, true] (fuel := 3) (by rfl) (by rfl) (by kernel_rfl) (fun QB hQB hQX => ?_)
      simp only [maskL]
      go_wp2_with fail
      refine (lim_Versions w _ _ gl es h hl2).mono ?_
      rintro e y3 ⟨A5, c5, rfl, h1⟩
      rw [← HNE.out] at h1 ⊢
      clear h
      go_wp2_with fail
      refine hQB.out _ _ ⟨h1.drop.drop.blk.some_ rfl, h1.drop.drop.blk.some_ rfl⟩ ?_
      clear hQB hQX QB
      refine wpAnyB_bar [false, false, false, false, false, false, false, false, false, false, false, false, false, false, false, true] (fuel := 2) (by rfl) (by rfl) (by kernel_rfl) (fun QB hQB hQX => ?_)
      simp only [maskL]
      go_wp2_with fail
      have hr1 := ints_row h1
      obtain ⟨-, -, b2, r2⟩ := h1.drop.drop.drop.drop.queRd
      obtain ⟨b1, r1⟩ := hr1
      rw [vI_map] at r1
      have r2' : Reads y3 b2 A2 ne ((es.map (·.2)).map (Value.int .i64)) := by rw [← vI_map]; exact r2
      refine (ints_any y3 A5 A2 ne ne c5 c2 b1 b2 _ _ r1 r2' (by have := HNE.out; omega)).mono ?_
      rintro e y4 ⟨rfl, qd, rfl⟩
      rw [decide_eq_true (rfl : es.map (·.2) = es.map (·.2))]
      clear r1 r2 r2'
      have h2 := h1.drewN qd
      clear h1
      generalize hW : y3.drewN qd = y4 at h2 ⊢
      clear hW
      have h1 := h2
      clear h2
      go_wp2_with fail
      refine hQB.out _ _ ⟨h1.drop.drop.blk.some_ rfl, h1.drop.drop.blk.some_ rfl⟩ ?_
      clear hQB hQX QB
      refine' wpAnyB_bulk [false, false, false, false, false, false, false, false, false, false, false, false, false, false, false, false, true, true] 131 (listed' := #[true, true, true, true, true, true, true, true, true, true, true, true, true, true, true, true, true, true]) rfl (by kernel_rfl) (by kernel_rfl) (by kernel_rfl) (by kernel_rfl) (by kernel_rfl) (by kernel_rfl) (by decide) (fun _ _ _ _ h => h) rfl ⟨h1.drop.drop.blk.some_ rfl, h1.drop.drop.blk.some_ rfl⟩ (fun wq hq => ?_) ?_; rotate_left 1
      · simp only [maskL]
        obtain ⟨q1, q2⟩ := hq
        repeat (go_big_quiet_step (fail))
        exact wpQuiet_nil rfl
      refine wpAnyB_done (by kernel_rfl) ?_ _
      have h2 : Hold w y4 (blkA 61 gr (rlC (.slice A1 ne c1) (.slice A2 ne c2)) * (queA 3 (.slice A1 ne c1) (bI es) * (queA 3 (.slice A2 ne c2) (vI es) * (limA gl es * (memA m C * (refA r cfH C * (prA gp m r * Asr.emp))))))) := h1.pk5 [2, 3, 4, 1]
      have H9 := hid ((rlClose h2).swap)
      clear h1 h2
      go_wp2_with fail
      go_roundw
      case rel => exact ⟨i + 1, C, hs, ns, es, B, by omega, by go_num, HV.out, HF.out, by omega, by omega, HES.out, H9.out⟩
      case measure => simp [intOf]; omega
    · obtain rfl : i = n := by omega
      have e2 : decide ((i : Int) < (i : Int)) = false := decide_eq_false (by omega)
      have HW := hid (awake18_any w wr _ h)
      clear h
      go_wp2_with fail
      refine HW.out.mono ?_
      rintro e w1 ⟨rfl, h1⟩
      have H1 := hid h1.below
      clear HW h1
      go_wp2_with fail
      go_ret
      exact ⟨rfl, H1.out⟩
theorem limboFollows_walk (a0 : Option Addr) (len0 cap0 : Nat) (w : World) (w0 : KFits w 5 (.slice [.bool, .int .i64, .slice [.int .i64]]) (.slice a0 len0 cap0)) :
    Calls Try.prog 3 #[.slice a0 len0 cap0] w fun e w' => e = .returned (.bool true) ∧ Below w.heap.size w w' := by
  obtain ⟨A, n, c, hv, h⟩ := followsArg w0
  injection hv with h1 h2 h3
  subst h1 h2 h3
  exact limboFollows_any w a0 len0 cap0 h
end Go.Proofs.Ytopcnaakdldkpaa
