/- strongtxlaw09: EpochGrace, the walk. -/
import Derived.Test.YtigjpfhjddkckaaEp7
namespace Go.Proofs.Ytigjpfhjddkckaa
open Go.RowKit
set_option linter.unusedVariables false

set_option maxRecDepth 8000 in
set_option maxHeartbeats 16000000 in
theorem epochGrace_any (l0 l1 l2 l3 l4 : Int) (A1 : Option Addr) (n1 c1 b1 : Nat) (x1 : List Int) (w : World) (hA1 : Reads w b1 A1 n1 (x1.map (Value.int .i64))) (le1 : n1 ≤ 9223372036854775807) :
    Calls Try.prog 12 #[.agg #[.int .i64 l0, .int .i64 l1, .int .i64 l2, .int .i64 l3, .int .i64 l4], .slice A1 n1 c1] w (fun e w' => e = .returned (.bool true) ∧ Below w.heap.size w w') := by
  have HX := hid hA1
  clear hA1
  obtain ⟨c, hc⟩ : ∃ c, c = mkCfg l0 l1 l2 l3 l4 := ⟨_, rfl⟩
  have hok : cfgErr c = 0 := by rw [hc]; exact mkCfg_ok _ _ _ _ _
  have HF : Hid (∀ w, Calls Try.prog 73 #[.int .i64 l0, .int .i64 l1, .int .i64 l2, .int .i64 l3, .int .i64 l4] w (fun e w' => e = .returned c.val ∧ Chg [] w w')) := hid fun w => by rw [hc]; exact config_any w l0 l1 l2 l3 l4
  have HS := hid (SL.init hok)
  have HC := hid hok
  have h0 := hid ((Hold.start w).alloc (.cells #[.int .i64 l0, .int .i64 l1, .int .i64 l2, .int .i64 l3, .int .i64 l4] 72))
  clear hok hc
  by_cases hp : 80 < n1
  · have ep : decide ((80 : Int) < (n1 : Int)) = true := decide_eq_true (by omega)
    go_enter Try.func12, Try.ntmps12
    go_wp2_with fail
    refine (awake09_any w _ _ h0.out).mono ?_
    rintro e v3 ⟨rfl, h11⟩
    have H11 := hid h11.below
    clear h11
    go_wp2_with fail
    go_ret
    exact ⟨rfl, H11.out⟩
  have ep : decide ((80 : Int) < (n1 : Int)) = false := decide_eq_false (by omega)
  go_enter Try.func12, Try.ntmps12
  go_wp2_with fail
  refine (lab_small w _ _ c l0 l1 l2 l3 l4 HF.out HC.out h0.out).mono ?_
  rintro e v1 ⟨m, r, rfl, h1⟩
  obtain ⟨C0, hC0⟩ : ∃ C0, C0 = newC c 4 (initL c.words.toNat) := ⟨_, rfl⟩
  rw [← hC0] at h1
  have HS0 : Hid (SL C0 0 (fun _ => 0)) := hid (by rw [hC0]; exact HS.out)
  have h2 := (h1.newBlk (t := 27) (cs := #[.pointer (some ⟨m, 0, none⟩), .pointer (some ⟨r, 0, none⟩)])).newBlk (t := 93) (cs := #[.pointer none, .pointer none, .pointer none, .pointer none])
  simp only [World.size_alloc] at h2
  have H2 := hid h2
  clear h0 h1 h2 hC0 HS HC HF
  go_wp2_with fail
  have h2 := H2.out
  generalize hW : World.alloc _ _ = W2 at h2 ⊢
  generalize v1.heap.size + 1 = ga at h2 ⊢
  generalize v1.heap.size = gp at h2 ⊢
  clear hW H2
  have h3 : Hold w W2 (GS ga m C0 [none, none, none, none] (feO none * (prA gp m r * (refA r c C0 * Asr.emp)))) := (Hold.imp (h2.pk4 [0, 2, 1, 3]) (Imp.under _ (Imp.objsEmp (f := enO) (xs := [none, none, none, none]) (fun x hx => by simp at hx; subst hx; rfl)))).imp (Imp.under _ (Imp.under _ (Imp.under _ (Imp.intro_emp _))))
  have HI0 : Hid (GI C0 C0 [none, none, none, none] 0 (2 * (0 : Nat))) := hid ⟨HS0.out.eq fun k hk => by
      match k, hk with
      | 0, _ => rfl
      | 1, _ => rfl
      | 2, _ => rfl
      | 3, _ => rfl, HS0.out, rfl, by omega, fun k m hk => by
    match k, hk with
    | 0, hk => cases hk
    | 1, hk => cases hk
    | 2, hk => cases hk
    | 3, hk => cases hk
    | k + 4, hk => simp at hk⟩
  clear h2 HS0
  go_loopw [8, 9, 10] (fun fp cv j wr => ∃ (i : Nat) (C D : Nat → List Int) (xs : List (Option EM)) (clk : Int) (fo : Option FM), i ≤ n1 ∧ j = .int .i64 i ∧ cv = .int .u64 clk ∧ fp = ptrV (fo.map FM.g) ∧ GI C D xs clk (2 * i) ∧ GF xs clk fo ∧ Hold w wr (GS ga m C xs (feO fo * (prA gp m r * (refA r c D * Asr.emp))))) (fun _ _ j _ => n1 - (intOf j).toNat)
  case atStart => exact ⟨0, C0, C0, _, 0, none, by omega, rfl, rfl, rfl, HI0.out, trivial, h3⟩
  case round =>
    clear h3 HI0
    obtain ⟨i, C, D, xs, clk, fo, hi, rfl, rfl, rfl, hI, hF, h⟩ := hrel
    have HI := hid hI
    have HF := hid hF
    have cb := hI.cb
    clear hI hF
    by_cases hlt : i < n1
    · have e1 : decide ((i : Int) < (n1 : Int)) = true := decide_eq_true (by omega)
      have i0 : (0 : Int) ≤ (i : Int) := by omega
      have i1 : (i : Int) < (n1 : Int) := by omega
      obtain ⟨ad, rfl, _, hcell⟩ := (HX.out.below h.below).numAt hlt
      obtain ⟨_, hA, _, hold⟩ := HX.out.numAt hlt
      obtain rfl := Option.some.inj hA
      generalize x1.getD i 0 = z at hcell hold
      have HOLD := hid hold
      clear hA hold
      obtain ⟨t, ht⟩ : ∃ t : Nat, place z 6 = t := ⟨(place z 6).toNat, by have := place_nonneg z 6 (by omega); omega⟩
      have t6 : t < 6 := by have := place_lt z 6 (by omega); omega
      have t0' : (0 : Int) ≤ (t : Int) := by omega
      have Ht := hid ht
      clear ht
      go_wp2_with fail
      refine (place_any _ _ _ (by omega) (by omega)).mono ?_
      rintro e w' ⟨rfl, rfl⟩
      rw [Ht.out]
      clear Ht
      by_cases ht4 : t = 4
      · subst ht4
        go_wp2_with fail
        refine (place_any _ _ _ (by omega) (by omega)).mono ?_
        rintro e w' ⟨rfl, rfl⟩
        generalize hd : place _ 3 = d
        have d0 : 0 ≤ d ∧ d ≤ 2 := by rw [← hd]; exact ⟨place_nonneg _ 3 (by omega), by have := place_lt (wrap64 (z.tdiv 6)) 3 (by omega); omega⟩
        clear hd
        have p0 := (GS.rest h).drop.blk.some_ (i := 0) rfl
        have p1 := (GS.rest h).drop.blk.some_ (i := 1) rfl
        have wr0 : clk + d ≤ 1000000 := by omega
        clear hcell
        go_wp2_with fail
        refine (pair_set2 w _ _ m r c C D 3 0 (clk + d) (h.pk6 [2, 5, 0, 1, 3, 4]) HI.out.sl.ok HI.out.sl.has3 HI.out.sd.ok HI.out.sd.has3 (HI.out.sd.clk.trans HI.out.sl.clk.symm) (by omega)).mono ?_
        rintro e v5 ⟨rfl, h5⟩
        have HI2 := hid (HI.out.tick (d := d) (B' := 2 * (i + 1 : Nat)) d0.1 (by omega))
        have HF2 := hid (HF.out.tick (d := d) d0.1)
        have H9 := hid (h5.pk6 [2, 3, 0, 4, 5, 1])
        clear h h5 p0 p1 HI HF
        go_wp2_with fail
        go_round
        case rel => exact ⟨i + 1, _, _, xs, clk + d, fo, by omega, by go_num, rfl, rfl, HI2.out, HF2.out, H9.out⟩
        case measure => simp [intOf]; omega
      by_cases ht5 : t = 5 ∨ t = 0
      · have e5 : (if ((t : Int) == 5) = true then true else ((t : Int) == 0)) = true := by rcases ht5 with rfl | rfl <;> rfl
        have e4 : ((t : Int) == 4) = false := by rcases ht5 with rfl | rfl <;> rfl
        have hcs : t = 5 ∨ t = 0 := ht5
        cases fo with
        | none =>
          rw [show ptrV (Option.map FM.g (none : Option FM)) = .pointer none from rfl]
          rcases hcs with rfl | rfl
          · clear e5 e4 hcell
            go_wp2_with fail
            refine (fe_new w _ _ 0 4 h).mono ?_
            rintro e v2 ⟨f, rfl, h4⟩
            replace h4 : Hold w v2 (GS ga m C xs (feA (FM.mk f false 0 0).g 0 4 (FM.mk f false 0 0).ld (FM.mk f false 0 0).lim (FM.mk f false 0 0).nx * (prA gp m r * (refA r c D * Asr.emp)))) := Hold.pk7 h4 [1, 2, 3, 0, 5, 6]
            have HFf : Hid (GF xs clk (some (FM.mk f false 0 0))) := hid (.inl ⟨rfl, rfl, rfl⟩)
            rw [show Value.pointer (some ⟨f, 0, none⟩) = Value.pointer (some ⟨(FM.mk f false 0 0).g, 0, none⟩) from rfl]
            generalize FM.mk f false 0 0 = ff at h4 HFf ⊢
            clear h HF
            have h := h4
            clear h4
            have p0 := (GS.rest h).drop.blk.some_ (i := 0) rfl
            go_wp2_with fail
            refine (gf_step w _ (h.pk4 [3, 2, 0, 1]) HI.out HFf.out (by omega)).mono ?_
            rintro e v5 ⟨ac, f2, hg2, rfl, h5, hf2⟩
            have h6 : Hold w v5 (GS ga m C xs (feA f2.g 0 4 f2.ld f2.lim f2.nx * (prA gp m r * (refA r c D * Asr.emp)))) := h5.pk4 [2, 3, 1, 0]
            have HF2 := hid hf2
            rw [← hg2]
            clear h h5 p0 hf2 HFf hg2
            go_wp2_with fail
            refine (fe_done w _ _ f2.g 0 4 f2.ld f2.lim f2.nx (h6.pk4 [3, 0, 1, 2])).mono ?_
            rintro e v6 ⟨rfl, h7⟩
            replace h7 : Hold w v6 (GS ga m C xs (feA f2.g 0 4 f2.ld f2.lim f2.nx * (prA gp m r * (refA r c D * Asr.emp)))) := h7.pk4 [1, 2, 3, 0]
            clear h6
            obtain ⟨dn, hdn⟩ : ∃ dn, dn = (f2.ld && decide (4 ≤ f2.nx)) := ⟨_, rfl⟩
            rw [← hdn]
            have HDN := hid hdn
            clear hdn
            cases dn
            · have H9 := hid h7
              have HI2 := hid (HI.out.le (B' := 2 * (i + 1 : Nat)) (by omega))
              clear h7 HI
              go_wp2_with fail
              go_round
              case rel => exact ⟨i + 1, C, D, xs, clk, some f2, by omega, by go_num, rfl, rfl, HI2.out, HF2.out, H9.out⟩
              case measure => simp [intOf]; omega
            · have hld : f2.ld = true ∧ 4 ≤ f2.nx := by
                have := HDN.out.symm
                simpa using this
              have hlim : 0 ≤ f2.lim ∧ f2.lim ≤ 1000000 := by
                have := HF2.out
                have cb := HI.out.cb
                rcases this with ⟨h1, h2, _⟩ | ⟨_, h2, h3, _⟩
                · rw [hld.1] at h1; cases h1
                · omega
              have HLD := hid hld
              clear hld
              go_wp2_with fail
              go_loopw [12] (fun q wx => ∃ k : Nat, 1 ≤ k ∧ k ≤ 4 ∧ q = .int .i64 k ∧ Hold w wx (GS ga m C xs (feA f2.g 0 4 f2.ld f2.lim f2.nx * (prA gp m r * (refA r c D * Asr.emp))))) (fun q _ => 4 - (intOf q).toNat)
              case atStart => exact ⟨1, by omega, by omega, rfl, h7⟩
              case round =>
                clear h7
                obtain ⟨k, hk1, hk4, rfl, h8⟩ := hrel
                by_cases hkl : k < 4
                · have e2 : decide ((k : Int) < 4) = true := decide_eq_true (by omega)
                  have k0 : (0 : Int) ≤ (k : Int) := by omega
                  have k4' : (k : Int) < 4 := by omega
                  have p0 := (GS.rest h8).drop.blk.some_ (i := 0) rfl
                  go_wp2_with fail
                  refine (image_any w _ _ m C (h8.pk3 [2, 0, 1]) HI.out.sl.ok).mono ?_
                  rintro e v9 ⟨y, rfl, h9⟩
                  unfold imgV
                  obtain ⟨ad2, cp2, hsl, hcells⟩ := img_slots h9 HI.out.sl
                  rw [hsl]
                  have fd := field_slot (slV C y 1) (slV C y 2) (.int .u64 (w1 C 3)) (.int .u64 (w1 C 4)) (.int .u64 (w1 C 5)) (.slice (some ad2) 4 cp2) (slV C y 7) (slV C y 8) v9
                  have hc1 := hcells k hkl
                  have h10 : Hold w v9 (GS ga m C xs (feA f2.g 0 4 f2.ld f2.lim f2.nx * (prA gp m r * (refA r c D * Asr.emp)))) := h9.rest.pk3 [1, 2, 0]
                  have hov := HF2.out.over HI.out HLD.out.1 HLD.out.2 hk1 hkl
                  obtain ⟨sk, hsk⟩ : ∃ sk, sk = sOf xs k := ⟨_, rfl⟩
                  rw [← hsk] at hov hc1
                  have skb : 0 ≤ sk ∧ sk ≤ 1000002 := by
                    rw [hsk]
                    have hl : k < xs.length := by rw [HI.out.len]; exact hkl
                    have cb := HI.out.cb
                    unfold sOf
                    cases ho : xs.getD k none with
                    | none => exact ⟨by decide, by decide⟩
                    | some q =>
                      have hx : xs[k]? = some (some q) := by
                        rw [List.getElem?_eq_getElem hl]
                        simpa [List.getD, List.getElem?_eq_getElem hl] using ho
                      have := HI.out.wf k q hx
                      rw [sV_some]; split <;> omega
                  clear h8 h9 hsl hcells p0 hsk
                  by_cases hs2 : 2 ≤ sk
                  · have e5 : decide (2 ≤ sk) = true := decide_eq_true hs2
                    have e6 : decide (sk - 2 < f2.lim) = false := decide_eq_false (by have := hov hs2; omega)
                    clear hov
                    go_wp2_with fail
                    refine (fe_limit w _ _ f2.g 0 4 f2.ld f2.lim f2.nx (h10.pk4 [3, 0, 1, 2]) (by omega)).mono ?_
                    rintro e w' ⟨rfl, rfl⟩
                    rw [show (if f2.ld then f2.lim else -1) = f2.lim by rw [HLD.out.1]; rfl]
                    clear fd hc1
                    go_wp2_with fail
                    go_round
                    case rel => exact ⟨k + 1, by omega, by omega, by go_num, h10⟩
                    case measure => simp [intOf]; omega
                  · have e5 : decide (2 ≤ sk) = false := decide_eq_false hs2
                    clear hov
                    go_wp2_with fail
                    clear fd hc1
                    go_round
                    case rel => exact ⟨k + 1, by omega, by omega, by go_num, h10⟩
                    case measure => simp [intOf]; omega
                · obtain rfl : k = 4 := by omega
                  have e2 : decide (((4 : Nat) : Int) < 4) = false := rfl
                  have h9 : Hold w wr (GS ga m C xs (feO none * (prA gp m r * (refA r c D * Asr.emp)))) := (Hold.pk6 h8 [0, 1, 2, 4, 5]).imp (Imp.under _ (Imp.under _ (Imp.under _ (Imp.intro_emp _))))
                  have H9 := hid h9
                  have HI2 := hid (HI.out.le (B' := 2 * (i + 1 : Nat)) (by omega))
                  clear h8 h9 HI HF2
                  go_wp2_with fail
                  go_round
                  case rel => exact ⟨i + 1, C, D, xs, clk, none, by omega, by go_num, rfl, rfl, HI2.out, trivial, H9.out⟩
                  case measure => simp [intOf]; omega
          · clear e5 e4 hcell
            go_wp2_with fail
            refine (fe_new w _ _ 0 4 h).mono ?_
            rintro e v2 ⟨f, rfl, h4⟩
            replace h4 : Hold w v2 (GS ga m C xs (feA (FM.mk f false 0 0).g 0 4 (FM.mk f false 0 0).ld (FM.mk f false 0 0).lim (FM.mk f false 0 0).nx * (prA gp m r * (refA r c D * Asr.emp)))) := Hold.pk7 h4 [1, 2, 3, 0, 5, 6]
            have HFf : Hid (GF xs clk (some (FM.mk f false 0 0))) := hid (.inl ⟨rfl, rfl, rfl⟩)
            rw [show Value.pointer (some ⟨f, 0, none⟩) = Value.pointer (some ⟨(FM.mk f false 0 0).g, 0, none⟩) from rfl]
            generalize FM.mk f false 0 0 = ff at h4 HFf ⊢
            clear h HF
            have h := h4
            clear h4
            have p0 := (GS.rest h).drop.blk.some_ (i := 0) rfl
            go_wp2_with fail
            refine (gf_step w _ (h.pk4 [3, 2, 0, 1]) HI.out HFf.out (by omega)).mono ?_
            rintro e v5 ⟨ac, f2, hg2, rfl, h5, hf2⟩
            have h6 : Hold w v5 (GS ga m C xs (feA f2.g 0 4 f2.ld f2.lim f2.nx * (prA gp m r * (refA r c D * Asr.emp)))) := h5.pk4 [2, 3, 1, 0]
            have HF2 := hid hf2
            rw [← hg2]
            clear h h5 p0 hf2 HFf hg2
            go_wp2_with fail
            refine (fe_done w _ _ f2.g 0 4 f2.ld f2.lim f2.nx (h6.pk4 [3, 0, 1, 2])).mono ?_
            rintro e v6 ⟨rfl, h7⟩
            replace h7 : Hold w v6 (GS ga m C xs (feA f2.g 0 4 f2.ld f2.lim f2.nx * (prA gp m r * (refA r c D * Asr.emp)))) := h7.pk4 [1, 2, 3, 0]
            clear h6
            obtain ⟨dn, hdn⟩ : ∃ dn, dn = (f2.ld && decide (4 ≤ f2.nx)) := ⟨_, rfl⟩
            rw [← hdn]
            have HDN := hid hdn
            clear hdn
            cases dn
            · have H9 := hid h7
              have HI2 := hid (HI.out.le (B' := 2 * (i + 1 : Nat)) (by omega))
              clear h7 HI
              go_wp2_with fail
              go_round
              case rel => exact ⟨i + 1, C, D, xs, clk, some f2, by omega, by go_num, rfl, rfl, HI2.out, HF2.out, H9.out⟩
              case measure => simp [intOf]; omega
            · have hld : f2.ld = true ∧ 4 ≤ f2.nx := by
                have := HDN.out.symm
                simpa using this
              have hlim : 0 ≤ f2.lim ∧ f2.lim ≤ 1000000 := by
                have := HF2.out
                have cb := HI.out.cb
                rcases this with ⟨h1, h2, _⟩ | ⟨_, h2, h3, _⟩
                · rw [hld.1] at h1; cases h1
                · omega
              have HLD := hid hld
              clear hld
              go_wp2_with fail
              go_loopw [12] (fun q wx => ∃ k : Nat, 1 ≤ k ∧ k ≤ 4 ∧ q = .int .i64 k ∧ Hold w wx (GS ga m C xs (feA f2.g 0 4 f2.ld f2.lim f2.nx * (prA gp m r * (refA r c D * Asr.emp))))) (fun q _ => 4 - (intOf q).toNat)
              case atStart => exact ⟨1, by omega, by omega, rfl, h7⟩
              case round =>
                clear h7
                obtain ⟨k, hk1, hk4, rfl, h8⟩ := hrel
                by_cases hkl : k < 4
                · have e2 : decide ((k : Int) < 4) = true := decide_eq_true (by omega)
                  have k0 : (0 : Int) ≤ (k : Int) := by omega
                  have k4' : (k : Int) < 4 := by omega
                  have p0 := (GS.rest h8).drop.blk.some_ (i := 0) rfl
                  go_wp2_with fail
                  refine (image_any w _ _ m C (h8.pk3 [2, 0, 1]) HI.out.sl.ok).mono ?_
                  rintro e v9 ⟨y, rfl, h9⟩
                  unfold imgV
                  obtain ⟨ad2, cp2, hsl, hcells⟩ := img_slots h9 HI.out.sl
                  rw [hsl]
                  have fd := field_slot (slV C y 1) (slV C y 2) (.int .u64 (w1 C 3)) (.int .u64 (w1 C 4)) (.int .u64 (w1 C 5)) (.slice (some ad2) 4 cp2) (slV C y 7) (slV C y 8) v9
                  have hc1 := hcells k hkl
                  have h10 : Hold w v9 (GS ga m C xs (feA f2.g 0 4 f2.ld f2.lim f2.nx * (prA gp m r * (refA r c D * Asr.emp)))) := h9.rest.pk3 [1, 2, 0]
                  have hov := HF2.out.over HI.out HLD.out.1 HLD.out.2 hk1 hkl
                  obtain ⟨sk, hsk⟩ : ∃ sk, sk = sOf xs k := ⟨_, rfl⟩
                  rw [← hsk] at hov hc1
                  have skb : 0 ≤ sk ∧ sk ≤ 1000002 := by
                    rw [hsk]
                    have hl : k < xs.length := by rw [HI.out.len]; exact hkl
                    have cb := HI.out.cb
                    unfold sOf
                    cases ho : xs.getD k none with
                    | none => exact ⟨by decide, by decide⟩
                    | some q =>
                      have hx : xs[k]? = some (some q) := by
                        rw [List.getElem?_eq_getElem hl]
                        simpa [List.getD, List.getElem?_eq_getElem hl] using ho
                      have := HI.out.wf k q hx
                      rw [sV_some]; split <;> omega
                  clear h8 h9 hsl hcells p0 hsk
                  by_cases hs2 : 2 ≤ sk
                  · have e5 : decide (2 ≤ sk) = true := decide_eq_true hs2
                    have e6 : decide (sk - 2 < f2.lim) = false := decide_eq_false (by have := hov hs2; omega)
                    clear hov
                    go_wp2_with fail
                    refine (fe_limit w _ _ f2.g 0 4 f2.ld f2.lim f2.nx (h10.pk4 [3, 0, 1, 2]) (by omega)).mono ?_
                    rintro e w' ⟨rfl, rfl⟩
                    rw [show (if f2.ld then f2.lim else -1) = f2.lim by rw [HLD.out.1]; rfl]
                    clear fd hc1
                    go_wp2_with fail
                    go_round
                    case rel => exact ⟨k + 1, by omega, by omega, by go_num, h10⟩
                    case measure => simp [intOf]; omega
                  · have e5 : decide (2 ≤ sk) = false := decide_eq_false hs2
                    clear hov
                    go_wp2_with fail
                    clear fd hc1
                    go_round
                    case rel => exact ⟨k + 1, by omega, by omega, by go_num, h10⟩
                    case measure => simp [intOf]; omega
                · obtain rfl : k = 4 := by omega
                  have e2 : decide (((4 : Nat) : Int) < 4) = false := rfl
                  have h9 : Hold w wr (GS ga m C xs (feO none * (prA gp m r * (refA r c D * Asr.emp)))) := (Hold.pk6 h8 [0, 1, 2, 4, 5]).imp (Imp.under _ (Imp.under _ (Imp.under _ (Imp.intro_emp _))))
                  have H9 := hid h9
                  have HI2 := hid (HI.out.le (B' := 2 * (i + 1 : Nat)) (by omega))
                  clear h8 h9 HI HF2
                  go_wp2_with fail
                  go_round
                  case rel => exact ⟨i + 1, C, D, xs, clk, none, by omega, by go_num, rfl, rfl, HI2.out, trivial, H9.out⟩
                  case measure => simp [intOf]; omega
        | some ff =>
          have HFf := hid HF.out
          rw [show ptrV (Option.map FM.g (some ff)) = .pointer (some ⟨ff.g, 0, none⟩) from rfl]
          replace h : Hold w wr (GS ga m C xs (feA ff.g 0 4 ff.ld ff.lim ff.nx * (prA gp m r * (refA r c D * Asr.emp)))) := h
          clear HF
          rcases hcs with rfl | rfl
          · clear e5 e4 hcell
            have p0 := (GS.rest h).drop.blk.some_ (i := 0) rfl
            go_wp2_with fail
            refine (gf_step w _ (h.pk4 [3, 2, 0, 1]) HI.out HFf.out (by omega)).mono ?_
            rintro e v5 ⟨ac, f2, hg2, rfl, h5, hf2⟩
            have h6 : Hold w v5 (GS ga m C xs (feA f2.g 0 4 f2.ld f2.lim f2.nx * (prA gp m r * (refA r c D * Asr.emp)))) := h5.pk4 [2, 3, 1, 0]
            have HF2 := hid hf2
            rw [← hg2]
            clear h h5 p0 hf2 HFf hg2
            go_wp2_with fail
            refine (fe_done w _ _ f2.g 0 4 f2.ld f2.lim f2.nx (h6.pk4 [3, 0, 1, 2])).mono ?_
            rintro e v6 ⟨rfl, h7⟩
            replace h7 : Hold w v6 (GS ga m C xs (feA f2.g 0 4 f2.ld f2.lim f2.nx * (prA gp m r * (refA r c D * Asr.emp)))) := h7.pk4 [1, 2, 3, 0]
            clear h6
            obtain ⟨dn, hdn⟩ : ∃ dn, dn = (f2.ld && decide (4 ≤ f2.nx)) := ⟨_, rfl⟩
            rw [← hdn]
            have HDN := hid hdn
            clear hdn
            cases dn
            · have H9 := hid h7
              have HI2 := hid (HI.out.le (B' := 2 * (i + 1 : Nat)) (by omega))
              clear h7 HI
              go_wp2_with fail
              go_round
              case rel => exact ⟨i + 1, C, D, xs, clk, some f2, by omega, by go_num, rfl, rfl, HI2.out, HF2.out, H9.out⟩
              case measure => simp [intOf]; omega
            · have hld : f2.ld = true ∧ 4 ≤ f2.nx := by
                have := HDN.out.symm
                simpa using this
              have hlim : 0 ≤ f2.lim ∧ f2.lim ≤ 1000000 := by
                have := HF2.out
                have cb := HI.out.cb
                rcases this with ⟨h1, h2, _⟩ | ⟨_, h2, h3, _⟩
                · rw [hld.1] at h1; cases h1
                · omega
              have HLD := hid hld
              clear hld
              go_wp2_with fail
              go_loopw [12] (fun q wx => ∃ k : Nat, 1 ≤ k ∧ k ≤ 4 ∧ q = .int .i64 k ∧ Hold w wx (GS ga m C xs (feA f2.g 0 4 f2.ld f2.lim f2.nx * (prA gp m r * (refA r c D * Asr.emp))))) (fun q _ => 4 - (intOf q).toNat)
              case atStart => exact ⟨1, by omega, by omega, rfl, h7⟩
              case round =>
                clear h7
                obtain ⟨k, hk1, hk4, rfl, h8⟩ := hrel
                by_cases hkl : k < 4
                · have e2 : decide ((k : Int) < 4) = true := decide_eq_true (by omega)
                  have k0 : (0 : Int) ≤ (k : Int) := by omega
                  have k4' : (k : Int) < 4 := by omega
                  have p0 := (GS.rest h8).drop.blk.some_ (i := 0) rfl
                  go_wp2_with fail
                  refine (image_any w _ _ m C (h8.pk3 [2, 0, 1]) HI.out.sl.ok).mono ?_
                  rintro e v9 ⟨y, rfl, h9⟩
                  unfold imgV
                  obtain ⟨ad2, cp2, hsl, hcells⟩ := img_slots h9 HI.out.sl
                  rw [hsl]
                  have fd := field_slot (slV C y 1) (slV C y 2) (.int .u64 (w1 C 3)) (.int .u64 (w1 C 4)) (.int .u64 (w1 C 5)) (.slice (some ad2) 4 cp2) (slV C y 7) (slV C y 8) v9
                  have hc1 := hcells k hkl
                  have h10 : Hold w v9 (GS ga m C xs (feA f2.g 0 4 f2.ld f2.lim f2.nx * (prA gp m r * (refA r c D * Asr.emp)))) := h9.rest.pk3 [1, 2, 0]
                  have hov := HF2.out.over HI.out HLD.out.1 HLD.out.2 hk1 hkl
                  obtain ⟨sk, hsk⟩ : ∃ sk, sk = sOf xs k := ⟨_, rfl⟩
                  rw [← hsk] at hov hc1
                  have skb : 0 ≤ sk ∧ sk ≤ 1000002 := by
                    rw [hsk]
                    have hl : k < xs.length := by rw [HI.out.len]; exact hkl
                    have cb := HI.out.cb
                    unfold sOf
                    cases ho : xs.getD k none with
                    | none => exact ⟨by decide, by decide⟩
                    | some q =>
                      have hx : xs[k]? = some (some q) := by
                        rw [List.getElem?_eq_getElem hl]
                        simpa [List.getD, List.getElem?_eq_getElem hl] using ho
                      have := HI.out.wf k q hx
                      rw [sV_some]; split <;> omega
                  clear h8 h9 hsl hcells p0 hsk
                  by_cases hs2 : 2 ≤ sk
                  · have e5 : decide (2 ≤ sk) = true := decide_eq_true hs2
                    have e6 : decide (sk - 2 < f2.lim) = false := decide_eq_false (by have := hov hs2; omega)
                    clear hov
                    go_wp2_with fail
                    refine (fe_limit w _ _ f2.g 0 4 f2.ld f2.lim f2.nx (h10.pk4 [3, 0, 1, 2]) (by omega)).mono ?_
                    rintro e w' ⟨rfl, rfl⟩
                    rw [show (if f2.ld then f2.lim else -1) = f2.lim by rw [HLD.out.1]; rfl]
                    clear fd hc1
                    go_wp2_with fail
                    go_round
                    case rel => exact ⟨k + 1, by omega, by omega, by go_num, h10⟩
                    case measure => simp [intOf]; omega
                  · have e5 : decide (2 ≤ sk) = false := decide_eq_false hs2
                    clear hov
                    go_wp2_with fail
                    clear fd hc1
                    go_round
                    case rel => exact ⟨k + 1, by omega, by omega, by go_num, h10⟩
                    case measure => simp [intOf]; omega
                · obtain rfl : k = 4 := by omega
                  have e2 : decide (((4 : Nat) : Int) < 4) = false := rfl
                  have h9 : Hold w wr (GS ga m C xs (feO none * (prA gp m r * (refA r c D * Asr.emp)))) := (Hold.pk6 h8 [0, 1, 2, 4, 5]).imp (Imp.under _ (Imp.under _ (Imp.under _ (Imp.intro_emp _))))
                  have H9 := hid h9
                  have HI2 := hid (HI.out.le (B' := 2 * (i + 1 : Nat)) (by omega))
                  clear h8 h9 HI HF2
                  go_wp2_with fail
                  go_round
                  case rel => exact ⟨i + 1, C, D, xs, clk, none, by omega, by go_num, rfl, rfl, HI2.out, trivial, H9.out⟩
                  case measure => simp [intOf]; omega
          · clear e5 e4 hcell
            have p0 := (GS.rest h).drop.blk.some_ (i := 0) rfl
            go_wp2_with fail
            refine (gf_step w _ (h.pk4 [3, 2, 0, 1]) HI.out HFf.out (by omega)).mono ?_
            rintro e v5 ⟨ac, f2, hg2, rfl, h5, hf2⟩
            have h6 : Hold w v5 (GS ga m C xs (feA f2.g 0 4 f2.ld f2.lim f2.nx * (prA gp m r * (refA r c D * Asr.emp)))) := h5.pk4 [2, 3, 1, 0]
            have HF2 := hid hf2
            rw [← hg2]
            clear h h5 p0 hf2 HFf hg2
            go_wp2_with fail
            refine (fe_done w _ _ f2.g 0 4 f2.ld f2.lim f2.nx (h6.pk4 [3, 0, 1, 2])).mono ?_
            rintro e v6 ⟨rfl, h7⟩
            replace h7 : Hold w v6 (GS ga m C xs (feA f2.g 0 4 f2.ld f2.lim f2.nx * (prA gp m r * (refA r c D * Asr.emp)))) := h7.pk4 [1, 2, 3, 0]
            clear h6
            obtain ⟨dn, hdn⟩ : ∃ dn, dn = (f2.ld && decide (4 ≤ f2.nx)) := ⟨_, rfl⟩
            rw [← hdn]
            have HDN := hid hdn
            clear hdn
            cases dn
            · have H9 := hid h7
              have HI2 := hid (HI.out.le (B' := 2 * (i + 1 : Nat)) (by omega))
              clear h7 HI
              go_wp2_with fail
              go_round
              case rel => exact ⟨i + 1, C, D, xs, clk, some f2, by omega, by go_num, rfl, rfl, HI2.out, HF2.out, H9.out⟩
              case measure => simp [intOf]; omega
            · have hld : f2.ld = true ∧ 4 ≤ f2.nx := by
                have := HDN.out.symm
                simpa using this
              have hlim : 0 ≤ f2.lim ∧ f2.lim ≤ 1000000 := by
                have := HF2.out
                have cb := HI.out.cb
                rcases this with ⟨h1, h2, _⟩ | ⟨_, h2, h3, _⟩
                · rw [hld.1] at h1; cases h1
                · omega
              have HLD := hid hld
              clear hld
              go_wp2_with fail
              go_loopw [12] (fun q wx => ∃ k : Nat, 1 ≤ k ∧ k ≤ 4 ∧ q = .int .i64 k ∧ Hold w wx (GS ga m C xs (feA f2.g 0 4 f2.ld f2.lim f2.nx * (prA gp m r * (refA r c D * Asr.emp))))) (fun q _ => 4 - (intOf q).toNat)
              case atStart => exact ⟨1, by omega, by omega, rfl, h7⟩
              case round =>
                clear h7
                obtain ⟨k, hk1, hk4, rfl, h8⟩ := hrel
                by_cases hkl : k < 4
                · have e2 : decide ((k : Int) < 4) = true := decide_eq_true (by omega)
                  have k0 : (0 : Int) ≤ (k : Int) := by omega
                  have k4' : (k : Int) < 4 := by omega
                  have p0 := (GS.rest h8).drop.blk.some_ (i := 0) rfl
                  go_wp2_with fail
                  refine (image_any w _ _ m C (h8.pk3 [2, 0, 1]) HI.out.sl.ok).mono ?_
                  rintro e v9 ⟨y, rfl, h9⟩
                  unfold imgV
                  obtain ⟨ad2, cp2, hsl, hcells⟩ := img_slots h9 HI.out.sl
                  rw [hsl]
                  have fd := field_slot (slV C y 1) (slV C y 2) (.int .u64 (w1 C 3)) (.int .u64 (w1 C 4)) (.int .u64 (w1 C 5)) (.slice (some ad2) 4 cp2) (slV C y 7) (slV C y 8) v9
                  have hc1 := hcells k hkl
                  have h10 : Hold w v9 (GS ga m C xs (feA f2.g 0 4 f2.ld f2.lim f2.nx * (prA gp m r * (refA r c D * Asr.emp)))) := h9.rest.pk3 [1, 2, 0]
                  have hov := HF2.out.over HI.out HLD.out.1 HLD.out.2 hk1 hkl
                  obtain ⟨sk, hsk⟩ : ∃ sk, sk = sOf xs k := ⟨_, rfl⟩
                  rw [← hsk] at hov hc1
                  have skb : 0 ≤ sk ∧ sk ≤ 1000002 := by
                    rw [hsk]
                    have hl : k < xs.length := by rw [HI.out.len]; exact hkl
                    have cb := HI.out.cb
                    unfold sOf
                    cases ho : xs.getD k none with
                    | none => exact ⟨by decide, by decide⟩
                    | some q =>
                      have hx : xs[k]? = some (some q) := by
                        rw [List.getElem?_eq_getElem hl]
                        simpa [List.getD, List.getElem?_eq_getElem hl] using ho
                      have := HI.out.wf k q hx
                      rw [sV_some]; split <;> omega
                  clear h8 h9 hsl hcells p0 hsk
                  by_cases hs2 : 2 ≤ sk
                  · have e5 : decide (2 ≤ sk) = true := decide_eq_true hs2
                    have e6 : decide (sk - 2 < f2.lim) = false := decide_eq_false (by have := hov hs2; omega)
                    clear hov
                    go_wp2_with fail
                    refine (fe_limit w _ _ f2.g 0 4 f2.ld f2.lim f2.nx (h10.pk4 [3, 0, 1, 2]) (by omega)).mono ?_
                    rintro e w' ⟨rfl, rfl⟩
                    rw [show (if f2.ld then f2.lim else -1) = f2.lim by rw [HLD.out.1]; rfl]
                    clear fd hc1
                    go_wp2_with fail
                    go_round
                    case rel => exact ⟨k + 1, by omega, by omega, by go_num, h10⟩
                    case measure => simp [intOf]; omega
                  · have e5 : decide (2 ≤ sk) = false := decide_eq_false hs2
                    clear hov
                    go_wp2_with fail
                    clear fd hc1
                    go_round
                    case rel => exact ⟨k + 1, by omega, by omega, by go_num, h10⟩
                    case measure => simp [intOf]; omega
                · obtain rfl : k = 4 := by omega
                  have e2 : decide (((4 : Nat) : Int) < 4) = false := rfl
                  have h9 : Hold w wr (GS ga m C xs (feO none * (prA gp m r * (refA r c D * Asr.emp)))) := (Hold.pk6 h8 [0, 1, 2, 4, 5]).imp (Imp.under _ (Imp.under _ (Imp.under _ (Imp.intro_emp _))))
                  have H9 := hid h9
                  have HI2 := hid (HI.out.le (B' := 2 * (i + 1 : Nat)) (by omega))
                  clear h8 h9 HI HF2
                  go_wp2_with fail
                  go_round
                  case rel => exact ⟨i + 1, C, D, xs, clk, none, by omega, by go_num, rfl, rfl, HI2.out, trivial, H9.out⟩
                  case measure => simp [intOf]; omega
      have t14 : 1 ≤ t ∧ t < 4 := by omega
      have t4' : (t : Int) < 4 := by omega
      have e4 : ((t : Int) == 4) = false := by simp; omega
      have e5 : ((t : Int) == 5) = false := by simp; omega
      have e6 : ((t : Int) == 0) = false := by simp; omega
      have e4' : (t == 4) = false := by simp; omega
      have e5' : (t == 5) = false := by simp; omega
      have e6' : (t == 0) = false := by simp; omega
      have tl : t < xs.length := by rw [HI.out.len]; exact t14.2
      have z2 := GS.frozen h t
      cases ho : xs[t]'tl with
      | none =>
        have hx : xs[t]? = some none := by rw [List.getElem?_eq_getElem tl, ho]
        have p2 : wr.cell? ⟨ga, t, none⟩ = some (.pointer none) := GS.at_ h hx
        have HX2 := hid hx
        clear ho hx hcell
        go_wp2_with fail
        refine (en_new w _ _ t h).mono ?_
        rintro e v2 ⟨g, rfl, h4⟩
        clear h p2 z2
        have p2 : v2.cell? ⟨ga, t, none⟩ = some (.pointer none) := GS.at_ h4.drop HX2.out
        have z2 := GS.frozen h4.drop t
        have H5 := hid (GS.born h4 t)
        clear h4
        go_upto_region 35 with fail
        have h5 := H5.out
        generalize hW : World.setCell _ _ _ = W5 at h5 ⊢
        clear hW H5 p2 z2
        replace h5 := h5.drew
        refine wp_region_brk [] (by kernel_rfl) ?_
        refine wpAnyB_now (fun w' => w'.cell? ⟨ga, t, none⟩ = some (.pointer (some ⟨g, 0, none⟩)) ∧ w'.cell? ⟨gp, 0, none⟩ = some (.pointer (some ⟨m, 0, none⟩))) (fun _ _ => trivial) _ _ _ _ ?_
        refine' wpAnyB_bulk [true, true, true, true, true] 138 (listed' := #[true, true, true, true, true, false]) rfl (by kernel_rfl) (by kernel_rfl) (by kernel_rfl) (by kernel_rfl) (by kernel_rfl) (by kernel_rfl) (by decide) (fun _ _ _ _ h => h) rfl ⟨GN.at_ h5 tl, (GN.rest h5).drop.blk.some_ (i := 0) rfl⟩ (fun wq hq => ?_) ?_; rotate_left 1
        · simp only [maskL]
          obtain ⟨q2, q0⟩ := hq
          repeat (go_big_quiet_step (fail))
          exact wpQuiet_nil rfl
        refine wpAnyB_bar [false, false, false, false, false, true] (fuel := 0) (by rfl) (by rfl) (by kernel_rfl) (fun QB hQB hQX => ?_)
        simp only [maskL]
        go_wp2_with fail
        refine (gn_step w _ (C2 := opC C 6 t 1 true) (ac := ⟨2, 6, t, sOf xs t, 1, true⟩) h5 HX2.out (fun R' h' => en_step0 w _ R' g m C t 0 _ h' HI.out.sl.ok (by omega) (HI.out.sl.st6 t14.2 1))).mono ?_
        rintro e v3 ⟨rfl, h6⟩
        clear h5
        go_wp2_with fail
        refine hQB.out _ _ ⟨(GS.at_ h6 (List.getElem?_set_self tl)).trans rfl, (GS.rest h6).drop.blk.some_ (i := 0) rfl⟩ ?_
        clear hQB hQX QB
        refine wpAnyB_done (by kernel_rfl) ?_ _
        have HI2 := hid ((HI.out.setSome t14.2 ⟨g, t, 1, 0⟩ (HI.out.sl.slot t14.2 1) ⟨rfl, .inl rfl, by show (0 : Int) ≤ 0; decide, cb.1⟩).le (B' := 2 * (i + 1 : Nat)) (by omega))
        have HF2 := hid (HF.out.set tl (o := some ⟨g, t, 1, 0⟩) (fun lim _ _ => .inl rfl))
        have H9 := hid h6
        clear h6 HI HF HX2
        go_wp2_with fail
        go_round
        case rel => exact ⟨i + 1, _, D, _, clk, fo, by omega, by go_num, rfl, rfl, HI2.out, HF2.out, H9.out⟩
        case measure => simp [intOf]; omega
      | some mm =>
        have hx : xs[t]? = some (some mm) := by rw [List.getElem?_eq_getElem tl, ho]
        have p2 : wr.cell? ⟨ga, t, none⟩ = some (.pointer (some ⟨mm.g, 0, none⟩)) := GS.at_ h hx
        have hwf := HI.out.wf t mm hx
        have hgd : xs.getD t none = some mm := by simp [List.getD, hx]
        have HX2 := hid (hx)
        have HGD := hid hgd
        clear ho hx hgd
        go_wp2_with fail
        refine (gs_done w _ h HX2.out).mono ?_
        rintro e w' ⟨rfl, rfl⟩
        obtain ⟨hth, hnx, hck0, hck1⟩ := hwf
        rcases hnx with hnx | hnx | hnx
        · rw [hnx, show ((1 : Int) == 3) = false from rfl]
          have HN := hid (And.intro hnx hth)
          clear hnx hth hcell
          go_upto_region 37 with fail
          replace h := h.drew
          clear p2
          refine wp_region_brk [] (by kernel_rfl) ?_
          refine wpAnyB_now (fun w' => w'.cell? ⟨ga, t, none⟩ = some (.pointer (some ⟨mm.g, 0, none⟩)) ∧ w'.cell? ⟨gp, 0, none⟩ = some (.pointer (some ⟨m, 0, none⟩))) (fun _ _ => trivial) _ _ _ _ ?_
          refine' wpAnyB_bulk [true, true, true, true, true] 138 (listed' := #[true, true, true, true, true, false]) rfl (by kernel_rfl) (by kernel_rfl) (by kernel_rfl) (by kernel_rfl) (by kernel_rfl) (by kernel_rfl) (by decide) (fun _ _ _ _ h => h) rfl ⟨GS.at_ h HX2.out, (GS.rest h).drop.blk.some_ (i := 0) rfl⟩ (fun wq hq => ?_) ?_; rotate_left 1
          · simp only [maskL]
            obtain ⟨q2, q0⟩ := hq
            repeat (go_big_quiet_step (fail))
            exact wpQuiet_nil rfl
          refine wpAnyB_bar [false, false, false, false, false, true] (fuel := 0) (by rfl) (by rfl) (by kernel_rfl) (fun QB hQB hQX => ?_)
          simp only [maskL]
          go_wp2_with fail
          refine (gs_step w _ (nx2 := 2) (ck2 := clk) (C2 := C) (ac := ⟨1, 3, 0, clk, clk, true⟩) h HX2.out (fun R' h' => en_step1 w _ R' mm.g m C mm.th mm.ck _ (by rw [← HN.out.1]; exact h') HI.out.sl.ok HI.out.sl.op3)).mono ?_
          rintro e v3 ⟨rfl, h6⟩
          clear h
          go_wp2_with fail
          refine hQB.out _ _ ⟨(GS.at_ h6 (List.getElem?_set_self tl)).trans rfl, (GS.rest h6).drop.blk.some_ (i := 0) rfl⟩ ?_
          clear hQB hQX QB
          refine wpAnyB_done (by kernel_rfl) ?_ _
          have HI2 := hid ((HI.out.setSome t14.2 ⟨mm.g, mm.th, 2, clk⟩ (HI.out.sl.eq fun k hk => by
            by_cases hk2 : k = t
            · subst hk2
              rw [if_pos rfl]
              unfold sOf
              rw [HGD.out, sV_some, sV_some, if_pos (by rw [HN.out.1]; decide), if_pos (by show (2 : Int) ≤ 2; decide)]
            · rw [if_neg hk2]) ⟨HN.out.2, .inr (.inl rfl), cb.1, Int.le_refl _⟩).le (B' := 2 * (i + 1 : Nat)) (by omega))
          have HF2 := hid (HF.out.set tl (o := some ⟨mm.g, mm.th, 2, clk⟩) (fun lim h1 _ => .inr h1))
          have H9 := hid h6
          clear h6 HI HF HX2
          go_wp2_with fail
          go_round
          case rel => exact ⟨i + 1, _, D, _, clk, fo, by omega, by go_num, rfl, rfl, HI2.out, HF2.out, H9.out⟩
          case measure => simp [intOf]; omega
        · rw [hnx, show ((2 : Int) == 3) = false from rfl]
          have HN := hid (And.intro hnx hth)
          have hckb : 0 ≤ mm.ck ∧ mm.ck ≤ 1099511627776 := by omega
          clear hnx hth hcell
          go_upto_region 37 with fail
          replace h := h.drew
          clear p2
          refine wp_region_brk [] (by kernel_rfl) ?_
          refine wpAnyB_now (fun w' => w'.cell? ⟨ga, t, none⟩ = some (.pointer (some ⟨mm.g, 0, none⟩)) ∧ w'.cell? ⟨gp, 0, none⟩ = some (.pointer (some ⟨m, 0, none⟩))) (fun _ _ => trivial) _ _ _ _ ?_
          refine' wpAnyB_bulk [true, true, true, true, true] 138 (listed' := #[true, true, true, true, true, false]) rfl (by kernel_rfl) (by kernel_rfl) (by kernel_rfl) (by kernel_rfl) (by kernel_rfl) (by kernel_rfl) (by decide) (fun _ _ _ _ h => h) rfl ⟨GS.at_ h HX2.out, (GS.rest h).drop.blk.some_ (i := 0) rfl⟩ (fun wq hq => ?_) ?_; rotate_left 1
          · simp only [maskL]
            obtain ⟨q2, q0⟩ := hq
            repeat (go_big_quiet_step (fail))
            exact wpQuiet_nil rfl
          refine wpAnyB_bar [false, false, false, false, false, true] (fuel := 0) (by rfl) (by rfl) (by kernel_rfl) (fun QB hQB hQX => ?_)
          simp only [maskL]
          go_wp2_with fail
          refine (gs_step w _ (nx2 := 3) (ck2 := mm.ck) (C2 := opC C 6 t (mm.ck + 2) true) (ac := ⟨2, 6, t, sOf xs t, mm.ck + 2, true⟩) h HX2.out (fun R' h' => by rw [HN.out.1, HN.out.2] at h'; rw [HN.out.2]; exact en_step2 w _ R' mm.g m C t mm.ck _ h' HI.out.sl.ok hckb (by omega) (HI.out.sl.st6 t14.2 (mm.ck + 2)))).mono ?_
          rintro e v3 ⟨rfl, h6⟩
          clear h
          go_wp2_with fail
          refine hQB.out _ _ ⟨(GS.at_ h6 (List.getElem?_set_self tl)).trans rfl, (GS.rest h6).drop.blk.some_ (i := 0) rfl⟩ ?_
          clear hQB hQX QB
          refine wpAnyB_done (by kernel_rfl) ?_ _
          have HI2 := hid ((HI.out.setSome t14.2 ⟨mm.g, mm.th, 3, mm.ck⟩ (by
            rw [show sV (some ⟨mm.g, mm.th, 3, mm.ck⟩) = mm.ck + 2 from (sV_some _).trans (if_neg (by show ¬ (3 : Int) ≤ 2; decide))]
            exact HI.out.sl.slot t14.2 (mm.ck + 2)) ⟨HN.out.2, .inr (.inr rfl), hck0, hck1⟩).le (B' := 2 * (i + 1 : Nat)) (by omega))
          have HF2 := hid (HF.out.set tl (o := some ⟨mm.g, mm.th, 3, mm.ck⟩) (fun lim h1 h2 => by
            rw [HGD.out] at h2
            rcases h2 with h2 | h2
            · rw [HN.out.1] at h2; cases h2
            · exact .inr h2))
          have H9 := hid h6
          clear h6 HI HF HX2
          go_wp2_with fail
          go_round
          case rel => exact ⟨i + 1, _, D, _, clk, fo, by omega, by go_num, rfl, rfl, HI2.out, HF2.out, H9.out⟩
          case measure => simp [intOf]; omega
        · rw [hnx, show ((3 : Int) == 3) = true from rfl]
          clear hnx hth
          go_wp2_with fail
          refine (place_any _ _ _ (by omega) (by omega)).mono ?_
          rintro e w' ⟨rfl, rfl⟩
          generalize place _ 2 = d
          by_cases hd : d = 0
          · subst hd
            have p0 := (GS.rest h).drop.blk.some_ (i := 0) rfl
            clear hcell
            go_wp2_with fail
            refine (ep_leave w _ _ m C t (h.pk3 [2, 0, 1]) HI.out.sl.ok (by omega)).mono ?_
            rintro e v3 ⟨rfl, h6⟩
            replace h6 : Hold w v3 (GS ga m (opC C 6 t 0 true) xs (feO fo * (prA gp m r * (refA r c D * Asr.emp)))) := h6.pk3 [1, 2, 0]
            generalize opA C 2 6 t 0 true = ac
            clear h p0 p2 z2
            have p2 : v3.cell? ⟨ga, t, none⟩ = some (.pointer (some ⟨mm.g, 0, none⟩)) := GS.at_ h6 HX2.out
            have z2 := GS.frozen h6 t
            have HI2 := hid ((HI.out.setNone t14.2 (HI.out.sl.slot t14.2 0)).le (B' := 2 * (i + 1 : Nat)) (by omega))
            have HF2 := hid (HF.out.set tl (o := none) (fun lim _ _ => trivial))
            have H9 := hid (GS.gone h6 tl)
            clear h6 HI HF HX2
            go_wp2_with fail
            go_round
            case rel => exact ⟨i + 1, _, D, _, clk, fo, by omega, by go_num, rfl, rfl, HI2.out, HF2.out, H9.out⟩
            case measure => simp [intOf]; omega
          · have ed : (d == 0) = false := by simp [hd]
            have HI2 := hid (HI.out.le (B' := 2 * (i + 1 : Nat)) (by omega))
            have HF2 := hid HF.out
            have H9 := hid h
            clear h HI HF p2 z2 hcell
            go_wp2_with fail
            go_round
            case rel => exact ⟨i + 1, C, D, xs, clk, fo, by omega, by go_num, rfl, rfl, HI2.out, HF2.out, H9.out⟩
            case measure => simp [intOf]; omega
    · obtain rfl : i = n1 := by omega
      have e1 : decide ((i : Int) < (i : Int)) = false := by simp
      go_wp2_with fail
      refine (awake09_any w _ _ h).mono ?_
      rintro e v5 ⟨rfl, h6⟩
      have H6 := hid h6.below
      clear h h6
      go_wp2_with fail
      go_ret
      exact ⟨rfl, H6.out⟩
end Go.Proofs.Ytigjpfhjddkckaa
