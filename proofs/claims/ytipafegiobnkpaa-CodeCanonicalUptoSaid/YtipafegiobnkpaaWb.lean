/- Encode, of the reference. -/
import Derived.Test.YtipafegiobnkpaaWe
import Derived.Test.YtipafegiobnkpaaReg3
import Derived.Deep.DeepCutAuto
import Derived.Deep.CutBlock
namespace Go.Proofs.Ytipafegiobnkpaa
open Go.RowKit
set_option linter.unusedVariables false

theorem bytes_len {s : Scr} (ok : s.ok) (hf : s.fits) : s.bytes.length ≤ 900000000 := by
  have h1 := encC_len (b := s.strong) ok.cf
  have h2 := encL_len10 (f := encU) hf.i (encU_flat_len s.init ok.init)
  have h3 := encP_len (fun p hp => (ok.progs p hp).2) hf.p hf.m
  have h4 := encL_len10 (f := encS) hf.q (encS_flat_len s.picks ok.picks)
  have h5 : mark5.length = 4 := rfl
  unfold Scr.bytes Scr.body
  rw [List.length_append, List.length_append, List.length_append, List.length_append]
  omega
set_option maxRecDepth 8000 in
set_option maxHeartbeats 8000000 in
theorem rb_any (w0 w : World) (R : Asr) (V : ScV) (s : Scr) (h : Hold w0 w R) (hr : ∀ w' q, Hold w0 w' (q * R) → ScrR w' V s) (ok : s.ok) (hf : s.fits) :
    Calls Try.prog 27 #[V.val s] w fun e w' => ∃ v', e = .returned v' ∧ Hold w0 w' (bufA v' s.bytes * R) := by
  obtain ⟨i8, hi8, hz0, hz1, hz2⟩ := parts5 info_u8
  obtain ⟨⟨AI, nI, cI⟩, ⟨AP, nP, cP⟩, ⟨AQ, nQ, cQ⟩, vs⟩ := V
  obtain ⟨cf, strong, init, progs, picks⟩ := s
  obtain ⟨c0, c1, c2, c3, c4, c5, c6, c7, c8, c9, c10, c11, hcf⟩ := twelve ok.cf.1
  simp only at hcf
  subst hcf
  have hok := hid ok
  have hft := hid hf
  have hR0 := hr w Asr.emp (h.imp (Imp.intro_emp _))
  have nI0 : nI ≤ 1100000 ∧ init.length = nI := by
    obtain ⟨b, hb⟩ := hR0.i
    have h1 := hb.len
    have h2 := hf.i
    simp only [uv, List.length_map] at h1 h2
    omega
  have nP0 : nP ≤ 1100000 ∧ progs.length = nP := by
    have h1 := hR0.p.2.1
    have h2 := hf.p
    simp only at h1 h2
    omega
  have nQ0 : nQ ≤ 1100000 ∧ picks.length = nQ := by
    obtain ⟨b, hb⟩ := hR0.q
    have h1 := hb.len
    have h2 := hf.q
    simp only [List.length_map] at h1 h2
    omega
  have HR : Hid (∀ w' v bs gs cs, Hold w0 w' (bufA v bs * (blkA 29 gs cs * R)) → ScrR w' ⟨⟨AI, nI, cI⟩, ⟨AP, nP, cP⟩, ⟨AQ, nQ, cQ⟩, vs⟩ ⟨[c0, c1, c2, c3, c4, c5, c6, c7, c8, c9, c10, c11], strong, init, progs, picks⟩) := hid fun w' v bs gs cs h => hr w' (bufA v bs * blkA 29 gs cs) (h.imp (Imp.assoc' _ _ _))
  clear hR0
  have hcfl := hid (encC_len (b := strong) ok.cf)
  have HN := hid (And.intro nI0.2 (And.intro nP0.2 nQ0.2))
  replace nI0 := nI0.1
  replace nP0 := nP0.1
  replace nQ0 := nQ0.1
  clear ok hf hr
  have hcv : (convert 31 31 (.slice (some ⟨w.heap.size + 1 + 1, 0, none⟩) 4 4)).run Try.prog (((w.alloc (.cells #[.int .i64 c0, .int .i64 c1, .int .i64 c2, .int .i64 c3, .int .i64 c4, .int .i64 c5, .int .i64 c6, .int .i64 c7, .int .i64 c8, .int .i64 c9, .int .i64 c10, .int .i64 c11, .bool strong, .slice AI nI cI, .slice AP nP cP, .slice AQ nQ cQ] 29)).alloc (.cells #[.int .i64 c0, .int .i64 c1, .int .i64 c2, .int .i64 c3, .int .i64 c4, .int .i64 c5, .int .i64 c6, .int .i64 c7, .int .i64 c8, .int .i64 c9, .int .i64 c10, .int .i64 c11, .bool strong] 24)).alloc (.cells #[.int .u8 83, .int .u8 84, .int .u8 88, .int .u8 49] 5)) =
      .ok (.slice (some ⟨w.heap.size + 1 + 1, 0, none⟩) 4 4) (((w.alloc (.cells #[.int .i64 c0, .int .i64 c1, .int .i64 c2, .int .i64 c3, .int .i64 c4, .int .i64 c5, .int .i64 c6, .int .i64 c7, .int .i64 c8, .int .i64 c9, .int .i64 c10, .int .i64 c11, .bool strong, .slice AI nI cI, .slice AP nP cP, .slice AQ nQ cQ] 29)).alloc (.cells #[.int .i64 c0, .int .i64 c1, .int .i64 c2, .int .i64 c3, .int .i64 c4, .int .i64 c5, .int .i64 c6, .int .i64 c7, .int .i64 c8, .int .i64 c9, .int .i64 c10, .int .i64 c11, .bool strong] 24)).alloc (.cells #[.int .u8 83, .int .u8 84, .int .u8 88, .int .u8 49] 5 (4, 5))) :=
    Joins.run_convert_bytes_const_at _ _ _ _ _ _ _ (by simp) rfl rfl
  show Calls Try.prog 27 #[.agg #[.int .i64 c0, .int .i64 c1, .int .i64 c2, .int .i64 c3, .int .i64 c4, .int .i64 c5, .int .i64 c6, .int .i64 c7, .int .i64 c8, .int .i64 c9, .int .i64 c10, .int .i64 c11, .bool strong, .slice AI nI cI, .slice AP nP cP, .slice AQ nQ cQ]] w _
  have h1 := ((h.newBlk (t := 29) (cs := #[.int .i64 c0, .int .i64 c1, .int .i64 c2, .int .i64 c3, .int .i64 c4, .int .i64 c5, .int .i64 c6, .int .i64 c7, .int .i64 c8, .int .i64 c9, .int .i64 c10, .int .i64 c11, .bool strong, .slice AI nI cI, .slice AP nP cP, .slice AQ nQ cQ])).newBlk (t := 24) (cs := #[.int .i64 c0, .int .i64 c1, .int .i64 c2, .int .i64 c3, .int .i64 c4, .int .i64 c5, .int .i64 c6, .int .i64 c7, .int .i64 c8, .int .i64 c9, .int .i64 c10, .int .i64 c11, .bool strong])).markRow 5 #[.int .u8 83, .int .u8 84, .int .u8 88, .int .u8 49]
  simp only [World.size_alloc] at h1
  have h1 : Hold w0 _ (bufA (.slice (some ⟨w.heap.size + 1 + 1, 0, none⟩) 4 4) mark5 * (blkA 24 (w.heap.size + 1) #[.int .i64 c0, .int .i64 c1, .int .i64 c2, .int .i64 c3, .int .i64 c4, .int .i64 c5, .int .i64 c6, .int .i64 c7, .int .i64 c8, .int .i64 c9, .int .i64 c10, .int .i64 c11, .bool strong] * (blkA 29 w.heap.size #[.int .i64 c0, .int .i64 c1, .int .i64 c2, .int .i64 c3, .int .i64 c4, .int .i64 c5, .int .i64 c6, .int .i64 c7, .int .i64 c8, .int .i64 c9, .int .i64 c10, .int .i64 c11, .bool strong, .slice AI nI cI, .slice AP nP cP, .slice AQ nQ cQ] * R))) := h1
  have h2 := h1.newBlk (t := 3) (cs := #[.int .i64 c0, .int .i64 c1, .int .i64 c2, .int .i64 c3, .int .i64 c4, .int .i64 c5, .int .i64 c6, .int .i64 c7, .int .i64 c8, .int .i64 c9, .int .i64 c10, .int .i64 c11])
  simp only [World.size_alloc] at h2
  have H3 := hid (h2.pk4 [1, 3, 2, 0])
  clear h1 h2 h
  obtain ⟨gs, hgs⟩ : ∃ gs, gs = w.heap.size := ⟨_, rfl⟩
  obtain ⟨cs, hcs⟩ : ∃ cs : Array Value, cs = #[.int .i64 c0, .int .i64 c1, .int .i64 c2, .int .i64 c3, .int .i64 c4, .int .i64 c5, .int .i64 c6, .int .i64 c7, .int .i64 c8, .int .i64 c9, .int .i64 c10, .int .i64 c11, .bool strong, .slice AI nI cI, .slice AP nP cP, .slice AQ nQ cQ] := ⟨_, rfl⟩
  obtain ⟨cc, hcc⟩ : ∃ cs : Array Value, cs = #[.int .i64 c0, .int .i64 c1, .int .i64 c2, .int .i64 c3, .int .i64 c4, .int .i64 c5, .int .i64 c6, .int .i64 c7, .int .i64 c8, .int .i64 c9, .int .i64 c10, .int .i64 c11, .bool strong] := ⟨_, rfl⟩
  obtain ⟨cl, hcl⟩ : ∃ cs : Array Value, cs = #[.int .i64 c0, .int .i64 c1, .int .i64 c2, .int .i64 c3, .int .i64 c4, .int .i64 c5, .int .i64 c6, .int .i64 c7, .int .i64 c8, .int .i64 c9, .int .i64 c10, .int .i64 c11] := ⟨_, rfl⟩
  have HCS := hid hcs
  have HCC := hid hcc
  have HCL := hid hcl
  go_enter Try.func27, Try.ntmps27
  clear hcs hcc hcl hgs
  go_upto_region 4 with fail
  have h3 := H3.out
  generalize hW : World.alloc _ _ = W at h3 ⊢
  rw [← HCS.out, ← HCC.out, ← HCL.out] at h3
  clear hW hcv H3
  generalize w.heap.size + 1 + 1 + 1 = gl at h3 ⊢
  generalize w.heap.size + 1 + 1 = gb at h3 ⊢
  generalize w.heap.size + 1 = gc at h3 ⊢
  generalize w.heap.size = gs at h3 ⊢
  obtain ⟨L, hL⟩ : ∃ L : List Int, L = [c0, c1, c2, c3, c4, c5, c6, c7, c8, c9, c10, c11] := ⟨_, rfl⟩
  have HL := hid hL
  have h3 : Hold w0 W (bufA (.slice (some ⟨gb, 0, none⟩) 4 4) mark5 * (blkA 29 gs cs * (blkA 24 gc cc * (blkA 3 gl cl * R)))) := h3
  clear hL
  go_wp2_with fail
  go_loopw [4, 6] (fun b i wr => ∃ k : Nat, k ≤ 12 ∧ i = .int .i64 (k : Int) ∧ Hold w0 wr (bufA b (mark5 ++ encI (L.take k)) * (blkA 29 gs cs * (blkA 24 gc cc * (blkA 3 gl cl * R))))) (fun _ i _ => 12 - (intOf i).toNat)
  case atStart => exact ⟨0, by omega, rfl, by simpa [encI] using h3⟩
  case round =>
    clear h3
    obtain ⟨k, hk, rfl, h⟩ := hrel
    by_cases hlt : k < 12
    · have e1 : decide ((k : Int) < (12 : Int)) = true := decide_eq_true (by omega)
      have hLl : L.length = 12 := by rw [HL.out]; rfl
      have hrd : Reads wr gl (some ⟨gl, 0, none⟩) 12 (L.map (Value.int .i64)) := h.drop.drop.drop.blk.reads (by rw [HCL.out, HL.out]; rfl) (by simp [hLl])
      obtain ⟨ad, had, _, hcell⟩ := hrd.numAt hlt
      obtain rfl := Option.some.inj had
      have hkl : k < L.length := by omega
      obtain ⟨x, hxe⟩ : ∃ x, x = L[k] := ⟨_, rfl⟩
      rw [getD_atI hkl, ← hxe] at hcell
      have hcell2 : wr.cell? ⟨gl, k, none⟩ = some (.int .i64 x) := by rw [Addr.add_lit, Nat.zero_add] at hcell; exact hcell
      have HXI : Hid (I64 x) := hid (by rw [hxe]; exact hok.out.cf.2 _ (by rw [← HL.out]; exact List.getElem_mem hkl))
      have E5 : Hid (encI (L.take (k + 1)) = encI (L.take k) ++ encS x) := hid (by rw [take_snoc L hkl, encI_snoc, ← hxe])
      have hlen : (mark5 ++ encI (L.take k)).length ≤ 900000000 := by
        have := encI_len (L.take k) (fun y hy => hok.out.cf.2 _ (by rw [← HL.out]; exact List.mem_of_mem_take hy))
        rw [List.length_append]
        rw [List.length_take] at this
        have : mark5.length = 4 := rfl
        omega
      clear hrd hxe had hLl
      go_wp2_with fail
      refine (rf_signed w0 wr _ _ _ x h HXI.out hlen).mono ?_
      rintro e w2 ⟨v2, rfl, h2⟩
      rw [List.append_assoc, ← E5.out] at h2
      clear h E5 hcell hcell2
      go_wp2_with fail
      go_roundw
      case rel => exact ⟨k + 1, by omega, by go_num, h2⟩
      case measure => simp [intOf]; omega
    · obtain rfl : k = 12 := by omega
      have e1 : decide (((12 : Nat) : Int) < (12 : Int)) = false := by decide
      rw [List.take_of_length_le (by rw [HL.out]; simp)] at h
      have k12 : wr.cell? ⟨gc, 12, none⟩ = some (.bool strong) := h.drop.drop.blk.some_ (by rw [HCC.out]; rfl)
      have hB0 : (mark5 ++ encI L).length ≤ 124 := by
        have := encI_len L (by rw [HL.out]; exact hok.out.cf.2)
        have h12 : L.length = 12 := by rw [HL.out]; rfl
        have : mark5.length = 4 := rfl
        rw [List.length_append]; omega
      generalize hB : mark5 ++ encI L = B at h hB0
      have HB := hid hB
      obtain ⟨A0, k0, hv0⟩ := h.rowSForm
      subst hv0
      clear hB
      go_upto_if 58 with fail
      go_cut [4] (fun b wx => Hold w0 wx (bufA b (mark5 ++ encC [c0, c1, c2, c3, c4, c5, c6, c7, c8, c9, c10, c11] strong) * (blkA 29 gs cs * R)))
      case first =>
        have hfin : B ++ [if strong then 1 else 0] = mark5 ++ encC [c0, c1, c2, c3, c4, c5, c6, c7, c8, c9, c10, c11] strong := by unfold encC; rw [← HB.out, List.append_assoc, HL.out]
        have HFIN := hid hfin
        clear hfin
        cases strong with
        | false =>
          clear k12
          go_wp2_with (at_builtin; refine wpList_app rfl _ _ 31 rfl 5 i8 (.int .u8 0) 1 1 Try.underlying31 hi8 hz0 hz1 hz2 rfl (by decide) (.slice A0 B.length k0) B.length (bv B) [.int .u8 ((0 : Nat) : Int)] _ rfl h _ rfl rfl rfl rfl (by omega) (by decide) ?_)
          intro A2 c2 w2 h2
          have h3 := bufSnoc h2
          rw [show B.length + 1 = (B ++ [0]).length by simp]
          generalize Value.slice A2 (B ++ [0]).length c2 = v2 at h3 ⊢
          have h4 := hid (h3.pk4 [0, 1])
          clear h h2 h3
          go_wp2_with fail
          go_meet
          rw [← HFIN.out]
          exact h4.out
        | true =>
          clear k12
          go_wp2_with (at_builtin; refine wpList_app rfl _ _ 31 rfl 5 i8 (.int .u8 0) 1 1 Try.underlying31 hi8 hz0 hz1 hz2 rfl (by decide) (.slice A0 B.length k0) B.length (bv B) [.int .u8 ((1 : Nat) : Int)] _ rfl h _ rfl rfl rfl rfl (by omega) (by decide) ?_)
          intro A2 c2 w2 h2
          have h3 := bufSnoc h2
          rw [show B.length + 1 = (B ++ [1]).length by simp]
          generalize Value.slice A2 (B ++ [1]).length c2 = v2 at h3 ⊢
          have h4 := hid (h3.pk4 [0, 1])
          clear h h2 h3
          go_wp2_with fail
          go_meet
          rw [← HFIN.out]
          exact h4.out
      case rest =>
      clear h k12 HB hB0 e1
      have h5 := hcut
      clear hcut
      have l1 : (mark5 ++ encC [c0, c1, c2, c3, c4, c5, c6, c7, c8, c9, c10, c11] strong).length ≤ 125 := by rw [List.length_append]; have := hcfl.out; have : mark5.length = 4 := rfl; omega
      generalize hB1 : mark5 ++ encC [c0, c1, c2, c3, c4, c5, c6, c7, c8, c9, c10, c11] strong = B1 at h5 l1
      have HB1 := hid hB1
      clear hB1
      have c13 : wc.cell? ⟨gs, 13, none⟩ = some (.slice AI nI cI) := h5.drop.blk.some_ (by rw [HCS.out]; rfl)
      go_wp2_with fail
      refine (rf_unsigned w0 wc _ _ _ nI h5 (by omega) (by omega)).mono ?_
      rintro e w2 ⟨v2, rfl, h6⟩
      clear h5 c13
      go_wp2_with fail
      go_loopw [4, 7] (fun b i wr => ∃ k : Nat, k ≤ nI ∧ i = .int .i64 (k : Int) ∧ Hold w0 wr (bufA b (B1 ++ encU nI ++ (init.take k).flatMap encU) * (blkA 29 gs cs * R))) (fun _ i _ => nI - (intOf i).toNat)
      case atStart => exact ⟨0, by omega, rfl, by simpa using h6⟩
      case round =>
        clear h6
        obtain ⟨k, hk, rfl, h⟩ := hrel
        have c13 : wr.cell? ⟨gs, 13, none⟩ = some (.slice AI nI cI) := h.drop.blk.some_ (by rw [HCS.out]; rfl)
        by_cases hlt : k < nI
        · have e1 : decide ((k : Int) < (nI : Int)) = true := decide_eq_true (by omega)
          have hkl : k < init.length := by rw [HN.out.1]; exact hlt
          obtain ⟨b, hrd⟩ := (HR.out _ _ _ _ _ h).i
          obtain ⟨ad, had, _, hcell⟩ := hrd.cellAt hlt
          obtain ⟨x, hxe⟩ : ∃ x, x = init[k] := ⟨_, rfl⟩
          replace hcell : wr.cell? (ad.add k) = some (.int .u64 (x : Int)) := by rw [hcell, hxe]; simp [uv]
          have hz : x < 18446744073709551616 := by rw [hxe]; exact hok.out.init _ (List.getElem_mem hkl)
          have E5 : Hid ((init.take (k + 1)).flatMap encU = (init.take k).flatMap encU ++ encU x) := hid (by rw [flat_snoc encU init hkl, ← hxe])
          have hlen : (B1 ++ encU nI ++ (init.take k).flatMap encU).length ≤ 900000000 := by
            have h9 := encU_flat_len (init.take k) (fun y hy => hok.out.init y (List.mem_of_mem_take hy))
            have := encU_len10 (n := nI) (by omega)
            rw [List.length_append, List.length_append]
            rw [List.length_take] at h9
            omega
          simp only at had
          subst had
          clear hrd hxe
          go_wp2_with fail
          refine (rf_unsigned w0 wr _ _ _ x h hz hlen).mono ?_
          rintro e w2 ⟨v2, rfl, h2⟩
          rw [List.append_assoc, ← E5.out] at h2
          clear h E5 hcell c13
          go_wp2_with fail
          go_roundw
          case rel => exact ⟨k + 1, by omega, by go_num, h2⟩
          case measure => simp [intOf]; omega
        · obtain rfl : k = nI := by omega
          have e1 : decide ((k : Int) < (k : Int)) = false := by simp
          rw [List.take_of_length_le (by rw [HN.out.1]; omega), List.append_assoc] at h
          have l2 : (B1 ++ (encU k ++ init.flatMap encU)).length ≤ 11000135 := by
            have := encL_len10 (f := encU) hft.out.i (encU_flat_len init hok.out.init)
            unfold encL at this
            simp only at this
            rw [HN.out.1] at this
            rw [List.length_append]; omega
          have HB2' : B1 ++ (encU k ++ init.flatMap encU) = B1 ++ encL encU init := by unfold encL; rw [HN.out.1]
          rw [HB2'] at h l2
          generalize hB2 : B1 ++ encL encU init = B2 at h l2
          have HB2 := hid hB2
          clear hB2 HB2'
          have c14 : wr.cell? ⟨gs, 14, none⟩ = some (.slice AP nP cP) := h.drop.blk.some_ (by rw [HCS.out]; rfl)
          go_wp2_with fail
          refine (rf_unsigned w0 wr _ _ _ nP h (by omega) (by omega)).mono ?_
          rintro e w3 ⟨v3, rfl, h7⟩
          clear h c14 c13 hlt hk
          go_wp2_with fail
          go_loopw [4, 8] (fun b i wr => ∃ k : Nat, k ≤ nP ∧ i = .int .i64 (k : Int) ∧ Hold w0 wr (bufA b (B2 ++ encU nP ++ (progs.take k).flatMap (encL encI)) * (blkA 29 gs cs * R))) (fun _ i _ => nP - (intOf i).toNat)
          case atStart => exact ⟨0, by omega, rfl, by simpa using h7⟩
          case round =>
            clear h7
            obtain ⟨k, hk, rfl, h⟩ := hrel
            have c14 : wr.cell? ⟨gs, 14, none⟩ = some (.slice AP nP cP) := h.drop.blk.some_ (by rw [HCS.out]; rfl)
            by_cases hlt : k < nP
            · have e1 : decide ((k : Int) < (nP : Int)) = true := decide_eq_true (by omega)
              have hkl : k < progs.length := by rw [HN.out.2.1]; exact hlt
              obtain ⟨⟨b, hrd⟩, _, hrp⟩ := (HR.out _ _ _ _ _ h).p
              obtain ⟨ad, had, _, hcell⟩ := hrd.cellAt hlt
              have hvl : k < vs.length := by have := hrd.len; simp only at this; omega
              obtain ⟨x, hxe⟩ : ∃ x, x = progs[k] := ⟨_, rfl⟩
              obtain ⟨v, hve⟩ : ∃ v, v = vs[k] := ⟨_, rfl⟩
              rw [← hve] at hcell
              have hv? : vs[k]? = some v := by rw [hve]; exact List.getElem?_eq_getElem hvl
              have hx? : progs[k]? = some x := by rw [hxe]; exact List.getElem?_eq_getElem hkl
              have hxm : x ∈ progs := by rw [hxe]; exact List.getElem_mem hkl
              have HZ : Hid (InsOk x) := hid (hok.out.progs _ hxm).2
              have hxM : x.length ≤ 1100000 := Nat.le_trans (sum_mem_le (List.mem_map_of_mem hxm)) hft.out.m
              obtain ⟨A3, c3', b3, hv3, _⟩ := hrp k v x hv? hx?
              have HV := hid (And.intro hv? hx?)
              have E5 : Hid ((progs.take (k + 1)).flatMap (encL encI) = (progs.take k).flatMap (encL encI) ++ encL encI x) := hid (by rw [flat_snoc (encL encI) progs hkl, ← hxe])
              have hlen : (B2 ++ encU nP ++ (progs.take k).flatMap (encL encI)).length + 70 + 50 * x.length ≤ 300000000 := by
                have h6 := encLI_flat_len 1100000 (progs.take k) (fun y hy => (hok.out.progs y (List.mem_of_mem_take hy)).2) (by rw [List.map_take]; exact Nat.le_trans (sum_take_le _ _) hft.out.m) (by omega)
                rw [List.length_append, List.length_append]
                rw [List.length_take] at h6
                have h7 := hft.out.m
                have h10 := encU_len10 (n := nP) (by omega)
                have h8 : ((progs.take k).map List.length).sum ≤ 1100000 := by rw [List.map_take]; exact Nat.le_trans (sum_take_le _ _) hft.out.m
                omega
              have HLEN := hid hlen
              obtain ⟨m, hm⟩ : ∃ m, m = x.length := ⟨_, rfl⟩
              have m0 : m ≤ 1100000 := by omega
              have HM := hid hm
              rw [← hm] at hv3
              simp only at had
              subst had
              clear hrd hxe hve hv? hx? hxm hrp hm hlen
              generalize hB2' : B2 ++ encU nP ++ (progs.take k).flatMap (encL encI) = B at h
              have HB := hid hB2'
              clear hB2'
              have lB : B.length + 70 + 50 * m ≤ 300000000 := by rw [← HB.out, HM.out]; exact HLEN.out
              subst hv3
              go_wp2_with fail
              refine (rf_unsigned w0 wr _ _ _ m h (by omega) (by omega)).mono ?_
              rintro e w2 ⟨v2, rfl, h2⟩
              clear h hcell c14
              go_wp2_with fail
              go_loopw [4, 9] (fun b i wr => ∃ j : Nat, j ≤ m ∧ i = .int .i64 (j : Int) ∧ Hold w0 wr (bufA b (B ++ encU m ++ (x.take j).flatMap encI) * (blkA 29 gs cs * R))) (fun _ i _ => m - (intOf i).toNat)
              case atStart => exact ⟨0, by omega, rfl, by simpa using h2⟩
              case round =>
                clear h2
                obtain ⟨j, hj, rfl, h⟩ := hrel
                have c14 : wr.cell? ⟨gs, 14, none⟩ = some (.slice (some ad) nP cP) := h.drop.blk.some_ (by rw [HCS.out]; rfl)
                obtain ⟨⟨b, hrd⟩, _, hrp⟩ := (HR.out _ _ _ _ _ h).p
                obtain ⟨ad2, had2, _, hcell⟩ := hrd.cellAt hlt
                obtain rfl := Option.some.inj had2
                replace hcell : wr.cell? (ad.add k) = some (.slice A3 m c3') := by
                  rw [hcell]
                  have := HV.out.1
                  rw [List.getElem?_eq_getElem (by have := hrd.len; simp only at this; omega)] at this
                  exact this
                obtain ⟨A4, c4', b4, hv4, hrd2⟩ := hrp k _ x HV.out.1 HV.out.2
                injection hv4 with hv4 hv6 hv5
                clear hv6
                subst hv4 hv5
                by_cases hlj : j < m
                · have e2 : decide ((j : Int) < (m : Int)) = true := decide_eq_true (by omega)
                  have hjl : j < x.length := by rw [← HM.out]; exact hlj
                  obtain ⟨x0, x1, x2, x3, x4, hxe⟩ := five (HZ.out _ (List.getElem_mem hjl)).1
                  obtain ⟨ad3, had3, d0, d1, d2, d3, d4⟩ := hrd2.five (fun x hx => (HZ.out x hx).1) (by rw [List.getElem?_eq_getElem hjl, hxe])
                  subst had3
                  have HXI : Hid (∀ y ∈ [x0, x1, x2, x3, x4], I64 y) := hid (by rw [← hxe]; exact (HZ.out _ (List.getElem_mem hjl)).2)
                  have E6 : Hid ((x.take (j + 1)).flatMap encI = (x.take j).flatMap encI ++ encI [x0, x1, x2, x3, x4]) := hid (by rw [flat_snoc encI x hjl, ← hxe])
                  have hlen : (B ++ encU m ++ (x.take j).flatMap encI).length ≤ 400000000 := by
                    have h9 := encI_flat_len (x.take j) (fun y hy => HZ.out y (List.mem_of_mem_take hy))
                    have := encU_len10 (n := m) (by omega)
                    rw [List.length_append, List.length_append]
                    rw [List.length_take] at h9
                    omega
                  clear hrd hrp hrd2 hxe had2
                  generalize hC : B ++ encU m ++ (x.take j).flatMap encI = C at h hlen
                  have HC := hid hC
                  clear hC
                  have H5 := hid ((h.newBlk (t := 57) (cs := #[.int .i64 x0, .int .i64 x1, .int .i64 x2, .int .i64 x3, .int .i64 x4])).pk3 [1, 0, 2])
                  clear h
                  go_upto_region 25 with fail
                  have h5 := H5.out
                  generalize hW : World.alloc _ _ = W5 at h5 ⊢
                  generalize wr.heap.size = gt at h5 ⊢
                  clear hW H5 d0 d1 d2 d3 d4 c14 hcell
                  have h5 : Hold w0 W5 (bufA _ C * (blkA 57 gt #[.int .i64 x0, .int .i64 x1, .int .i64 x2, .int .i64 x3, .int .i64 x4] * (blkA 29 gs cs * R))) := h5
                  replace h5 := h5.drew
                  refine wp_region_brk [] (by kernel_rfl) ?_
                  refine wpAnyB_now (fun w' => w'.cell? ⟨gt, 0, none⟩ = some (.int .i64 x0) ∧ w'.cell? ⟨gt, 1, none⟩ = some (.int .i64 x1) ∧ w'.cell? ⟨gt, 2, none⟩ = some (.int .i64 x2) ∧ w'.cell? ⟨gt, 3, none⟩ = some (.int .i64 x3) ∧ w'.cell? ⟨gt, 4, none⟩ = some (.int .i64 x4)) (fun _ _ => trivial) _ _ _ _ ?_
                  refine' wpAnyB_bulk [true, true, true, false, true, true, false, true, true, false, true, true, false, true, true] 162 (listed' := #[true, true, true, false, true, true, false, true, true, false, true, true, false, true, true, false, false]) rfl (by kernel_rfl) (by kernel_rfl) (by kernel_rfl) (by kernel_rfl) (by kernel_rfl) (by kernel_rfl) (by decide) (fun _ _ _ _ h => h) rfl ⟨h5.drop.blk.some_ (i := 0) rfl, h5.drop.blk.some_ (i := 1) rfl, h5.drop.blk.some_ (i := 2) rfl, h5.drop.blk.some_ (i := 3) rfl, h5.drop.blk.some_ (i := 4) rfl⟩ (fun wq hq => ?_) ?_; rotate_left 1
                  · simp only [maskL]
                    obtain ⟨q0, q1, q2, q3, q4⟩ := hq
                    repeat (go_big_quiet_step (fail))
                    exact wpQuiet_nil rfl
                  refine wpAnyB_bar [false, false, false, true] (fuel := 5) (by rfl) (by rfl) (by kernel_rfl) (fun QB hQB hQX => ?_)
                  simp only [maskL]
                  go_wp2_with fail
                  refine (rf_signed w0 _ _ _ _ x0 h5 (HXI.out _ (by simp)) (by omega)).mono ?_
                  rintro e y10 ⟨v20, rfl, k0⟩
                  clear h5
                  go_wp2_with fail
                  refine hQB.out _ _ ⟨k0.drop.blk.some_ (i := 0) rfl, k0.drop.blk.some_ (i := 1) rfl, k0.drop.blk.some_ (i := 2) rfl, k0.drop.blk.some_ (i := 3) rfl, k0.drop.blk.some_ (i := 4) rfl⟩ ?_
                  clear hQB hQX QB
                  refine wpAnyB_bar [false, false, false, false, false, false, true] (fuel := 4) (by rfl) (by rfl) (by kernel_rfl) (fun QB hQB hQX => ?_)
                  simp only [maskL]
                  go_wp2_with fail
                  refine (rf_signed w0 _ _ _ _ x1 k0 (HXI.out _ (by simp)) (by have a0 := encU_len10 (zig_lt (HXI.out x0 (by simp))); have a1 := encU_len10 (zig_lt (HXI.out x1 (by simp))); have a2 := encU_len10 (zig_lt (HXI.out x2 (by simp))); have a3 := encU_len10 (zig_lt (HXI.out x3 (by simp))); unfold encS; simp only [List.length_append]; omega)).mono ?_
                  rintro e y11 ⟨v21, rfl, k1⟩
                  clear k0
                  go_wp2_with fail
                  refine hQB.out _ _ ⟨k1.drop.blk.some_ (i := 0) rfl, k1.drop.blk.some_ (i := 1) rfl, k1.drop.blk.some_ (i := 2) rfl, k1.drop.blk.some_ (i := 3) rfl, k1.drop.blk.some_ (i := 4) rfl⟩ ?_
                  clear hQB hQX QB
                  refine wpAnyB_bar [false, false, false, false, false, false, false, false, false, true] (fuel := 3) (by rfl) (by rfl) (by kernel_rfl) (fun QB hQB hQX => ?_)
                  simp only [maskL]
                  go_wp2_with fail
                  refine (rf_signed w0 _ _ _ _ x2 k1 (HXI.out _ (by simp)) (by have a0 := encU_len10 (zig_lt (HXI.out x0 (by simp))); have a1 := encU_len10 (zig_lt (HXI.out x1 (by simp))); have a2 := encU_len10 (zig_lt (HXI.out x2 (by simp))); have a3 := encU_len10 (zig_lt (HXI.out x3 (by simp))); unfold encS; simp only [List.length_append]; omega)).mono ?_
                  rintro e y12 ⟨v22, rfl, k2⟩
                  clear k1
                  go_wp2_with fail
                  refine hQB.out _ _ ⟨k2.drop.blk.some_ (i := 0) rfl, k2.drop.blk.some_ (i := 1) rfl, k2.drop.blk.some_ (i := 2) rfl, k2.drop.blk.some_ (i := 3) rfl, k2.drop.blk.some_ (i := 4) rfl⟩ ?_
                  clear hQB hQX QB
                  refine wpAnyB_bar [false, false, false, false, false, false, false, false, false, false, false, false, true] (fuel := 2) (by rfl) (by rfl) (by kernel_rfl) (fun QB hQB hQX => ?_)
                  simp only [maskL]
                  go_wp2_with fail
                  refine (rf_signed w0 _ _ _ _ x3 k2 (HXI.out _ (by simp)) (by have a0 := encU_len10 (zig_lt (HXI.out x0 (by simp))); have a1 := encU_len10 (zig_lt (HXI.out x1 (by simp))); have a2 := encU_len10 (zig_lt (HXI.out x2 (by simp))); have a3 := encU_len10 (zig_lt (HXI.out x3 (by simp))); unfold encS; simp only [List.length_append]; omega)).mono ?_
                  rintro e y13 ⟨v23, rfl, k3⟩
                  clear k2
                  go_wp2_with fail
                  refine hQB.out _ _ ⟨k3.drop.blk.some_ (i := 0) rfl, k3.drop.blk.some_ (i := 1) rfl, k3.drop.blk.some_ (i := 2) rfl, k3.drop.blk.some_ (i := 3) rfl, k3.drop.blk.some_ (i := 4) rfl⟩ ?_
                  clear hQB hQX QB
                  refine wpAnyB_bar [false, false, false, false, false, false, false, false, false, false, false, false, false, false, false, true] (fuel := 1) (by rfl) (by rfl) (by kernel_rfl) (fun QB hQB hQX => ?_)
                  simp only [maskL]
                  go_wp2_with fail
                  refine (rf_signed w0 _ _ _ _ x4 k3 (HXI.out _ (by simp)) (by have a0 := encU_len10 (zig_lt (HXI.out x0 (by simp))); have a1 := encU_len10 (zig_lt (HXI.out x1 (by simp))); have a2 := encU_len10 (zig_lt (HXI.out x2 (by simp))); have a3 := encU_len10 (zig_lt (HXI.out x3 (by simp))); unfold encS; simp only [List.length_append]; omega)).mono ?_
                  rintro e y14 ⟨v24, rfl, k4⟩
                  clear k3
                  go_wp2_with fail
                  refine hQB.out _ _ ⟨k4.drop.blk.some_ (i := 0) rfl, k4.drop.blk.some_ (i := 1) rfl, k4.drop.blk.some_ (i := 2) rfl, k4.drop.blk.some_ (i := 3) rfl, k4.drop.blk.some_ (i := 4) rfl⟩ ?_
                  clear hQB hQX QB
                  refine' wpAnyB_bulk [false, false, false, false, false, false, false, false, false, false, false, false, false, false, false, false, true] 162 (listed' := #[true, true, true, true, true, true, true, true, true, true, true, true, true, true, true, true, true]) rfl (by kernel_rfl) (by kernel_rfl) (by kernel_rfl) (by kernel_rfl) (by kernel_rfl) (by kernel_rfl) (by decide) (fun _ _ _ _ h => h) rfl ⟨k4.drop.blk.some_ (i := 0) rfl, k4.drop.blk.some_ (i := 1) rfl, k4.drop.blk.some_ (i := 2) rfl, k4.drop.blk.some_ (i := 3) rfl, k4.drop.blk.some_ (i := 4) rfl⟩ (fun wq hq => ?_) ?_; rotate_left 1
                  · simp only [maskL]
                    obtain ⟨q0, q1, q2, q3, q4⟩ := hq
                    repeat (go_big_quiet_step (fail))
                    exact wpQuiet_nil rfl
                  refine wpAnyB_done (by kernel_rfl) ?_ _
                  have e8 : C ++ encS x0 ++ encS x1 ++ encS x2 ++ encS x3 ++ encS x4 = B ++ encU m ++ (x.take (j + 1)).flatMap encI := by
                    rw [E6.out, ← HC.out, show encI [x0, x1, x2, x3, x4] = encS x0 ++ (encS x1 ++ (encS x2 ++ (encS x3 ++ encS x4))) by simp [encI]]
                    simp only [List.append_assoc]
                  rw [e8] at k4
                  have h9 := hid (k4.pk3 [0, 2])
                  clear k4 e8
                  go_wp2_with fail
                  go_roundw
                  case rel => exact ⟨j + 1, by omega, by go_num, h9.out⟩
                  case measure => simp [intOf]; omega
                · obtain rfl : j = m := by omega
                  have e2 : decide ((j : Int) < (j : Int)) = false := by simp
                  rw [List.take_of_length_le (by rw [← HM.out]; omega), List.append_assoc] at h
                  have e7 : B ++ (encU j ++ x.flatMap encI) = B2 ++ encU nP ++ (progs.take (k + 1)).flatMap (encL encI) := by
                    rw [E5.out, ← HB.out, show encL encI x = encU x.length ++ x.flatMap encI from rfl, ← HM.out]
                    simp only [List.append_assoc]
                  rw [e7] at h
                  have h9 := hid h
                  clear h e7 hrd hrp hrd2 had2
                  go_wp2_with fail
                  go_roundw
                  case rel => exact ⟨k + 1, by omega, by go_num, h9.out⟩
                  case measure => simp [intOf]; omega
            · obtain rfl : k = nP := by omega
              have e1 : decide ((k : Int) < (k : Int)) = false := by simp
              rw [List.take_of_length_le (by rw [HN.out.2.1]; omega), List.append_assoc] at h
              have l3 : (B2 ++ (encU k ++ progs.flatMap (encL encI))).length ≤ 77000145 := by
                have := encP_len (fun p hp => (hok.out.progs p hp).2) hft.out.p hft.out.m
                unfold encL at this ⊢
                simp only at this
                rw [HN.out.2.1] at this
                rw [List.length_append]; omega
              have HB3' : B2 ++ (encU k ++ progs.flatMap (encL encI)) = B2 ++ encL (encL encI) progs := by rw [show encL (encL encI) progs = encU progs.length ++ progs.flatMap (encL encI) from rfl, HN.out.2.1]
              rw [HB3'] at h l3
              generalize hB3 : B2 ++ encL (encL encI) progs = B3 at h l3
              have HB3 := hid hB3
              clear hB3 HB3'
              have c15 : wr.cell? ⟨gs, 15, none⟩ = some (.slice AQ nQ cQ) := h.drop.blk.some_ (by rw [HCS.out]; rfl)
              go_wp2_with fail
              refine (rf_unsigned w0 wr _ _ _ nQ h (by omega) (by omega)).mono ?_
              rintro e w4 ⟨v4, rfl, h8⟩
              clear h c14 c15 hlt hk
              go_wp2_with fail
              go_loopw [4, 11] (fun b i wr => ∃ k : Nat, k ≤ nQ ∧ i = .int .i64 (k : Int) ∧ Hold w0 wr (bufA b (B3 ++ encU nQ ++ (picks.take k).flatMap encS) * (blkA 29 gs cs * R))) (fun _ i _ => nQ - (intOf i).toNat)
              case atStart => exact ⟨0, by omega, rfl, by simpa using h8⟩
              case round =>
                clear h8
                obtain ⟨k, hk, rfl, h⟩ := hrel
                have c15 : wr.cell? ⟨gs, 15, none⟩ = some (.slice AQ nQ cQ) := h.drop.blk.some_ (by rw [HCS.out]; rfl)
                by_cases hlt : k < nQ
                · have e1 : decide ((k : Int) < (nQ : Int)) = true := decide_eq_true (by omega)
                  have hkl : k < picks.length := by rw [HN.out.2.2]; exact hlt
                  obtain ⟨b, hrd⟩ := (HR.out _ _ _ _ _ h).q
                  obtain ⟨ad, had, _, hcell⟩ := hrd.numAt hlt
                  obtain ⟨x, hxe⟩ : ∃ x, x = picks[k] := ⟨_, rfl⟩
                  rw [getD_atI hkl, ← hxe] at hcell
                  have HZ : Hid (I64 x) := hid (by rw [hxe]; exact hok.out.picks _ (List.getElem_mem hkl))
                  have E5 : Hid ((picks.take (k + 1)).flatMap encS = (picks.take k).flatMap encS ++ encS x) := hid (by rw [flat_snoc encS picks hkl, ← hxe])
                  have hlen : (B3 ++ encU nQ ++ (picks.take k).flatMap encS).length ≤ 900000000 := by
                    have h9 := encS_flat_len (picks.take k) (fun y hy => hok.out.picks y (List.mem_of_mem_take hy))
                    have := encU_len10 (n := nQ) (by omega)
                    rw [List.length_append, List.length_append]
                    rw [List.length_take] at h9
                    omega
                  simp only at had
                  subst had
                  clear hrd hxe
                  go_wp2_with fail
                  refine (rf_signed w0 wr _ _ _ x h HZ.out hlen).mono ?_
                  rintro e w2 ⟨v2, rfl, h2⟩
                  rw [List.append_assoc, ← E5.out] at h2
                  clear h E5 hcell c15
                  go_wp2_with fail
                  go_roundw
                  case rel => exact ⟨k + 1, by omega, by go_num, h2⟩
                  case measure => simp [intOf]; omega
                · obtain rfl : k = nQ := by omega
                  have e1 : decide ((k : Int) < (k : Int)) = false := by simp
                  rw [List.take_of_length_le (by rw [HN.out.2.2]; omega), List.append_assoc] at h
                  have hS : B3 ++ (encU k ++ picks.flatMap encS) = Scr.bytes ⟨[c0, c1, c2, c3, c4, c5, c6, c7, c8, c9, c10, c11], strong, init, progs, picks⟩ := by
                    rw [show Scr.bytes ⟨[c0, c1, c2, c3, c4, c5, c6, c7, c8, c9, c10, c11], strong, init, progs, picks⟩ = mark5 ++ (encC [c0, c1, c2, c3, c4, c5, c6, c7, c8, c9, c10, c11] strong ++ (encL encU init ++ (encL (encL encI) progs ++ encL encS picks))) from rfl, ← HB3.out, ← HB2.out, ← HB1.out, show encL encS picks = encU picks.length ++ picks.flatMap encS from rfl, HN.out.2.2]
                    simp only [List.append_assoc]
                  rw [hS] at h
                  have H9 := hid (h.pk2 [0])
                  clear h hS
                  go_wp2_with fail
                  go_ret
                  exact ⟨_, rfl, H9.out⟩
set_option maxHeartbeats 4000000 in
theorem rfenc_any (w0 w : World) (R : Asr) (V : ScV) (s : Scr) (h : Hold w0 w R) (hr : ∀ w' q, Hold w0 w' (q * R) → ScrR w' V s) (ok : s.ok) (hf : s.fits) :
    Calls Try.prog 11 #[V.val s] w fun e w' => ∃ v', e = .returned (.tuple #[v', .int .i64 (encode5 s).2]) ∧ Hold w0 w' (bufA v' (encode5 s).1 * R) := by
  have hv : ∃ cs : Array Value, V.val s = .agg cs ∧ cs.size = 16 := ⟨_, rfl, by simp [ScV.cells, ok.cf.1]⟩
  obtain ⟨cs, hv, hsz⟩ := hv
  obtain ⟨d0, d1, d2, d3, d4, d5, d6, d7, d8, d9, d10, d11, d12, d13, d14, d15, hcs⟩ : ∃ d0 d1 d2 d3 d4 d5 d6 d7 d8 d9 d10 d11 d12 d13 d14 d15, cs = #[d0, d1, d2, d3, d4, d5, d6, d7, d8, d9, d10, d11, d12, d13, d14, d15] := by
    obtain ⟨l⟩ := cs
    match l, hsz with
    | [d0, d1, d2, d3, d4, d5, d6, d7, d8, d9, d10, d11, d12, d13, d14, d15], _ => exact ⟨d0, d1, d2, d3, d4, d5, d6, d7, d8, d9, d10, d11, d12, d13, d14, d15, rfl⟩
  subst hcs
  have HB := fun h => rb_any w0 (w.alloc (.cells #[d0, d1, d2, d3, d4, d5, d6, d7, d8, d9, d10, d11, d12, d13, d14, d15] 29)) R V s h hr ok hf
  rw [hv] at HB ⊢
  have h1 := (h.newBlk (t := 29) (cs := #[d0, d1, d2, d3, d4, d5, d6, d7, d8, d9, d10, d11, d12, d13, d14, d15])).drop
  have HB2 := hid (HB h1)
  have hlen := hid (bytes_len ok hf)
  clear HB hv h1 hsz
  go_enter Try.func11, Try.ntmps11
  go_wp2_with fail
  refine HB2.out.mono ?_
  rintro e w2 ⟨v, rfl, h2⟩
  obtain ⟨A, c, rfl⟩ := h2.rowSForm
  have hl0 := hlen.out
  clear HB2
  by_cases hbig : 262144 < s.bytes.length
  · have hE : encode5 s = ([], 3) := by unfold encode5; rw [if_pos hbig]
    have HE := hid hE
    clear hE
    generalize s.bytes.length = n at hbig hl0 ⊢
    have e1 : decide ((262144 : Int) < (n : Int)) = true := decide_eq_true (by omega)
    have H11 := hid ((h2.drop).nilRowS 5 1)
    go_wp2_with fail
    go_ret2
    rw [HE.out]
    exact ⟨.slice none 0 0, rfl, H11.out⟩
  · have hE : encode5 s = (s.bytes, 0) := by unfold encode5; rw [if_neg hbig]
    have HE := hid hE
    have H2 := hid h2
    clear hE h2
    generalize hn : s.bytes.length = n at hbig hl0 ⊢
    have HN := hid hn
    clear hn
    have e1 : decide ((262144 : Int) < (n : Int)) = false := decide_eq_false (by omega)
    go_wp2_with fail
    go_ret2
    rw [HE.out]
    exact ⟨_, rfl, by rw [← HN.out]; exact H2.out⟩
end Go.Proofs.Ytipafegiobnkpaa
