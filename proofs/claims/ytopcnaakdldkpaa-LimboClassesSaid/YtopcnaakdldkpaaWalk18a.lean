/- LimboClasses. -/
import Derived.Test.YtopcnaakdldkpaaCl18t
namespace Go.Proofs.Ytopcnaakdldkpaa
open Go.RowKit
set_option linter.unusedVariables false
set_option maxRecDepth 8000 in
set_option maxHeartbeats 16000000 in
theorem limboClasses_any (w : World) (A : Option Addr) (n c b : Nat) (zs : List Int) (hr : Reads w b A n (zs.map (Value.int .i64))) (hI : ∀ z ∈ zs, I64b z) (hn9 : n ≤ 9223372036854775807) :
    Calls Try.prog 4 #[.slice A n c] w fun e w' => e = .returned (.bool true) ∧ Below w.heap.size w w' := by
  have HR := hid hr
  have HI := hid hI
  have hst := Hold.start w
  clear hr hI
  go_enter Try.func4, Try.ntmps4
  go_wp2_with fail
  refine (heap18_any w _ _ hst).mono ?_
  rintro e w1 ⟨rfl, h1⟩
  clear hst
  go_wp2_with fail
  refine (lab_start w _ _ cfH 1 cfH_ok (by decide) h1).mono ?_
  rintro e w2 ⟨m, r, rfl, h2⟩
  replace h2 : Hold w w2 (memA m (cH 1) * (refA r cfH (cH 1) * Asr.emp)) := h2
  have HV := hid (cH_fv (th := 1) (by decide))
  generalize cH 1 = C0 at h2 HV
  have H3 := hid (((h2.newBlk (t := 27) (cs := #[.pointer (some ⟨m, 0, none⟩), .pointer (some ⟨r, 0, none⟩)])).pk3 [1, 2, 0]))
  clear h1 h2
  go_upto_region 2 with fail
  have h3 : Hold w _ (memA m C0 * (refA r cfH C0 * (prA w2.heap.size m r * Asr.emp))) := H3.out
  generalize hW : World.alloc _ _ = W3 at h3 ⊢
  generalize w2.heap.size = gp at h3 ⊢
  clear hW H3
  go_wp2_with fail
  refine (heap18_any w _ _ h3).mono ?_
  rintro e w4 ⟨rfl, h4⟩
  clear h3
  go_wp2_with fail
  refine (lim_new w _ _ h4).mono ?_
  rintro e w5 ⟨gl, rfl, h5⟩
  clear h4
  have h6 : Hold w w5 (memA m C0 * (refA r cfH C0 * (limA gl [] * (prA gp m r * Asr.emp)))) := h5.pk4 [1, 2, 0, 3]
  clear h5
  go_wp2_with fail
  go_loopw [6] (fun j wr => ∃ (i : Nat) (C : Nat → List Int), i ≤ 3 ∧ j = .int .i64 i ∧ FV C (hzL i) ns0 ∧ Hold w wr (memA m C * (refA r cfH C * (limA gl [] * (prA gp m r * Asr.emp))))) (fun j _ => 3 - (intOf j).toNat)
  case atStart => exact ⟨0, C0, by omega, rfl, HV.out, h6⟩
  case round =>
    clear h6 HV
    obtain ⟨i, C, hi, rfl, hv, h8⟩ := hrel
    have HV := hid hv
    clear hv
    by_cases hlt : i < 3
    · have e1 : decide ((i : Int) < 3) = true := decide_eq_true (by omega)
      have p0 := h8.drop.drop.drop.blk.some_ (i := 0) rfl
      have p1 := h8.drop.drop.drop.blk.some_ (i := 1) rfl
      obtain ⟨s1, s2⟩ := hzL_set hlt
      have hset := pair_set w wr _ m r cfH C 7 i 0 h8 HV.out.ok (HV.out.has7 (by omega)) (by omega)
      have hv2 := HV.out.st7 (k := i) (by omega) 0
      rw [s1] at hv2
      have HST := hid hset
      have HV2 := hid hv2
      clear s1 s2 h8 HV hset hv2
      go_wp2_with fail
      refine HST.out.mono ?_
      rintro e w9 ⟨rfl, h9⟩
      have H9 := hid h9
      clear HST h9 p0 p1
      go_wp2_with fail
      go_roundw
      case rel => exact ⟨i + 1, _, by omega, by go_num, HV2.out, H9.out⟩
      case measure => simp [intOf]; omega
    · obtain rfl : i = 3 := by omega
      have e1 : decide (((3 : Nat) : Int) < 3) = false := rfl
      have h9 : Hold w wr (limA gl [] * (memA m C * (prA gp m r * Asr.emp))) := h8.pk4 [2, 0, 3]
      clear h8 hlt hi
      have h10 := (h9.newBlk (t := 64) (cs := #[.slice none 0 0, .slice none 0 0, .slice none 0 0])).newBlk (t := 65) (cs := #[.bool false, .bool false, .bool false, .bool false, .bool false, .bool false])
      simp only [World.size_alloc] at h10
      obtain ⟨gw, hgw⟩ : ∃ g, g = wr.heap.size := ⟨_, rfl⟩
      rw [← hgw] at h10
      have H10 := hid h10
      clear h9 h10
      go_upto_region 12 with fail
      have h10 := H10.out
      try rw [← hgw]
      generalize hW : World.alloc _ _ = W5 at h10 ⊢
      generalize hgs : gw + 1 = gs at h10 ⊢
      clear hW H10 hgs hgw
      obtain ⟨p0, hp0⟩ : ∃ p : Lie, p = (fun _ => none, fun _ => 0) := ⟨_, rfl⟩
      have h11 : Hold w W5 (blkA 64 gw (wC p0 (wantL (fun _ => []) [])) * (blkA 65 gs (seenC []) * (limA gl (esB []) * (memA m C * (prA gp m r * sepR (rows3 p0 (wantL (fun _ => []) [])) Asr.emp))))) := by
        subst hp0
        exact (((h10.nilRowS 3 1).nilRowS 3 1).nilRowS 3 1).pk8 [4, 3, 5, 6, 7, 0, 1, 2]
      clear h10 hp0
      go_wp2_with fail
      go_loopw [9] (fun j wr => ∃ (k : Nat) (bs : List Nat) (p : Lie), k ≤ n ∧ k ≤ 12 ∧ j = .int .i64 (k : Int) ∧ bs.Nodup ∧ (∀ b ∈ bs, b < 6) ∧ Hold w wr (blkA 64 gw (wC p (wantL (fun _ => []) bs)) * (blkA 65 gs (seenC bs) * (limA gl (esB bs) * (memA m C * (prA gp m r * sepR (rows3 p (wantL (fun _ => []) bs)) Asr.emp)))))) (fun j _ => 12 - (intOf j).toNat)
      case atStart => exact ⟨0, [], p0, by omega, by omega, rfl, List.nodup_nil, (fun b hb => by cases hb), h11⟩
      case round =>
        clear h11
        obtain ⟨k, bs, p, hkn, hk12, rfl, hnd, hb6, h⟩ := hrel
        have HBS := hid (And.intro hnd hb6)
        clear hnd hb6
        by_cases hlt : k < n ∧ k < 12
        · have e2 : decide ((k : Int) < (n : Int)) = true := decide_eq_true (by omega)
          have e2' : decide (k < n) = true := decide_eq_true hlt.1
          have e3 : decide ((k : Int) < 12) = true := decide_eq_true (by omega)
          have e3' : decide (k < 12) = true := decide_eq_true hlt.2
          have hr := HR.out.below h.below
          obtain ⟨ad, hA, hab, hc0⟩ := hr.cellAt hlt.1
          obtain ⟨z, hz⟩ : ∃ z, z = zs[k]'(by have := hr.len; rw [List.length_map] at this; omega) := ⟨_, rfl⟩
          have hcell : wr.cell? (ad.add k) = some (.int .i64 z) := by rw [hc0, hz]; simp
          have k0 : (0 : Int) ≤ (k : Int) := by omega
          have k1 : (k : Int) < (n : Int) := by omega
          have HPL := hid (place_ex wr z 6 (by omega) (by omega))
          subst hA
          clear hab hc0 hr hz
          go_wp2_with fail
          refine HPL.out.mono ?_
          rintro e w' ⟨q, hq6, rfl, rfl⟩
          clear HPL hcell
          have hq : q < 6 := by omega
          have q0 : (0 : Int) ≤ (q : Int) := by omega
          have hs : wr.cell? ⟨gs, q, none⟩ = some (.bool (bs.contains q)) := (h.drop.blk).some_ (seenC_at bs hq)
          have zs' : wr.frozen? ⟨gs, q, none⟩ = false := (h.drop.blk).frozen q
          obtain ⟨sn, hsn⟩ : ∃ sn, sn = bs.contains q := ⟨_, rfl⟩
          rw [← hsn] at hs
          cases sn with
          | true =>
            have H := hid h
            clear h hsn
            go_wp2_with fail
            go_roundw
            case rel => exact ⟨k + 1, bs, p, by omega, by omega, by go_num, HBS.out.1, HBS.out.2, H.out⟩
            case measure => simp [intOf]; omega
          | false =>
            have hni : q ∉ bs := fun hm => by
              have := List.contains_iff_mem.2 hm
              rw [this] at hsn; cases hsn
            have hset := h.swap.setBlk q (.bool true)
            rw [seenC_set bs hq] at hset
            have HSET := hid hset
            have HNI := hid hni
            clear h hset hni hsn
            go_upto_region 18 with fail
            have h1 := HSET.out
            generalize hW : World.setCell _ _ _ = W6 at h1 ⊢
            clear hW HSET hs zs'
            have h2 := h1.newBlk (t := 3) (cs := #[.int .i64 (q : Int)])
            have h3 := h2.pk4 [3, 0, 1, 2]
            have hlb : bs.length ≤ 6 := nodup_len HBS.out.1 HBS.out.2
            have HADD := hid (lim_add w _ _ gl (esB bs) 1 (some ⟨W6.heap.size, 0, none⟩) 1 1 [(q : Int)] h3 (fun w' p' hw => ⟨_, blk_ints (l := [(q : Int)]) hw.drop rfl rfl⟩) (fun b hb => by rw [List.mem_singleton.1 hb]; unfold I64b; omega) (by omega) (by unfold esB; rw [List.length_map]; omega))
            rw [addE_one _ hq, show esB bs ++ [((q : Int), 1)] = esB (bs ++ [q]) by unfold esB; rw [List.map_append]; rfl] at HADD
            clear h1 h2 h3
            go_wp2_with fail
            refine HADD.out.mono ?_
            rintro e w7 ⟨rfl, h4⟩
            clear HADD
            have h5 : Hold w w7 (blkA 64 gw (wC p (wantL (fun _ => []) bs)) * (blkA 65 gs (seenC (bs ++ [q])) * (limA gl (esB (bs ++ [q])) * (memA m C * (prA gp m r * sepR (rows3 p (wantL (fun _ => []) bs)) Asr.emp))))) := h4.pk6 [3, 2, 0, 4, 5]
            clear h4
            go_wp2_with fail
            refine (heap18_any w _ _ h5).mono ?_
            rintro e w8 ⟨rfl, h6⟩
            clear h5
            have hrc := rclass_any w8 cfH q cfH_ok (by show q < 6; exact hq)
            rw [(cls18 hq).1] at hrc
            have HRC := hid hrc
            obtain ⟨j, hj⟩ : ∃ j, j = fcls q := ⟨_, rfl⟩
            have hj3 : j < 3 := by rw [hj]; exact (cls18 hq).2
            rw [← hj] at HRC
            have HJ := hid hj
            clear hrc hj
            go_wp2_with fail
            refine HRC.out.mono ?_
            rintro e w9 ⟨rfl, hc9⟩
            have h7 := h6.chg0 hc9
            clear HRC hc9 h6
            obtain ⟨iI, hiI, iz0, iz1, iz2⟩ := parts5L info_int18
            obtain ⟨Wf, hWf⟩ : ∃ W, W = wantL (fun _ => []) bs := ⟨_, rfl⟩
            rw [← hWf] at h7
            have HWF := hid hWf
            clear hWf
            have h8 := h7.imp (Imp.under _ (Imp.under _ (Imp.under _ (Imp.under _ (Imp.under _ (Imp.nth _ _ _ j (rows3_at p Wf hj3)))))))
            have h9 : Hold w w9 (blkA 64 gw (wC p Wf) * (rI p Wf j * (blkA 65 gs (seenC (bs ++ [q])) * (limA gl (esB (bs ++ [q])) * (memA m C * (prA gp m r * sepR ((rows3 p Wf).set j Asr.emp) Asr.emp)))))) := h8.pk6 [0, 5, 1, 2, 3, 4]
            have h10 := h9.cellsRow 3 #[.int .i64 (q : Int)] 1 rfl (by unfold maxLen; omega)
            obtain ⟨bj, hrj⟩ := ints_row (show Hold w _ (rowS 3 1 (.slice (p.1 j) (Wf j).length (p.2 j)) (Wf j).length ((toI (Wf j)).map (Value.int .i64)) * _) from h10.drop.drop)
            have hcj := h10.drop.blk.some_ (wC_at p Wf hj3)
            have hwl : (Wf j).length ≤ 100 := by
              rw [HWF.out]
              have := wantL_len bs (fun _ => []) j
              simp only [List.length_nil] at this
              omega
            have j0 : (0 : Int) ≤ (j : Int) := by omega
            have j1 : (j : Int) < 3 := by omega
            clear h7 h8 h9
            go_wp2_with (at_builtin; refine wpList_appA rfl _ _ 39 rfl 3 iI (.int .i64 0) 8 Try.underlying39 hiI iz0 iz1 iz2 rfl (.slice (some ⟨w9.heap.size, 0, none⟩) 1 1) 1 [.int .i64 (q : Int)] ((toI (Wf j)).map (Value.int .i64)) rfl h10 (p.1 j) (Wf j).length (p.2 j) rfl bj hrj (by simp [Value.oneCell']) (by omega) (by decide) ?_)
            intro A4 c4 y4 h11
            have h12 : Hold w y4 (blkA 64 gw (wC p Wf) * (rowS 3 1 (.slice A4 (1 + (Wf j).length) c4) (1 + (Wf j).length) ([.int .i64 (q : Int)] ++ (toI (Wf j)).map (Value.int .i64)) * (blkA 65 gs (seenC (bs ++ [q])) * (limA gl (esB (bs ++ [q])) * (memA m C * (prA gp m r * sepR ((rows3 p Wf).set j Asr.emp) Asr.emp)))))) := h11.pk7 [1, 0, 3, 4, 5, 6]
            have zcj := h12.blk.frozen j
            have pcj := h12.blk.some_ (wC_at p Wf hj3)
            have h13 := h12.setBlk j (.slice A4 (1 + (Wf j).length) c4)
            have H13 := hid h13
            clear h10 h11 h12 h13 hcj hrj
            go_wp2_with fail
            have h15 := H13.out
            generalize hW : World.setCell _ _ _ = W10 at h15 ⊢
            clear hW H13 zcj pcj
            have h14 : Hold w W10 (blkA 64 gw (wC (updP p j A4 c4) (putL18 Wf j q)) * (blkA 65 gs (seenC (bs ++ [q])) * (limA gl (esB (bs ++ [q])) * (memA m C * (prA gp m r * sepR (rows3 (updP p j A4 c4) (putL18 Wf j q)) Asr.emp))))) := by
              rw [show (.slice A4 (1 + (Wf j).length) c4 : Value) = .slice A4 ((Wf j).length + 1) c4 by rw [Nat.add_comm], wC_set p Wf hj3 A4 c4 q, Nat.add_comm 1, show ([.int .i64 (q : Int)] ++ (toI (Wf j)).map (Value.int .i64)) = .int .i64 (q : Int) :: (toI (Wf j)).map (Value.int .i64) from rfl, ← rI_self p Wf j A4 c4 q] at h15
              have h16 : Hold w W10 (blkA 64 gw (wC (updP p j A4 c4) (putL18 Wf j q)) * (blkA 65 gs (seenC (bs ++ [q])) * (limA gl (esB (bs ++ [q])) * (memA m C * (prA gp m r * (rI (updP p j A4 c4) (putL18 Wf j q) j * sepR ((rows3 p Wf).set j Asr.emp) Asr.emp)))))) := h15.pk6 [0, 2, 3, 4, 5, 1]
              have h17 := h16.imp (Imp.under _ (Imp.under _ (Imp.under _ (Imp.under _ (Imp.under _ (Imp.putAt _ _ _ j (by rw [List.getElem?_set_self (by show j < 3; exact hj3)])))))))
              rw [rows3_put p Wf hj3 A4 c4 q] at h17
              exact h17
            have hW2 : putL18 Wf j q = wantL (fun _ => []) (bs ++ [q]) := by rw [wantL_snoc, ← HWF.out, ← HJ.out]
            rw [hW2] at h14
            have H14 := hid h14
            clear h14 h15 hW2
            go_roundw
            case rel => exact ⟨k + 1, bs ++ [q], updP p j A4 c4, by omega, by omega, by go_num, by
              rw [List.nodup_append]
              exact ⟨HBS.out.1, by simp, fun a ha b hb => by rw [List.mem_singleton.1 hb]; rintro rfl; exact HNI.out ha⟩, fun b hb => (List.mem_append.1 hb).elim (HBS.out.2 b) (fun h => by rw [List.mem_singleton.1 h]; exact hq), H14.out⟩
            case measure => simp [intOf]; omega
        · have e2 : (decide ((k : Int) < (n : Int)) && decide ((k : Int) < 12)) = false := by
            rcases Nat.lt_or_ge k n with h1 | h1
            · rw [decide_eq_false (p := (k : Int) < 12) (by omega)]; simp
            · rw [decide_eq_false (p := (k : Int) < (n : Int)) (by omega)]; rfl
          have h1 : Hold w wr (limA gl (esB bs) * (memA m C * (blkA 64 gw (wC p (wantL (fun _ => []) bs)) * (prA gp m r * sepR (rows3 p (wantL (fun _ => []) bs)) Asr.emp)))) := h.pk5 [2, 3, 0, 4]
          clear h
          have hlb : bs.length ≤ 6 := nodup_len HBS.out.1 HBS.out.2
          have HDR := hid (lim_drain w wr _ gl (esB bs) 1 h1 (by unfold esB; rw [List.length_map]; omega) (fun e he => by
            obtain ⟨b, hb, rfl⟩ := List.mem_map.1 he
            have := HBS.out.2 b hb
            simp only; omega))
          clear h1
          obtain ⟨Wf, hWf⟩ : ∃ W, W = wantL (fun _ => []) bs := ⟨_, rfl⟩
          rw [← hWf] at HDR
          have HWF := hid hWf
          clear hWf e2
          have hex : (k < n ∧ 12 ≤ k) ∨ n ≤ k := by omega
          rcases hex with hx | hx
          case' inl =>
            have e2 : decide ((k : Int) < (n : Int)) = true := decide_eq_true (by omega)
            have e3 : decide ((k : Int) < 12) = false := decide_eq_false (by omega)
            have e2' : decide (k < n) = true := decide_eq_true (by omega)
            have e3' : decide (k < 12) = false := decide_eq_false (by omega)
          case' inr =>
            have e2 : decide ((k : Int) < (n : Int)) = false := decide_eq_false (by omega)
            have e2' : decide (k < n) = false := decide_eq_false (by omega)
          all_goals clear hlt
          all_goals go_wp2_with fail
          all_goals refine HDR.out.mono ?_
          all_goals rintro e w6 ⟨d, gs', rfl, hgl, h2⟩
          all_goals clear HDR
          all_goals rw [outE_esB] at hgl h2
          all_goals rw [keptE_esB] at h2
          all_goals obtain ⟨qs, hqs⟩ : ∃ qs, qs = List.zipWith qOf gs' (esB bs) := ⟨_, rfl⟩
          all_goals rw [← hqs] at h2
          all_goals have hl0 : gs'.length = bs.length := hgl.trans (by unfold esB; exact List.length_map _)
          all_goals have hSI : SI (hzL 3) ns0 (fun _ => []) (unB bs) 0 qs := hqs ▸ si_zip hl0 HBS.out.1 HBS.out.2
          all_goals have hfin : finL (fun _ => []) qs = Wf := hqs ▸ HWF.out ▸ finL_zip 1 bs gs' _ hl0
          all_goals have hrem : remQ qs ≤ 18 := hqs ▸ rem_zip hl0 hlb
          all_goals have h3 : Hold w w6 (drA d qs * (memA m C * (limA gl [] * (blkA 64 gw (wC p Wf) * (prA gp m r * sepR (rows3 p Wf) Asr.emp))))) := h2.pk5 [0, 2, 1, 3, 4]
          all_goals clear h2 hqs hgl hl0
          all_goals have hwl : ∀ k, k < 3 → (Wf k).length ≤ 100 := fun k hk => HWF.out ▸ Nat.le_trans (wantL_len bs (fun _ => []) k) (by simp only [List.length_nil]; omega)
          all_goals go_upto_region 22 with fail
          all_goals iterate 14 (first | go_values | go_skip | go_guarded | go_step | go_upon | go_back)
          all_goals exact classes_tail HV.out hSI hfin hrem hwl h3
theorem IsRow.ints18 {w : World} {a : Option Addr} {len cap : Nat} {zs : List Int} (h : IsRow .i64 w a len cap zs) : ∃ b, Reads w b a len ((zs.take len).map (Value.int .i64)) ∧ (∀ z ∈ zs.take len, I64b z) ∧ len ≤ 9223372036854775807 := by
  refine ⟨_, h.reads, fun z hz => ?_, ?_⟩
  · have := h.wf z (List.mem_of_mem_take hz)
    simp [Lit.wf, IntKind.min, IntKind.max, IntKind.signed, IntKind.bits] at this
    unfold I64b; omega
  · have := h.le
    unfold maxLen at this; omega
theorem limboClasses_walk (a0 : Option Addr) (len0 cap0 : Nat) (z0 : List Int) (w : World) (w0 : IsRow .i64 w a0 len0 cap0 z0) :
    Calls Try.prog 4 #[.slice a0 len0 cap0] w fun e w' => e = .returned (.bool true) ∧ Below w.heap.size w w' := by
  obtain ⟨b, h1, h2, h3⟩ := w0.ints18
  exact limboClasses_any w a0 len0 cap0 b _ h1 h2 h3
end Go.Proofs.Ytopcnaakdldkpaa
