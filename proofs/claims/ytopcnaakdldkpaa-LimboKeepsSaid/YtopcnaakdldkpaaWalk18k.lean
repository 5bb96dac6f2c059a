/- LimboKeeps. -/
import Derived.Test.YtopcnaakdldkpaaKp
import Derived.Deep.CutBlock
import Derived.Deep.DeepCutAuto
namespace Go.Proofs.Ytopcnaakdldkpaa
open Go.RowKit
set_option linter.unusedVariables false
abbrev oI (l : List Nat) : List Value := (toI l).map (Value.int .i64)
theorem Hold.queRd {w0 w : World} {R : Asr} {e : TypeId} {A : Option Addr} {n c : Nat} {xs : List Value} (h : Hold w0 w (queA e (.slice A n c) xs * R)) : n = xs.length ∧ n ≤ c ∧ ∃ b, Reads w b A n xs := by
  obtain ⟨fp, h⟩ := h.get
  obtain ⟨h1, h2, _, b, h4, _⟩ := queReads h
  exact ⟨h1, h2, b, h4⟩
theorem oI_append (a b : List Nat) : oI a ++ oI b = oI (a ++ b) := by unfold oI toI; rw [List.map_append, List.map_append]
theorem oI_blkN {es : List (Int × Int)} (h : ∀ e ∈ es, 0 ≤ e.1 ∧ e.1 < 6) : (es.map fun e => Value.int .i64 e.1) = oI (blkN es) := by
  unfold oI toI blkN
  rw [List.map_map, List.map_map]
  refine List.map_congr_left fun e he => ?_
  have := h e he
  show Value.int .i64 e.1 = Value.int .i64 ((e.1.toNat : Nat) : Int)
  rw [Int.toNat_of_nonneg this.1]
theorem oI_one (l : List Nat) : ∀ u ∈ oI l, u.oneCell' = true := fun u hu => by
  obtain ⟨z, _, rfl⟩ := List.mem_map.1 hu
  rfl
set_option maxRecDepth 8000 in
set_option maxHeartbeats 16000000 in
theorem limboKeeps_any (w : World) (A : Option Addr) (n c : Nat) (hA : ∀ w', Below w.heap.size w w' → ∀ i, i < n → ∃ (x : Addr) (dr : Bool) (z : Int), A = some x ∧ I64b z ∧ w'.cell? (x.add (i * 3)) = some (.bool dr) ∧ w'.cell? ⟨(x.add (i * 3)).block, (x.add (i * 3)).off + 1, none⟩ = some (.int .i64 z)) :
    Calls Try.prog 5 #[.slice A n c] w fun e w' => e = .returned (.bool true) ∧ Below w.heap.size w w' := by
  obtain ⟨iI, hiI, iz0, iz1, iz2⟩ := parts5L info_int18
  have HA := hid hA
  have hst := Hold.start w
  clear hA
  go_enter Try.func5, Try.ntmps5
  by_cases hn : 20 < n
  · have e1 : decide ((20 : Int) < (n : Int)) = true := decide_eq_true (by omega)
    have e1' : decide (20 < n) = true := decide_eq_true hn
    have HW := hid (awake18_any w w _ hst)
    clear hst
    go_wp2_with fail
    refine HW.out.mono ?_
    rintro e w1 ⟨rfl, h1⟩
    have H1 := hid h1.below
    clear HW h1
    go_wp2_with fail
    go_ret
    exact ⟨rfl, H1.out⟩
  have e1 : decide ((20 : Int) < (n : Int)) = false := decide_eq_false (by omega)
  have e1' : decide (20 < n) = false := decide_eq_false hn
  go_wp2_with fail
  refine (heap18_any w _ _ hst).mono ?_
  rintro e w1 ⟨rfl, h1⟩
  clear hst
  go_wp2_with fail
  refine (lab_start w _ _ cfH 1 cfH_ok (by decide) h1).mono ?_
  rintro e w2 ⟨m, r, rfl, h2⟩
  replace h2 : Hold w w2 (memA m (cH 1) * (refA r cfH (cH 1) * Asr.emp)) := h2
  have HV := hid (cH_fv (th := 1) (by decide))
  generalize cH 1 = C0 at h2 HV
  have H3 := hid (((h2.newBlk (t := 27) (cs := #[.pointer (some ⟨m, 0, none⟩), .pointer (some ⟨r, 0, none⟩)])).pk3 [1, 0]))
  clear h1 h2
  go_upto_region 4 with fail
  have h3 : Hold w _ (memA m C0 * (prA w2.heap.size m r * Asr.emp)) := H3.out
  generalize hW : World.alloc _ _ = W3 at h3 ⊢
  generalize w2.heap.size = gp at h3 ⊢
  clear hW H3 e1 e1'
  go_wp2_with fail
  refine (heap18_any w _ _ h3).mono ?_
  rintro e w4 ⟨rfl, h4⟩
  clear h3
  go_wp2_with fail
  refine (lim_new w _ _ h4).mono ?_
  rintro e w5 ⟨gl, rfl, h5⟩
  clear h4
  have h6 : Hold w w5 (queA 3 (.slice none 0 0) (oI (List.range 0)) * (memA m C0 * (limA gl [] * (prA gp m r * Asr.emp)))) := (h5.pk3 [1, 0, 2]).nilQue _
  clear h5
  go_wp2_with fail
  go_loopw [6, 7] (fun v6 j wr => ∃ (k : Nat) (C : Nat → List Int) (Aq : Option Addr) (cq : Nat), k ≤ 3 ∧ j = .int .i64 (k : Int) ∧ v6 = .slice Aq (kpB k) cq ∧ FV C (kpH (kpB k)) ns0 ∧ Hold w wr (queA 3 (.slice Aq (kpB k) cq) (oI (List.range (kpB k))) * (memA m C * (limA gl [] * (prA gp m r * Asr.emp))))) (fun _ j _ => 3 - (intOf j).toNat)
  case atStart => exact ⟨0, C0, none, 0, by omega, rfl, rfl, HV.out, h6⟩
  case round =>
    clear h6 HV
    obtain ⟨k, C, A1, c1, hk, rfl, rfl, hv, h8⟩ := hrel
    have HV := hid hv
    clear hv
    by_cases hlt : k < 3
    · have e2 : decide ((k : Int) < 3) = true := decide_eq_true (by omega)
      have e2' : decide (k < 3) = true := decide_eq_true hlt
      have hix : ∀ w, (Instr.index 30 (.agg #[.int .i64 3, .int .i64 2, .int .i64 1, .int .i64 0]) (.int .i64 (k : Int))).run Try.prog w = .ok (.int .i64 (kpN k : Int)) w := fun w => by
        obtain rfl | rfl | rfl : k = 0 ∨ k = 1 ∨ k = 2 := by omega
        all_goals kernel_rfl
      have hfl : ∀ w, (Instr.field 32 cfH.val 3).run Try.prog w = .ok (.agg #[.int .i64 3, .int .i64 2, .int .i64 1, .int .i64 0]) w := fun w => by kernel_rfl
      have HKB := hid (kpB_next hlt)
      go_wp2_with fail
      go_loopw [6, 8] (fun v6 j wr => ∃ (i : Nat) (C : Nat → List Int) (Aq : Option Addr) (cq : Nat), i ≤ kpN k ∧ j = .int .i64 (i : Int) ∧ v6 = .slice Aq (kpB k + i) cq ∧ FV C (kpH (kpB k + i)) ns0 ∧ Hold w wr (queA 3 (.slice Aq (kpB k + i) cq) (oI (List.range (kpB k + i))) * (memA m C * (limA gl [] * (prA gp m r * Asr.emp))))) (fun _ j _ => kpN k - (intOf j).toNat)
      case atStart => exact ⟨0, C, A1, c1, Nat.zero_le _, rfl, rfl, HV.out, h8⟩
      case round =>
        clear h8 HV
        obtain ⟨i, C, Aq, cq, hi, rfl, rfl, hv, h8⟩ := hrel
        have HV := hid hv
        clear hv
        by_cases hli : i < kpN k
        · have e3 : decide ((i : Int) < (kpN k : Int)) = true := decide_eq_true (by omega)
          have e3' : decide (i < kpN k) = true := decide_eq_true hli
          obtain ⟨hc, hp6⟩ := kpB_cls hlt hli
          obtain ⟨p, hp⟩ : ∃ p, p = kpB k + i := ⟨_, rfl⟩
          rw [← hp] at HV h8 hc hp6 ⊢
          have HP := hid (And.intro hp hc)
          clear hp hc
          go_wp2_with fail
          refine (heap18_any w _ _ h8).mono ?_
          rintro e w6 ⟨rfl, h9⟩
          clear h8
          go_wp2_with fail
          refine (po_new w _ _ k h9).mono ?_
          rintro e w7 ⟨g, rfl, h10⟩
          clear h9 hix hfl e3 e3'
          have h11 : Hold w w7 (pmA (kpS g p 0) * (memA m C * (queA 3 (.slice Aq p cq) (oI (List.range p)) * (limA gl [] * (prA gp m r * Asr.emp))))) := by
            show Hold w w7 (poA g (fcls p : Nat) 0 0 0 (-1) * _)
            rw [HP.out.2]
            exact h10.pk3 [0, 2, 1]
          clear h10
          go_wp2_with fail
          go_loopw [10] (fun j wr => ∃ (i : Nat) (C : Nat → List Int), i ≤ 3 ∧ j = .int .i64 (i : Int) ∧ FV C (kpQ p i) ns0 ∧ Hold w wr (pmA (kpS g p i) * (memA m C * (queA 3 (.slice Aq p cq) (oI (List.range p)) * (limA gl [] * (prA gp m r * Asr.emp)))))) (fun j _ => 3 - (intOf j).toNat)
          case atStart => exact ⟨0, C, by omega, rfl, HV.out, h11⟩
          case round =>
            clear h11 HV
            obtain ⟨j, C, hj, rfl, hv, h8⟩ := hrel
            by_cases hlj : j < 3
            · have e4 : decide ((j : Int) < 3) = true := decide_eq_true (by omega)
              have e4' : decide (j < 3) = true := decide_eq_true hlj
              have p0 := h8.drop.drop.drop.drop.blk.some_ (i := 0) rfl
              rw [show kpQ p j = kpH p from if_pos hlj] at hv
              have hst := po_step w _ _ m C (kpH p) ns0 3 (kpS g p j) h8 hv (kp_fi (by omega)) (by decide) (kp_pw g hp6 hlj)
              have hv2 := popC_fv hv (kp_fi (by omega)) (kp_pw g hp6 hlj)
              rw [(kp_next g hp6 hlj).1, kpS_g] at hst
              rw [(kp_next g hp6 hlj).2] at hv2
              have HST := hid hst
              have HV2 := hid hv2
              clear h8 hv hst hv2
              go_wp2_with fail
              refine HST.out.mono ?_
              rintro e w9 ⟨rfl, h9⟩
              generalize popA _ _ _ = a0
              have H9 := hid h9
              clear HST h9 p0
              go_wp2_with fail
              go_roundw
              case rel => exact ⟨j + 1, _, by omega, by go_num, HV2.out, H9.out⟩
              case measure => simp [intOf]; omega
            · obtain rfl : j = 3 := by omega
              have e4 : decide (((3 : Nat) : Int) < 3) = false := rfl
              have HV : Hid (FV C (kpH (p + 1)) ns0) := hid hv
              clear hv hlj hj
              rw [show ((3 : Nat) : Int) = 3 from rfl]
              have HPB := hid (po_block w wr _ g (fcls p : Nat) 3 ((kpH p).getD (fcls p) 0) (ns0.getD p 0) p h8)
              have h9 : Hold w wr (queA 3 (.slice Aq p cq) (oI (List.range p)) * (memA m C * (limA gl [] * (prA gp m r * Asr.emp)))) := h8.drop.swap
              clear h8
              go_wp2_with fail
              refine HPB.out.mono ?_
              rintro e w' ⟨rfl, rfl⟩
              clear HPB
              go_wp2_with (at_builtin; refine wpList_que rfl _ _ 39 rfl iI (.int .i64 0) 8 Try.underlying39 hiI iz0 iz1 iz2 rfl (.int .i64 p) _ rfl h9 rfl rfl (by simp [toI]; omega) (by decide) ?_)
              intro v7 w10 h10
              obtain ⟨A7, c7, hv7⟩ := h10.queForm
              rw [show (oI (List.range p) ++ [Value.int .i64 (p : Int)]).length = p + 1 by simp [toI]] at hv7
              subst hv7
              have h11 : Hold w w10 (queA 3 (.slice A7 (p + 1) c7) (oI (List.range (p + 1))) * (memA m C * (limA gl [] * (prA gp m r * Asr.emp)))) := by
                rw [List.range_succ, oI, toI, List.map_append, List.map_append]
                exact h10
              clear h9 h10
              have HPE := HP.out.1
              rw [show p + 1 = kpB k + (i + 1) by omega] at h11 HV ⊢
              clear HPE
              have H11 := hid h11
              have hk3 := HKB.out.2.2
              clear h11
              go_wp2_with fail
              go_roundw
              case rel => exact ⟨i + 1, _, A7, c7, by omega, by go_num, rfl, HV.out, H11.out⟩
              case measure => simp [intOf]; omega
        · obtain rfl : i = kpN k := by omega
          have e3 : decide ((kpN k : Int) < (kpN k : Int)) = false := decide_eq_false (by omega)
          rw [← HKB.out.1] at h8 HV ⊢
          have H8 := hid h8
          have h0 := Hold.start w
          clear h8
          go_wp2_with fail
          refine (heap18_any w _ _ H8.out).mono ?_
          rintro e w6 ⟨rfl, h9⟩
          have H9 := hid h9
          clear H8 h9
          go_wp2_with fail
          go_roundw
          case rel => exact ⟨k + 1, _, Aq, cq, by omega, by go_num, rfl, HV.out, H9.out⟩
          case measure => simp [intOf]; omega
    · obtain rfl : k = 3 := by omega
      have e2 : decide (((3 : Nat) : Int) < 3) = false := rfl
      replace HV : Hid (FV C (kpH 6) ns0) := HV
      have h9 : Hold w wr (queA 3 (.slice A1 6 c1) (oI (List.range 6)) * (memA m C * (limA gl [] * (prA gp m r * Asr.emp)))) := h8
      clear h8 hlt hk
      rw [show ((3 : Nat) : Int) = 3 from rfl]
      have HK : Hid (KI (kpH 6) ns0 (fun _ => []) (List.range 6 ++ blkN []) [] [none] 3) := hid (by rw [show List.range 6 ++ blkN [] = List.range 6 from List.append_nil _]; exact kp_ki)
      have hn20 : n ≤ 20 := by omega
      have h0 := Hold.start w
      clear hn h0
      go_wp2_with fail
      go_loopw [6, 11] (fun v6 j wr => ∃ (i : Nat) (C : Nat → List Int) (hs ns : List Int) (L : Nat → List Nat) (outs : List Nat) (es : List (Int × Int)) (B : Int) (Aq : Option Addr) (no cq : Nat), i ≤ n ∧ j = .int .i64 (i : Int) ∧ v6 = .slice Aq no cq ∧ outs.length = no ∧ FV C hs ns ∧ KI hs ns L (outs ++ blkN es) [] [none] B ∧ B ≤ 3 + 18 * (i : Int) ∧ (∀ e ∈ es, 0 ≤ e.1 ∧ e.1 < 6) ∧ Hold w wr (queA 3 (.slice Aq no cq) (oI outs) * (memA m C * (limA gl es * (prA gp m r * Asr.emp))))) (fun _ j _ => n - (intOf j).toNat)
      case atStart => exact ⟨0, C, _, _, _, List.range 6, [], 3, A1, 6, c1, by omega, rfl, rfl, rfl, HV.out, HK.out, by omega, (fun e he => by cases he), h9⟩
      case round =>
        clear h9 HV HK
        obtain ⟨i, C, hs, ns, L, outs, es, B, Aq, no, cq, hi, rfl, rfl, hno, hv, hki, hB, hes, h⟩ := hrel
        have HV := hid hv
        have HK := hid hki
        have HES := hid hes
        have HNO := hid hno
        clear hv hki hes hno
        by_cases hlt : i < n
        · have e2 : decide ((i : Int) < (n : Int)) = true := decide_eq_true (by omega)
          have e2' : decide (i < n) = true := decide_eq_true hlt
          obtain ⟨x, dr, z, hAx, hz, hc0, hc1⟩ := HA.out wr h.below i hlt
          subst hAx
          have i0 : (0 : Int) ≤ (i : Int) := by omega
          have i1 : (i : Int) < (n : Int) := by omega
          have HPL := hid (place_ex wr z 9 (by omega) (by omega))
          clear hz
          go_wp2_with fail
          refine HPL.out.mono ?_
          rintro e w' ⟨q, hq9, rfl, rfl⟩
          clear HPL hc1
          go_upto_if 86 with fail
          go_cut [6, 11] (fun v6 j wx => j = .int .i64 (i : Int) ∧ ∃ (C : Nat → List Int) (hs ns : List Int) (L : Nat → List Nat) (outs : List Nat) (es : List (Int × Int)) (B : Int) (Aq : Option Addr) (no cq : Nat), v6 = .slice Aq no cq ∧ outs.length = no ∧ FV C hs ns ∧ KI hs ns L (outs ++ blkN es) [] [none] B ∧ B ≤ 3 + 18 * ((i : Int) + 1) ∧ (∀ e ∈ es, 0 ≤ e.1 ∧ e.1 < 6) ∧ Hold w wx (queA 3 (.slice Aq no cq) (oI outs) * (memA m C * (limA gl es * (prA gp m r * Asr.emp)))))
          case first =>
            cases dr with
            | true =>
              have he6 : es.length ≤ 6 := by
                have := HK.out.len
                rw [List.length_append] at this
                unfold blkN at this
                rw [List.length_map] at this
                omega
              have HDR := hid (lim_drain w wr _ gl es q (h.pk3 [2, 0, 1]) (by omega) HES.out)
              clear h
              go_wp2_with fail
              refine HDR.out.mono ?_
              rintro e w6 ⟨d, gs, rfl, hgl, h2⟩
              clear HDR hc0
              obtain ⟨hsi, hrem⟩ := HK.out.drain (gs := gs) q hgl
              obtain ⟨qs0, hqs⟩ : ∃ qs, qs = List.zipWith qOf gs (outE q es) := ⟨_, rfl⟩
              rw [← hqs] at h2 hsi hrem
              obtain ⟨ek, hek⟩ : ∃ ek, ek = keptE q es := ⟨_, rfl⟩
              rw [← hek] at h2 hsi
              obtain ⟨ne, hne⟩ : ∃ ne, ne = ek.length := ⟨_, rfl⟩
              have HEK : Hid ((∀ e ∈ ek, 0 ≤ e.1 ∧ e.1 < 6) ∧ (∀ e ∈ ek, (q : Int) < e.2) ∧ ne = ek.length ∧ ne ≤ 6) := hid ⟨by rw [hek]; exact keptE_sub HES.out, fun e he => keptE_gt (by rw [hek] at he; exact he), hne, by
                have := List.length_filter_le (fun e : Int × Int => decide ((q : Int) < e.2)) es
                rw [hne, hek]
                unfold keptE
                omega⟩
              have HSI := hid hsi
              have h3 : Hold w w6 (drA d qs0 * (memA m C * (limA gl ek * (queA 3 (.slice Aq no cq) (oI outs) * (prA gp m r * Asr.emp))))) := h2.pk5 [0, 3, 1, 2, 4]
              clear hek hqs hgl h2 hsi hne he6
              go_wp2_with fail
              go_loopw [14] (fun j wr => ∃ (k : Nat) (C : Nat → List Int) (hs ns : List Int) (L : Nat → List Nat) (qs : List QM) (B' : Int), j = .int .i64 (k : Int) ∧ FV C hs ns ∧ SI hs ns L (outs ++ blkN ek) B' qs ∧ B' ≤ B + k ∧ remQ qs + k ≤ 18 ∧ Hold w wr (drA d qs * (memA m C * (limA gl ek * (queA 3 (.slice Aq no cq) (oI outs) * (prA gp m r * Asr.emp)))))) (fun j _ => 18 - (intOf j).toNat)
              case atStart => exact ⟨0, C, hs, ns, L, qs0, B, rfl, HV.out, HSI.out, by omega, by omega, h3⟩
              case round =>
                clear h3 HV HSI HK hrem
                obtain ⟨k, C, hs, ns, L, qs, B', rfl, hv, hsi, hBk, hrem, h8⟩ := hrel
                have HV := hid hv
                have HSI := hid hsi
                clear hv hsi
                have e5 : decide ((k : Int) < 30) = true := decide_eq_true (by omega)
                have e5' : decide (k < 30) = true := decide_eq_true (by omega)
                have HDN := hid (dr_done w wr _ d qs h8)
                cases qs with
                | nil =>
                  have HV2 := hid (lim_Versions w wr _ gl ek (h8.drop.pk4 [1, 0, 2, 3]) (by have := HEK.out.2.2; omega))
                  rw [← HEK.out.2.2.1] at HV2
                  clear h8
                  go_wp2_with fail
                  refine HDN.out.mono ?_
                  rintro e w' ⟨rfl, rfl⟩
                  clear HDN
                  go_wp2_with fail
                  refine HV2.out.mono ?_
                  rintro e w7 ⟨A2, c2, rfl, h9⟩
                  clear HV2
                  go_wp2_with fail
                  go_loopw [16] (fun j wr => ∃ k : Nat, k ≤ ne ∧ j = .int .i64 (k : Int) ∧ Hold w wr (rowS 3 1 (.slice A2 ne c2) ne (ek.map fun e => .int .i64 e.2) * (limA gl ek * (memA m C * (queA 3 (.slice Aq no cq) (oI outs) * (prA gp m r * Asr.emp)))))) (fun j _ => ne - (intOf j).toNat)
                  case atStart => exact ⟨0, by omega, rfl, h9⟩
                  case round =>
                    clear h9
                    obtain ⟨k2, hk2, rfl, h9⟩ := hrel
                    have hne6 := HEK.out.2.2.2
                    by_cases hlk : k2 < ne
                    · have e6 : decide ((k2 : Int) < (ne : Int)) = true := decide_eq_true (by omega)
                      have e6' : decide (k2 < ne) = true := decide_eq_true hlk
                      have k0 : (0 : Int) ≤ (k2 : Int) := by omega
                      have k1 : (k2 : Int) < (ne : Int) := by omega
                      have hkl : k2 < ek.length := by rw [← HEK.out.2.2.1]; exact hlk
                      have hgt := HEK.out.2.1 _ (List.getElem_mem hkl)
                      obtain ⟨b2, hr2⟩ := ints_row h9
                      obtain ⟨ad, hAd, _, hcc⟩ := hr2.cellAt hlk
                      obtain ⟨y, hy⟩ : ∃ y, y = (ek[k2]).2 := ⟨_, rfl⟩
                      have hcell : wr.cell? (ad.add k2) = some (.int .i64 y) := by rw [hcc, hy]; simp
                      rw [← hy] at hgt
                      have e7 : decide (y ≤ (q : Int)) = false := decide_eq_false (by omega)
                      subst hAd
                      have H9 := hid h9
                      clear hr2 hcc hy h9
                      go_wp2_with fail
                      go_roundw
                      case rel => exact ⟨k2 + 1, by omega, by go_num, H9.out⟩
                      case measure => simp [intOf]; omega
                    · obtain rfl : k2 = ne := by omega
                      have e6 : decide ((k2 : Int) < (k2 : Int)) = false := decide_eq_false (by omega)
                      have H9 := hid (h9.drop.pk3 [2, 1, 0])
                      clear h9
                      go_wp2_with fail
                      go_meet
                      exact ⟨rfl, C, hs, ns, L, outs, ek, B', Aq, no, cq, rfl, HNO.out, HV.out, HSI.out, by omega, HEK.out.1, H9.out⟩
                | cons qh rest =>
                  have hqa := HSI.out.qw.a
                  have hk18 : k < 18 := by
                    have : 0 < remQ (qh :: rest) := by simp only [remQ]; omega
                    omega
                  have p0 := h8.drop.drop.drop.drop.blk.some_ (i := 0) rfl
                  have hst := dr_step1 w wr _ d m C hs ns B' qh rest h8 HV.out HSI.out.fi (by omega) HSI.out.qw
                  have hv2 := pushC_fv HV.out HSI.out.fi HSI.out.qw
                  obtain ⟨L', s1, s2, s3⟩ := HSI.out.step (by omega)
                  have HST := hid hst
                  have HV2 := hid hv2
                  have HS := hid (And.intro s1 s3)
                  clear s1 s2 s3 h8 hst hv2 hqa
                  go_wp2_with fail
                  refine HDN.out.mono ?_
                  rintro e w' ⟨rfl, rfl⟩
                  clear HDN
                  go_wp2_with fail
                  refine HST.out.mono ?_
                  rintro e w9 ⟨rfl, h9⟩
                  generalize pushA _ _ _ = a2
                  have H9 := hid h9
                  clear HST h9 p0
                  go_wp2_with fail
                  go_roundw
                  case rel => exact ⟨k + 1, _, _, _, L', _, B' + 1, by go_num, HV2.out, HS.out.1, by omega, by have := HS.out.2; omega, H9.out⟩
                  case measure => simp [intOf]; omega
            | false =>
              cases outs with
              | nil =>
                obtain rfl : no = 0 := by have := HNO.out; simpa using this.symm
                have e4 : decide ((0 : Int) < ((0 : Nat) : Int)) = false := rfl
                have H := hid h
                clear h
                go_wp2_with fail
                go_meet
                exact ⟨rfl, C, hs, ns, L, [], es, B, Aq, 0, cq, rfl, rfl, HV.out, HK.out, by omega, HES.out, H.out⟩
              | cons b outs =>
                obtain ⟨n1, rfl⟩ : ∃ n1, no = n1 + 1 := ⟨outs.length, by have := HNO.out; simpa using this.symm⟩
                have e4 : decide ((0 : Int) < ((n1 + 1 : Nat) : Int)) = true := decide_eq_true (by omega)
                have e4' : decide ((0 : Int) < (n1 : Int) + 1) = true := decide_eq_true (by omega)
                have e4'' : decide (0 < n1 + 1) = true := decide_eq_true (by omega)
                obtain ⟨hki2, hae⟩ := HK.out.add q
                have hb6 : b < 6 := HK.out.hd b (by simp)
                have he6 : es.length ≤ 6 := by
                  have := HK.out.len
                  rw [List.length_append] at this
                  unfold blkN at this
                  rw [List.length_map] at this
                  omega
                have hnc := h.queRd.2.1
                obtain ⟨ga, off, rfl, _⟩ := queHead h
                have HADD := hid (lim_add w wr _ gl es q (some ⟨ga, off, none⟩) 1 cq [(b : Int)] (h.pk3 [2, 0, 1]) (fun w' p' hw => by
                  obtain ⟨_, _, bb, hr⟩ := hw.drop.queRd
                  exact ⟨bb, hr.take (k := 1) (by omega)⟩) (fun y hy => by rw [List.mem_singleton.1 hy]; unfold I64b; omega) (by omega) (by omega))
                rw [hae] at HADD hki2
                have hh : ∀ w, (Instr.slice 39 (.slice (some ⟨ga, off, none⟩) (n1 + 1) cq) none (some (.int .i64 1)) none).run Try.prog w = .ok (.slice (some ⟨ga, off, none⟩) 1 cq) w := fun w => slice_headP 39 (by kernel_rfl) (fun _ => by kernel_rfl) w (some ⟨ga, off, none⟩) (n1 + 1) cq 1 (by omega)
                obtain ⟨A2, hA2⟩ : ∃ A2 : Option Addr, A2 = if cq = 1 then some ⟨ga, off, none⟩ else some ((⟨ga, off, none⟩ : Addr).add 1) := ⟨_, rfl⟩
                have htl : ∀ w, (Instr.slice 39 (.slice (some ⟨ga, off, none⟩) (n1 + 1) cq) (some (.int .i64 1)) none none).run Try.prog w = .ok (.slice A2 n1 (cq - 1)) w := fun w => by
                  rw [hA2]; exact slice_tailP 39 (by kernel_rfl) (fun _ => by kernel_rfl) w ⟨ga, off, none⟩ n1 cq
                have HA2 := hid hA2
                have HK2 := hid hki2
                clear h hki2 hae hA2
                go_wp2_with fail
                refine HADD.out.mono ?_
                rintro e w6 ⟨rfl, h2⟩
                have h3 : Hold w w6 (queA 3 (.slice A2 n1 (cq - 1)) (oI outs) * (memA m C * (limA gl (es ++ [((b : Int), (q : Int))]) * (prA gp m r * Asr.emp)))) := by
                  have h4 : Hold w w6 (queA 3 (.slice (some ⟨ga, off, none⟩) (n1 + 1) cq) (.int .i64 (b : Int) :: oI outs) * _) := h2.pk3 [1, 2, 0]
                  have h5 := h4.imp (Imp.on _ (Imp.queTail _ _ _ _ _ _))
                  rw [← HA2.out] at h5
                  exact h5
                have H3 := hid h3
                clear h2 h3 HADD hh hc0
                go_wp2_with fail
                go_meet
                exact ⟨rfl, C, hs, ns, L, outs, _, B, A2, n1, cq - 1, rfl, by have := HNO.out; simpa using this, HV.out, HK2.out, by omega, (fun e he => (List.mem_append.1 he).elim (HES.out e) (fun h => by rw [List.mem_singleton.1 h]; show (0 : Int) ≤ (b : Int) ∧ (b : Int) < 6; omega)), H3.out⟩
          case rest =>
            clear h HV HK HES HNO hB hc0 hi
            obtain ⟨rfl, C, hs, ns, L, outs, es, B, Aq, no, cq, rfl, hno, hv, hki, hB, hes, h⟩ := hcut
            have HV := hid hv
            have HK := hid hki
            have HES := hid hes
            have HNO := hid hno
            have hlen := hki.len
            rw [List.length_append, hno] at hlen
            obtain ⟨ne, hne⟩ : ∃ ne, ne = es.length := ⟨_, rfl⟩
            have hlen2 : no + ne ≤ 6 := by
              unfold blkN at hlen
              rw [List.length_map] at hlen
              omega
            have HNE := hid hne
            clear hv hki hes hno hlen hne
            go_wp2_with (at_make; refine wpList_make_full _ rfl _ _ 39 rfl _ 3 iI (.int .i64 0) 1 Try.underlying39 hiI iz0 iz1 .i64 .i64 (6 : Int) (6 : Int) 6 rfl rfl rfl rfl (by rw [iz2]; omega) (by unfold maxLen; omega) (Nat.le_refl _) ?_)
            intro w1 hown hgrow
            have h2 := h.make hown hgrow (by simp)
            clear hown hgrow h
            go_upto_region 42 with fail
            generalize wc.heap.size = gs at h2 ⊢
            have h3 := h2.cellsRow 3 #[] 0 rfl (by decide)
            obtain ⟨bq, hrq⟩ := h3.drop.drop.queRd.2.2
            obtain ⟨held, hheld⟩ : ∃ held, held = outs ++ blkN es := ⟨_, rfl⟩
            have HH := hid hheld
            have HKH : Hid (KI hs ns L held [] [none] B) := hid (by rw [hheld]; exact HK.out)
            clear hheld
            go_wp2_with (at_builtin; refine wpList_appA rfl _ _ 39 rfl 3 iI (.int .i64 0) 8 Try.underlying39 hiI iz0 iz1 iz2 rfl (.slice (some ⟨w1.heap.size, 0, none⟩) 0 0) 0 [] (oI outs) rfl h3 Aq no cq rfl bq hrq (oI_one _) (by omega) (by decide) ?_)
            intro A4 c4 w4 h4
            clear h2 h3 hrq
            have h5 : Hold w w4 (limA gl es * (rowS 3 1 (.slice A4 no c4) no (oI outs) * (rowA 3 (.slice (some ⟨gs, 0, none⟩) 6 6) 6 ((cntR []).map (Value.int .i64)) * (queA 3 (.slice Aq no cq) (oI outs) * (memA m C * (prA gp m r * Asr.emp)))))) := h4.pk6 [4, 0, 1, 2, 3, 5]
            have hbl := lim_Blocks w w4 _ gl es h5 (by have := HNE.out; omega)
            rw [← HNE.out, oI_blkN HES.out] at hbl
            have HBL := hid hbl
            clear h4 h5 hbl
            go_wp2_with fail
            refine HBL.out.mono ?_
            rintro e w5 ⟨A5, c5, rfl, h6⟩
            clear HBL
            have h7 : Hold w w5 (rowS 3 1 (.slice A4 no c4) no (oI outs) * (rowS 3 1 (.slice A5 ne c5) ne (oI (blkN es)) * (limA gl es * (rowA 3 (.slice (some ⟨gs, 0, none⟩) 6 6) 6 ((cntR []).map (Value.int .i64)) * (queA 3 (.slice Aq no cq) (oI outs) * (memA m C * (prA gp m r * Asr.emp))))))) := h6.pk3 [2, 0, 1]
            obtain ⟨b5, hr5⟩ := ints_row h7.drop
            clear h6
            go_wp2_with (at_builtin; refine wpList_appA rfl _ _ 39 rfl 3 iI (.int .i64 0) 8 Try.underlying39 hiI iz0 iz1 iz2 rfl (.slice A4 no c4) no (oI outs) (oI (blkN es)) rfl h7 A5 ne c5 rfl b5 hr5 (oI_one _) (by omega) (by decide) ?_)
            intro A6 c6 w6 h8
            clear h7 hr5
            rw [oI_append, ← HH.out] at h8
            have h9 : Hold w w6 (memA m C * (rowS 3 1 (.slice A6 (no + ne) c6) (no + ne) (oI held) * (rowA 3 (.slice (some ⟨gs, 0, none⟩) 6 6) 6 ((cntR []).map (Value.int .i64)) * (queA 3 (.slice Aq no cq) (oI outs) * (limA gl es * (prA gp m r * Asr.emp)))))) := h8.pk7 [5, 0, 3, 4, 2, 6]
            have hnh : no + ne = held.length := by rw [HH.out, List.length_append, HNO.out, HNE.out]; unfold blkN; rw [List.length_map]
            obtain ⟨nh, hnh2⟩ : ∃ nh, nh = no + ne := ⟨_, rfl⟩
            rw [← hnh2] at h9 hnh ⊢
            have HNH := hid hnh
            clear h8 hnh hnh2
            go_wp2_with fail
            go_loopw [18, 19] (fun v18 j wr => ∃ (k nk : Nat) (A : Option Addr) (c : Nat), k ≤ 3 ∧ j = .int .i64 (k : Int) ∧ v18 = .slice A nk c ∧ nk = (allL L held k).length ∧ Hold w wr (memA m C * (rowS 3 1 (.slice A nk c) nk (oI (allL L held k)) * (rowA 3 (.slice (some ⟨gs, 0, none⟩) 6 6) 6 ((cntR []).map (Value.int .i64)) * (queA 3 (.slice Aq no cq) (oI outs) * (limA gl es * (prA gp m r * Asr.emp))))))) (fun _ j _ => 3 - (intOf j).toNat)
            case atStart => exact ⟨0, nh, A6, c6, by omega, rfl, rfl, HNH.out, h9⟩
            case round =>
              clear h9
              obtain ⟨k, nk, A7, c7, hk, rfl, rfl, hnk, h8⟩ := hrel
              obtain ⟨hal, hLk⟩ := HKH.out.allLen hk
              rw [← hnk] at hal
              have HNK := hid hnk
              clear hnk
              by_cases hlk : k < 3
              · have e4 : decide ((k : Int) < 3) = true := decide_eq_true (by omega)
                have e4' : decide (k < 3) = true := decide_eq_true hlk
                have k0 : (0 : Int) ≤ (k : Int) := by omega
                have p0 := h8.drop.drop.drop.drop.drop.blk.some_ (i := 0) rfl
                have HM := hid (image_any w wr _ m C h8 HV.out.ok)
                obtain ⟨nL, hnL⟩ : ∃ nL, nL = (toI (L k)).length := ⟨_, rfl⟩
                have hl6 : nL ≤ 6 := by rw [hnL]; unfold toI; rw [List.length_map]; exact hLk k hlk
                have HNL := hid hnL
                clear h8 hLk hnL
                go_wp2_with fail
                refine HM.out.mono ?_
                rintro e w2 ⟨y, rfl, h9⟩
                clear HM p0
                have hli := list_img w w2 _ C hs ns B y k h9 HV.out HKH.out.fi (by omega)
                rw [HKH.out.listF (by omega : k < 4)] at hli
                have hli2 := hli.mono (R' := fun e w' => ∃ A c, e = .returned (.tuple #[.slice A nL c, .int .i64 0]) ∧ Hold w w' (rowA 3 (.slice A nL c) nL (oI (L k)) * (memA m C * (rowS 3 1 (.slice A7 nk c7) nk (oI (allL L held k)) * (rowA 3 (.slice (some ⟨gs, 0, none⟩) 6 6) 6 ((cntR []).map (Value.int .i64)) * (queA 3 (.slice Aq no cq) (oI outs) * (limA gl es * (prA gp m r * Asr.emp)))))))) (by rintro e w' ⟨A, c, he, h'⟩; rw [HNL.out]; exact ⟨A, c, he, h'⟩)
                have HLI := hid hli2
                clear hli hli2 h9
                go_wp2_with fail
                refine HLI.out.mono ?_
                rintro e w3 ⟨A8, c8, rfl, h10⟩
                clear HLI
                have hr8 := h10.rowReads
                have h11 := h10.pk3 [2, 0, 1]
                clear h10
                go_wp2_with (at_builtin; refine wpList_appA rfl _ _ 39 rfl 3 iI (.int .i64 0) 8 Try.underlying39 hiI iz0 iz1 iz2 rfl (.slice A7 nk c7) nk (oI (allL L held k)) (oI (L k)) rfl h11 A8 nL c8 rfl _ hr8 (oI_one _) (by omega) (by decide) ?_)
                intro A9 c9 w4 h12
                rw [oI_append] at h12
                have h13 : Hold w w4 (memA m C * (rowS 3 1 (.slice A9 (nk + nL) c9) (nk + nL) (oI (allL L held (k + 1))) * (rowA 3 (.slice (some ⟨gs, 0, none⟩) 6 6) 6 ((cntR []).map (Value.int .i64)) * (queA 3 (.slice Aq no cq) (oI outs) * (limA gl es * (prA gp m r * Asr.emp)))))) := h12.pk3 [2, 0]
                have H13 := hid h13
                clear h11 h12 h13 hr8
                go_wp2_with fail
                go_roundw
                case rel => exact ⟨k + 1, nk + nL, A9, c9, by omega, by go_num, rfl, by rw [HNK.out, HNL.out]; simp [allL, toI], H13.out⟩
                case measure => simp [intOf]; omega
              · obtain rfl : k = 3 := by omega
                have e4 : decide (((3 : Nat) : Int) < 3) = false := rfl
                rw [show ((3 : Nat) : Int) = 3 from rfl]
                have HAL := hid HKH.out.all
                obtain ⟨al, hal2⟩ : ∃ al, al = allL L held 3 := ⟨_, rfl⟩
                rw [← hal2] at HAL HNK h8
                have h9 : Hold w wr (rowS 3 1 (.slice A7 nk c7) nk (oI al) * (rowA 3 (.slice (some ⟨gs, 0, none⟩) 6 6) 6 ((cntR (al.take 0)).map (Value.int .i64)) * (memA m C * (queA 3 (.slice Aq no cq) (oI outs) * (limA gl es * (prA gp m r * Asr.emp)))))) := h8.pk3 [1, 2, 0]
                clear h8 hal2 hlk hk hLk
                go_wp2_with fail
                go_loopw [22] (fun j wr => ∃ k : Nat, k ≤ nk ∧ j = .int .i64 (k : Int) ∧ Hold w wr (rowS 3 1 (.slice A7 nk c7) nk (oI al) * (rowA 3 (.slice (some ⟨gs, 0, none⟩) 6 6) 6 ((cntR (al.take k)).map (Value.int .i64)) * (memA m C * (queA 3 (.slice Aq no cq) (oI outs) * (limA gl es * (prA gp m r * Asr.emp))))))) (fun j _ => nk - (intOf j).toNat)
                case atStart => exact ⟨0, by omega, rfl, h9⟩
                case round =>
                  clear h9
                  obtain ⟨k, hk, rfl, h8⟩ := hrel
                  by_cases hlk : k < nk
                  · have e5 : decide ((k : Int) < (nk : Int)) = true := decide_eq_true (by omega)
                    have e5' : decide (k < nk) = true := decide_eq_true hlk
                    have k0 : (0 : Int) ≤ (k : Int) := by omega
                    have k1 : (k : Int) < (nk : Int) := by omega
                    have hkl : k < al.length := by rw [← HNK.out]; exact hlk
                    obtain ⟨b8, hr8⟩ := ints_row h8
                    obtain ⟨ad, hAd, _, hcc⟩ := hr8.cellAt hlk
                    obtain ⟨b, hb⟩ : ∃ b, b = al[k] := ⟨_, rfl⟩
                    have hcell : wr.cell? (ad.add k) = some (.int .i64 (b : Int)) := by rw [hcc, hb]; simp [toI]
                    have hb6 : b < 6 := by rw [hb]; exact HAL.out.1 _ (List.getElem_mem hkl)
                    have ht : al.take (k + 1) = al.take k ++ [b] := by rw [hb]; exact (List.take_append_getElem hkl).symm
                    obtain ⟨g', hg', hcv, hfv, hsv⟩ := h8.swap.setRow hb6
                    injection hg' with hg'
                    injection hg' with hg'
                    subst hg'
                    rw [cntR_at hb6] at hcv
                    obtain ⟨cn, hcn⟩ : ∃ cn, cn = (al.take k).count b := ⟨_, rfl⟩
                    have hcb : cn ≤ 100 := by
                      have h1 : (al.take k).count b ≤ (al.take k).length := List.count_le_length
                      rw [List.length_take] at h1
                      omega
                    have hset := hsv (.int .i64 ((((al.take k).count b : Nat) : Int) + 1))
                    rw [cntR_add hb6, ← ht] at hset
                    rw [← hcn] at hset hcv
                    have e6 : decide ((b : Int) < 0) = false := decide_eq_false (by omega)
                    have e7 : decide (6 ≤ (b : Int)) = false := decide_eq_false (by omega)
                    have e8 : decide (6 ≤ b) = false := decide_eq_false (by omega)
                    have b0 : (0 : Int) ≤ (b : Int) := by omega
                    have b1 : (b : Int) < 6 := by omega
                    subst hAd
                    have H9 := hid hset.swap
                    clear hr8 hcc hb ht hsv hset h8 hcn hkl
                    go_wp2_with fail
                    go_roundw
                    case rel => exact ⟨k + 1, by omega, by go_num, H9.out⟩
                    case measure => simp [intOf]; omega
                  · obtain rfl : k = nk := by omega
                    have e5 : decide ((k : Int) < (k : Int)) = false := decide_eq_false (by omega)
                    rw [List.take_of_length_le (by rw [← HNK.out]; exact Nat.le_refl _)] at h8
                    have h9 := h8.drop
                    clear h8 hlk hk
                    go_wp2_with fail
                    go_loopw [23] (fun j wr => ∃ k : Nat, k ≤ 6 ∧ j = .int .i64 (k : Int) ∧ Hold w wr (rowA 3 (.slice (some ⟨gs, 0, none⟩) 6 6) 6 ((cntR al).map (Value.int .i64)) * (memA m C * (queA 3 (.slice Aq no cq) (oI outs) * (limA gl es * (prA gp m r * Asr.emp)))))) (fun j _ => 6 - (intOf j).toNat)
                    case atStart => exact ⟨0, by omega, rfl, h9⟩
                    case round =>
                      clear h9
                      obtain ⟨b, hb, rfl, h8⟩ := hrel
                      by_cases hlb : b < 6
                      · have e6 : decide ((b : Int) < 6) = true := decide_eq_true (by omega)
                        have e6' : decide (b < 6) = true := decide_eq_true hlb
                        have b0 : (0 : Int) ≤ (b : Int) := by omega
                        have b1 : (b : Int) < 6 := by omega
                        obtain ⟨g', hg', hcv, _, _⟩ := h8.setRow hlb
                        injection hg' with hg'
                        injection hg' with hg'
                        subst hg'
                        rw [cntR_at hlb, HAL.out.2 b hlb] at hcv
                        replace hcv : wr.cell? ⟨gs, b, none⟩ = some (.int .i64 1) := hcv
                        have H9 := hid h8
                        clear h8
                        go_wp2_with fail
                        go_roundw
                        case rel => exact ⟨b + 1, by omega, by go_num, H9.out⟩
                        case measure => simp [intOf]; omega
                      · obtain rfl : b = 6 := by omega
                        have e6 : decide (((6 : Nat) : Int) < 6) = false := rfl
                        rw [show ((6 : Nat) : Int) = 6 from rfl]
                        have H9 := hid (h8.drop.pk3 [1, 0, 2])
                        clear h8 hlb hb
                        go_wp2_with fail
                        go_roundw
                        case rel => exact ⟨i + 1, C, hs, ns, L, outs, es, B, Aq, no, cq, by omega, by go_num, rfl, HNO.out, HV.out, HK.out, by omega, HES.out, H9.out⟩
                        case measure => simp [intOf]; omega
        · obtain rfl : i = n := by omega
          have e2 : decide ((i : Int) < (i : Int)) = false := decide_eq_false (by omega)
          have HW := hid (awake18_any w wr _ h)
          clear h
          go_wp2_with fail
          refine HW.out.mono ?_
          rintro e w1 ⟨rfl, h1⟩
          have H1 := hid h1.below
          clear HW h1
          go_wp2_with fail
          go_ret
          exact ⟨rfl, H1.out⟩
theorem limboKeeps_walk (a0 : Option Addr) (len0 cap0 : Nat) (w : World) (w0 : KFits w 5 (.slice [.bool, .int .i64, .slice [.int .i64]]) (.slice a0 len0 cap0)) :
    Calls Try.prog 5 #[.slice a0 len0 cap0] w fun e w' => e = .returned (.bool true) ∧ Below w.heap.size w w' := by
  obtain ⟨A, n, c, hv, h⟩ := keepsArg w0
  injection hv with h1 h2 h3
  subst h1 h2 h3
  exact limboKeeps_any w a0 len0 cap0 h
end Go.Proofs.Ytopcnaakdldkpaa
