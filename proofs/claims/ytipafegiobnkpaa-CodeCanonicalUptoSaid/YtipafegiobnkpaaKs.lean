/- strongtxkit.Program and strongtxkit.Script of equal data. -/
import Derived.Test.YtipafegiobnkpaaWe
import Derived.Test.YtipafegiobnkpaaKit2
import Derived.Test.YtipafegiobnkpaaDk
import Derived.Test.YtipafegiobnkpaaRl
import Derived.ChangeKeysEq
namespace Go.Proofs.Ytipafegiobnkpaa
open Go.RowKit
set_option linter.unusedVariables false

theorem InsR.chg {w w' : World} {v : Value} {p : List (List Int)} (h : InsR w v p) (hc : Chg [] w w') : InsR w' v p := by
  obtain ⟨A, c, b, hv, hr⟩ := h
  exact ⟨A, c, b, hv, hr.chg hc (by simp)⟩
theorem ScrR.chg {w w' : World} {V : ScV} {s : Scr} (h : ScrR w V s) (hc : Chg [] w w') : ScrR w' V s := by
  obtain ⟨⟨b, h1⟩, ⟨⟨b2, h2⟩, h3, h4⟩, ⟨b5, h5⟩⟩ := h
  exact ⟨⟨b, h1.chg hc (by simp)⟩, ⟨⟨b2, h2.chg hc (by simp)⟩, h3, fun j v p hv hp => (h4 j v p hv hp).chg hc⟩, ⟨b5, h5.chg hc (by simp)⟩⟩
set_option maxRecDepth 8000 in
set_option maxHeartbeats 4000000 in
theorem prog_eq (w : World) (u v : Value) (p : List (List Int)) (h1 : InsR w u p) (h2 : InsR w v p) (h5 : ∀ i ∈ p, i.length = 5) (hn : p.length ≤ 1100000) :
    Calls Try.prog 40 #[u, v] w fun e w' => e = .returned (.bool true) ∧ ∃ q, w' = w.drewN q := by
  obtain ⟨A, c, b, rfl, hA⟩ := h1
  obtain ⟨B, d, b2, rfl, hB⟩ := h2
  obtain ⟨n, hl⟩ : ∃ n, n = p.length := ⟨_, rfl⟩
  rw [← hl] at hA hB hn ⊢
  have HL := hid hl
  have HA := hid hA
  have HB := hid hB
  have H5 := hid h5
  clear hl hA hB h5
  have e1 : ((n : Int) != n) = false := by simp
  go_enter Try.func40, Try.ntmps40
  go_wp2_with fail
  clear e1
  go_loopw [5] (fun i wr => ∃ k q : Nat, k ≤ n ∧ i = .int .i64 k ∧ wr = w.drewN q) (fun i _ => n - (intOf i).toNat)
  case atStart => exact ⟨0, 0, Nat.zero_le _, rfl, rfl⟩
  case round =>
    obtain ⟨k, q, hk, rfl, rfl⟩ := hrel
    by_cases hlt : k < n
    · have hkl : k < p.length := by rw [← HL.out]; exact hlt
      obtain ⟨x0, x1, x2, x3, x4, hx⟩ := five (H5.out _ (List.getElem_mem hkl))
      obtain ⟨ad, hAd, d0, d1, d2, d3, d4⟩ := HA.out.five H5.out (by rw [List.getElem?_eq_getElem hkl, hx])
      obtain ⟨bd, hBd, f0, f1, f2, f3, f4⟩ := HB.out.five H5.out (by rw [List.getElem?_eq_getElem hkl, hx])
      subst hAd hBd
      have e1 : decide ((k : Int) < (n : Int)) = true := decide_eq_true (by omega)
      clear hkl hx
      go_wp2_with fail
      go_quiet (fail)
      go_wp2_with fail
      go_roundw
      case rel => exact ⟨k + 1, _, by omega, by go_num, by first | rfl | exact World.drewN_drewN _ _ _⟩
      case measure => simp [intOf]; omega
    · obtain rfl : k = n := by omega
      have e1 : decide ((k : Int) < (k : Int)) = false := by simp
      go_wp2_with fail
      go_ret
      exact ⟨rfl, q, rfl⟩
theorem le_sum {x : Nat} : ∀ {l : List Nat}, x ∈ l → x ≤ l.sum
  | [], h => by cases h
  | y :: l, h => by
    rw [List.sum_cons]
    rcases List.mem_cons.1 h with rfl | h
    · omega
    · have := le_sum h
      omega
theorem arr4_eq (a b c d : Int) (w : World) : (Op.equalIn 9999 22 (.agg #[.int .i64 a, .int .i64 b, .int .i64 c, .int .i64 d]) (.agg #[.int .i64 a, .int .i64 b, .int .i64 c, .int .i64 d])).run Try.prog w = .ok true w := by
  obtain ⟨i, hi, hs, h1, h2⟩ := parts5 info_i64L
  have := run_equalIn_array (P := Try.prog) (w := w) 9998 (t := 22) (e := 3) (n := 4) (i := i) #[.int .i64 a, .int .i64 b, .int .i64 c, .int .i64 d] #[.int .i64 a, .int .i64 b, .int .i64 c, .int .i64 d] (by rfl) hi
  rw [show 9999 = 9998 + 1 from rfl, this]
  rw [show Try.prog.cellsOf 3 = 1 from by show Try.prog.cellsOf 3 = 1; unfold Program.cellsOf; rw [hi]; exact h1]
  simp [Op.eqItems, go_sem]
theorem uv_eq (l : List Nat) : uv l = (l.map fun (n : Nat) => (n : Int)).map (Value.int .u64) := by unfold uv; rw [List.map_map]; rfl
set_option maxRecDepth 8000 in
set_option maxHeartbeats 8000000 in
theorem script_eq (w : World) (V1 V2 : ScV) (s : Scr) (h1 : ScrR w V1 s) (h2 : ScrR w V2 s) (h12 : s.cf.length = 12) (h5 : ∀ p ∈ s.progs, ∀ i ∈ p, i.length = 5) (hf : s.fits) :
    Calls Try.prog 14 #[V1.val s, V2.val s] w fun e w' => e = .returned (.bool true) ∧ Chg [] w w' := by
  obtain ⟨⟨AI, nI, cI⟩, ⟨AP, nP, cP⟩, ⟨AQ, nQ, cQ⟩, vs⟩ := V1
  obtain ⟨⟨BI, mI, dI⟩, ⟨BP, mP, dP⟩, ⟨BQ, mQ, dQ⟩, us⟩ := V2
  obtain ⟨cf, strong, init, progs, picks⟩ := s
  obtain ⟨c0, c1, c2, c3, c4, c5, c6, c7, c8, c9, c10, c11, hcf⟩ := twelve h12
  simp only at hcf
  subst hcf
  clear h12
  have H1 := hid h1
  have H2 := hid h2
  have HF := hid hf
  have H5 := hid h5
  have hn : (nI = mI ∧ nI ≤ 1100000) ∧ (nP = mP ∧ progs.length = nP ∧ nP ≤ 1100000) ∧ (nQ = mQ ∧ nQ ≤ 1100000) := by
    obtain ⟨b, hb⟩ := h1.i
    obtain ⟨b', hb'⟩ := h2.i
    obtain ⟨c, hc⟩ := h1.q
    obtain ⟨c', hc'⟩ := h2.q
    have e1 := hb.len
    have e2 := hb'.len
    have e3 := hc.len
    have e4 := hc'.len
    have e5 := h1.p.2.1
    have e6 := h2.p.2.1
    have f1 := hf.i
    have f2 := hf.p
    have f3 := hf.q
    simp only [uv, List.length_map] at e1 e2 e3 e4 e5 e6 f1 f2 f3
    omega
  obtain ⟨⟨rfl, nI0⟩, ⟨rfl, hpl, nP0⟩, ⟨rfl, nQ0⟩⟩ := hn
  have HPL := hid hpl
  clear h1 h2 hf h5 hpl
  show Calls Try.prog 14 #[.agg #[.int .i64 c0, .int .i64 c1, .int .i64 c2, .int .i64 c3, .int .i64 c4, .int .i64 c5, .int .i64 c6, .int .i64 c7, .int .i64 c8, .int .i64 c9, .int .i64 c10, .int .i64 c11, .bool strong, .slice AI nI cI, .slice AP nP cP, .slice AQ nQ cQ], .agg #[.int .i64 c0, .int .i64 c1, .int .i64 c2, .int .i64 c3, .int .i64 c4, .int .i64 c5, .int .i64 c6, .int .i64 c7, .int .i64 c8, .int .i64 c9, .int .i64 c10, .int .i64 c11, .bool strong, .slice BI nI dI, .slice BP nP dP, .slice BQ nQ dQ]] w _
  have e1 : ((nP : Int) != nP) = false := by simp
  obtain ⟨gs, hgs⟩ : ∃ gs, gs = w.heap.size := ⟨_, rfl⟩
  have hh : Hold w w Asr.emp := Hold.start w
  have h2 := (hh.newBlk (t := 29) (cs := #[.int .i64 c0, .int .i64 c1, .int .i64 c2, .int .i64 c3, .int .i64 c4, .int .i64 c5, .int .i64 c6, .int .i64 c7, .int .i64 c8, .int .i64 c9, .int .i64 c10, .int .i64 c11, .bool strong, .slice AI nI cI, .slice AP nP cP, .slice AQ nQ cQ])).newBlk (t := 29) (cs := #[.int .i64 c0, .int .i64 c1, .int .i64 c2, .int .i64 c3, .int .i64 c4, .int .i64 c5, .int .i64 c6, .int .i64 c7, .int .i64 c8, .int .i64 c9, .int .i64 c10, .int .i64 c11, .bool strong, .slice BI nI dI, .slice BP nP dP, .slice BQ nQ dQ])
  simp only [World.size_alloc] at h2
  have H3 := hid h2
  have HC := hid (((Chg.refl [] w).alloc (.cells #[.int .i64 c0, .int .i64 c1, .int .i64 c2, .int .i64 c3, .int .i64 c4, .int .i64 c5, .int .i64 c6, .int .i64 c7, .int .i64 c8, .int .i64 c9, .int .i64 c10, .int .i64 c11, .bool strong, .slice AI nI cI, .slice AP nP cP, .slice AQ nQ cQ] 29)).alloc (.cells #[.int .i64 c0, .int .i64 c1, .int .i64 c2, .int .i64 c3, .int .i64 c4, .int .i64 c5, .int .i64 c6, .int .i64 c7, .int .i64 c8, .int .i64 c9, .int .i64 c10, .int .i64 c11, .bool strong, .slice BI nI dI, .slice BP nP dP, .slice BQ nQ dQ] 29))
  clear hh h2
  go_enter Try.func14, Try.ntmps14
  go_upto_region 1 with fail
  have h3 := H3.out
  have hc := HC.out
  generalize hW : World.alloc _ _ = W at h3 hc ⊢
  clear hW H3 HC
  rw [← hgs] at h3 ⊢
  have r1 := H1.out.chg hc
  have r2 := H2.out.chg hc
  have HC := hid hc
  obtain ⟨⟨x0, x1, x2, x3, x4, x5, x6, x7, x8, x9, x10, x11, x12, x13, x14, x15⟩, _⟩ := blk_16 h3.drop.blk
  obtain ⟨⟨y0, y1, y2, y3, y4, y5, y6, y7, y8, y9, y10, y11, y12, y13, y14, y15⟩, _⟩ := blk_16 h3.blk
  have H3 := hid h3
  clear hc h3 hgs
  have q4 := arr4_eq c3 c4 c5 c6 W
  have HR1 := hid r1
  have HR2 := hid r2
  clear r1 r2
  go_wp2_with fail
  obtain ⟨b1, ha⟩ := HR1.out.i
  obtain ⟨b2, hb⟩ := HR2.out.i
  simp only [uv_eq] at ha hb
  refine (words_any W AI BI nI nI cI dI b1 b2 _ _ ha hb (by omega)).mono ?_
  rintro e w1 ⟨rfl, p1, rfl⟩
  clear ha hb
  have ed : ∀ l : List Int, decide (l = l) = true := fun l => by simp
  rw [ed]
  clear ed
  go_wp2_with fail
  obtain ⟨b3, ha⟩ := HR1.out.q
  obtain ⟨b4, hb⟩ := HR2.out.q
  replace ha : Reads W b3 AQ nQ (picks.map (Value.int .i64)) := ha
  replace hb : Reads W b4 BQ nQ (picks.map (Value.int .i64)) := hb
  refine (ints_any (W.drewN p1) AQ BQ nQ nQ cQ dQ b3 b4 _ _ (ha.drewN p1) (hb.drewN p1) (by omega)).mono ?_
  rintro e w1 ⟨rfl, p2, rfl⟩
  clear ha hb
  rw [show decide (picks = picks) = true by simp]
  clear q4
  have c14 : (W.cell? ⟨gs, 14, none⟩ = some (.slice AP nP cP)) := x14
  have d14 : (W.cell? ⟨gs + 1, 14, none⟩ = some (.slice BP nP dP)) := y14
  go_wp2_with fail
  go_loopw [5] (fun i wr => ∃ k q : Nat, k ≤ nP ∧ i = .int .i64 k ∧ wr = W.drewN q) (fun i _ => nP - (intOf i).toNat)
  case atStart => exact ⟨0, _, Nat.zero_le _, rfl, rfl⟩
  case round =>
    obtain ⟨k, q, hk, rfl, rfl⟩ := hrel
    by_cases hlt : k < nP
    · have e2 : decide ((k : Int) < (nP : Int)) = true := decide_eq_true (by omega)
      go_wp2_with fail
      obtain ⟨⟨b5, hA⟩, _, h4⟩ := HR1.out.p
      obtain ⟨⟨b6, hB⟩, _, h4'⟩ := HR2.out.p
      obtain ⟨ad, u1, rfl, _, _, hv1, hc1⟩ := hA.at_ k hlt
      obtain ⟨bd, u2, rfl, _, _, hv2, hc2⟩ := hB.at_ k hlt
      have hkp : k < progs.length := by rw [HPL.out]; exact hlt
      obtain ⟨p, hp⟩ : ∃ p, p = progs[k] := ⟨_, rfl⟩
      have hpk : progs[k]? = some p := by rw [hp]; exact List.getElem?_eq_getElem hkp
      have hpm : p ∈ progs := by rw [hp]; exact List.getElem_mem hkp
      have j1 := h4 k u1 p hv1 hpk
      have j2 := h4' k u2 p hv2 hpk
      have HJ1 := hid j1
      have HJ2 := hid j2
      have HP5 := hid (H5.out p hpm)
      have HPF : Hid (p.length ≤ 1100000) := hid (Nat.le_trans (le_sum (List.mem_map_of_mem hpm)) HF.out.m)
      have hs1 : ∃ A1 c1, u1 = .slice A1 p.length c1 := by obtain ⟨A1, c1, b, hv, _⟩ := j1; exact ⟨A1, c1, hv⟩
      have hs2 : ∃ A1 c1, u2 = .slice A1 p.length c1 := by obtain ⟨A1, c1, b, hv, _⟩ := j2; exact ⟨A1, c1, hv⟩
      obtain ⟨A1, e3, rfl⟩ := hs1
      obtain ⟨A2, e4, rfl⟩ := hs2
      clear hA hB h4 h4' hv1 hv2 hkp hp hpk hpm j1 j2
      generalize p.length = pn at hc1 hc2 HJ1 HJ2 ⊢
      have k0 : (0 : Int) ≤ (k : Int) := by omega
      have k1 : (k : Int) < (nP : Int) := by omega
      have hPE : ∀ m, Calls Try.prog 40 #[.slice A1 pn e3, .slice A2 pn e4] (W.drewN (q + m)) fun e w' => e = .returned (.bool true) ∧ ∃ j, w' = W.drewN (q + j) := fun m => (prog_eq _ _ _ p (HJ1.out.chg ((Chg.refl _ _).drewN _)) (HJ2.out.chg ((Chg.refl _ _).drewN _)) HP5.out HPF.out).mono fun _ _ ⟨he, j, hj⟩ => ⟨he, m + j, by rw [hj, World.drewN_drewN, Nat.add_assoc]⟩
      go_quiet ((go_at_call 40; exact hPE _))
      go_wp2_with fail
      go_roundw
      case rel => exact ⟨k + 1, _, by omega, by go_num, by first | rfl | exact World.drewN_drewN _ _ _⟩
      case measure => simp [intOf]; omega
    · obtain rfl : k = nP := by omega
      have e2 : decide ((k : Int) < (k : Int)) = false := by simp
      go_wp2_with fail
      go_ret
      exact ⟨rfl, HC.out.drewN q⟩
end Go.Proofs.Ytipafegiobnkpaa
