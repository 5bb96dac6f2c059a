/- CodeSpoiled. -/
import Derived.Test.YtipafegiobnkpaaLr
import Derived.Test.YtipafegiobnkpaaLw
namespace Go.Proofs.Ytipafegiobnkpaa
open Go.RowKit
set_option linter.unusedVariables false

section
variable {w0 w : World} {R : Asr} {e : TypeId} {A : Option Addr} {n c : Nat} {xs : List Value}
theorem Hold.setRowS (h : Hold w0 w (Go.Proofs.Ytipafegiobnkpaa.rowS e 1 (.slice A n c) n xs * R)) {k : Nat} (hk : k < n) :
    ∃ g, A = some ⟨g, 0, none⟩ ∧ w.cell? ⟨g, k, none⟩ = xs[k]? ∧ w.frozen? ⟨g, k, none⟩ = false ∧ ∀ u, Hold w0 (w.setCell ⟨g, k, none⟩ u) (Go.Proofs.Ytipafegiobnkpaa.rowS e 1 (.slice A n c) n (xs.set k u) * R) := by
  obtain ⟨fp, ⟨hown | ⟨g, cs, hv, hg, hx, hs1, hl⟩, rfl⟩, hO⟩ := h.open_
  · obtain ⟨g, hA, hgf, hc, hf, hst⟩ := row_at hown hk
    exact ⟨g, hA, hc, hf, fun u => hO _ _ _ ((Chg.refl _ _).setCell (.inl hgf) u) ⟨.inl (hst u), rfl⟩ (fun b hb => .inl hb)⟩
  · injection hv with hA hn hc
    subst hA
    subst hc
    have hlen : k < cs.size := by rw [← Array.length_toList, hx, hl]; exact hk
    refine ⟨g, rfl, ?_, ?_, fun u => ?_⟩
    · rw [cell_of_row w g k cs e _ hg, ← hx]; simp
    · simp [World.frozen?, hg]; omega
    · refine hO _ _ [g] ((Chg.refl _ _).setCell (.inl (by rw [fpV_some]; simp)) u) ⟨.inr ⟨g, cs.setIfInBounds k u, rfl, ?_, ?_, rfl, ?_⟩, by rw [fpV_some]⟩ (fun b hb => .inl (by rw [fpV_some]; exact hb))
      · simp [World.setCell, Array.getElem?_modify, hg]
      · rw [Array.toList_setIfInBounds, hx]
      · rw [List.length_set, hl]
/-- A slice of no bytes in a row of its own. -/
theorem Hold.emptyRow (h : Hold w0 w R) (e : TypeId) : Hold w0 (w.alloc (.cells #[] e)) (Go.Proofs.Ytipafegiobnkpaa.rowS e 1 (.slice (some ⟨w.heap.size, 0, none⟩) 0 0) 0 [] * R) :=
  h.new ((Chg.refl _ _).alloc _) ⟨.inl ⟨rfl, .inr ⟨_, 0, #[], rfl, Nat.zero_le _, heap_alloc_new w _, Nat.le_refl _, Nat.zero_le _, rfl, rfl⟩⟩, rfl⟩ (by rw [fpV_some]; simp)
end
theorem bv_set (l : List Nat) (k y : Nat) : (bv l).set k (.int .u8 (y : Int)) = bv (l.set k y) := by unfold bv; rw [List.map_set]
theorem place_ex (w : World) (a N : Int) (h0 : 0 < N) (h1 : N ≤ 9223372036854775807) :
    Calls Try.prog 16 #[.int .i64 a, .int .i64 N] w fun e w' => ∃ k : Nat, (k : Int) < N ∧ e = .returned (.int .i64 (k : Int)) ∧ w = w' := by
  refine (place_any w a N h0 h1).mono ?_
  rintro e w' ⟨rfl, rfl⟩
  have p0 := place_nonneg a N h0
  have p1 := place_lt a N h0
  exact ⟨(place a N).toNat, by omega, by rw [Int.toNat_of_nonneg p0], rfl⟩
theorem u8_wrap (a : Int) : ∃ y : Nat, IntKind.u8.wrap a = (y : Int) ∧ y < 256 := by
  have h1 : 0 ≤ IntKind.u8.wrap a ∧ IntKind.u8.wrap a < 256 := by
    simp [IntKind.wrap, IntKind.signed, IntKind.bits]; omega
  exact ⟨(IntKind.u8.wrap a).toNat, by omega, by omega⟩
set_option maxRecDepth 8000 in
set_option maxHeartbeats 16000000 in
theorem codeSpoiled_any (w : World) (V : ScV) (s : Scr) (at_ by_ cut : Int) (wat : (Lit.int .i64 at_).wf = true) (wby : (Lit.int .i64 by_).wf = true) (wcut : (Lit.int .i64 cut).wf = true) (hr : ScrR w V s) (ok : s.ok) (hm : (s.progs.map List.length).sum ≤ 1048576) (nI : V.i.n = s.init.length) (nP : V.p.n = s.progs.length) (nQ : V.q.n = s.picks.length)
    (mI : s.init.length ≤ maxLen) (mP : s.progs.length ≤ maxLen) (mQ : s.picks.length ≤ maxLen) :
    Calls Try.prog 6 #[V.val s, .int .i64 at_, .int .i64 by_, .int .i64 cut] w fun e w' => e = .returned (.bool true) ∧ Below w.heap.size w w' := by
  obtain ⟨cs, hV, hsz, c13, c14, c15⟩ := V.arr s ok.cf.1
  rw [hV]
  have h1 := (Hold.start w).newBlk (t := 29) (cs := cs)
  obtain ⟨b1, hb1⟩ : ∃ b, b = decide ((20 : Int) < (V.i.n : Int)) := ⟨_, rfl⟩
  obtain ⟨b2, hb2⟩ : ∃ b, b = decide ((5 : Int) < (V.p.n : Int)) := ⟨_, rfl⟩
  obtain ⟨b3, hb3⟩ : ∃ b, b = decide ((20 : Int) < (V.q.n : Int)) := ⟨_, rfl⟩
  have k13 := h1.blk.some_ c13
  have k14 := h1.blk.some_ c14
  have k15 := h1.blk.some_ c15
  have HA := hid (awake_any w _ _ h1)
  have HR := hid hr
  have HV := hid hV
  have H1 := hid h1
  clear h1 hV hr
  obtain ⟨⟨AI, lI, cI⟩, ⟨AP, lP, cP⟩, ⟨AQ, lQ, cQ⟩, vs⟩ := V
  simp only [SlV.v] at nI nP nQ hb1 hb2 hb3 k13 k14 k15
  subst nI nP nQ
  have HC := hid (And.intro c13 (And.intro c14 c15))
  clear c13 c14 c15
  by_cases hbig : b1 = true ∨ b2 = true ∨ b3 = true
  · have hd : (b1 = true) ∨ (b1 = false ∧ b2 = true) ∨ (b1 = false ∧ b2 = false ∧ b3 = true) := by
      revert hbig; cases b1 <;> cases b2 <;> cases b3 <;> decide
    clear hbig
    rcases hd with rfl | ⟨rfl, rfl⟩ | ⟨rfl, rfl, rfl⟩
    all_goals replace hb1 := hb1.symm
    all_goals first | (replace hb2 := hb2.symm) | skip
    all_goals first | (replace hb3 := hb3.symm) | skip
    all_goals go_enter Try.func6, Try.ntmps6
    all_goals go_wp2_with fail
    all_goals refine HA.out.mono ?_
    all_goals rintro e w1 ⟨rfl, h2⟩
    all_goals go_wp2_with fail
    all_goals go_ret
    all_goals exact ⟨rfl, h2.below⟩
  · obtain rfl : b1 = false := by cases b1 <;> simp_all
    obtain rfl : b2 = false := by cases b2 <;> simp_all
    obtain rfl : b3 = false := by cases b3 <;> simp_all
    replace hb1 := hb1.symm
    replace hb2 := hb2.symm
    replace hb3 := hb3.symm
    have lI : s.init.length ≤ 20 := by have := of_decide_eq_false hb1; omega
    have lP : s.progs.length ≤ 5 := by have := of_decide_eq_false hb2; omega
    have lQ : s.picks.length ≤ 20 := by have := of_decide_eq_false hb3; omega
    have hf : s.fits := fits_of (a := 20) (b := 5) (c := 20) lI lP lQ (hm := hm)
    clear HA hbig
    go_enter Try.func6, Try.ntmps6
    go_upto_region 3 with fail
    have h1 := H1.out
    generalize hW : w.alloc (Obj.cells cs 29) = W at h1 ⊢
    clear hW H1 k13 k14 k15 hb1 hb2 hb3
    generalize hg : w.heap.size = g at h1 ⊢
    clear hg
    have HE := hid (rfenc_any w W _ _ s h1 (fun w' q hw => HR.out.still hw) ok hf)
    by_cases hbb : 262144 < s.bytes.length
    · rw [enc5_big hbb, HV.out] at HE
      go_wp2_with (refine wpList_load rfl 29 _ rfl g _ _ rfl Try.isAgg29 _ Try.sizeOf29 h1.blk hsz ?_)
      refine HE.out.mono ?_
      rintro e w3 ⟨v1, rfl, h4⟩
      have HA := hid (awake_any w w3 _ h4)
      clear HE h1 h4
      go_wp2_with fail
      refine HA.out.mono ?_
      rintro e w8 ⟨rfl, h10⟩
      clear HA
      go_wp2_with fail
      go_ret
      exact ⟨rfl, h10.below⟩
    rw [enc5_good hbb, HV.out] at HE
    go_wp2_with (refine wpList_load rfl 29 _ rfl g _ _ rfl Try.isAgg29 _ Try.sizeOf29 h1.blk hsz ?_)
    refine HE.out.mono ?_
    rintro e w3 ⟨v1, rfl, h4⟩
    clear HE h1
    have hlb := enc_byte s
    have hbn : s.bytes.length ≤ 262144 := by omega
    have hb0 : 0 < s.bytes.length := by unfold Scr.bytes; rw [List.length_append]; show 0 < 4 + _; omega
    obtain ⟨A1, c1, rfl, hc1, f1⟩ := h4.bufForm
    clear f1 hbb
    generalize s.bytes = L at *
    have h5 := h4.emptyRow 5
    obtain ⟨b, hr5⟩ := h5.drop.rowSReads
    rw [Nat.mul_one] at hr5
    obtain ⟨i8, hi8, hz0, hz1, hz2⟩ := parts5 info_u8
    go_upto_region 7 with (at_builtin; go_loud (refine wpList_appA rfl _ _ 31 rfl 5 i8 (.int .u8 0) 1 Try.underlying31 hi8 hz0 hz1 hz2 rfl (.slice (some ⟨w3.heap.size, 0, none⟩) 0 0) 0 [] (bv L) rfl h5 A1 L.length c1 rfl b hr5 (by simp [bv, Value.oneCell']) (by omega) (by decide) ?_); intro A3 c3 y3 h8)
    clear h5 hr5 h4
    simp only [Nat.zero_add, List.nil_append] at h8
    try simp only [Nat.zero_add]
    obtain ⟨n, hn⟩ : ∃ n, n = L.length := ⟨_, rfl⟩
    rw [← hn] at h8 hbn hb0 ⊢
    have HN := hid hn
    clear hn hc1
    have hc3 := h8.rowSCap
    have p0 := place_nonneg at_ (n : Int) (by omega)
    have p1 := place_lt at_ (n : Int) (by omega)
    obtain ⟨p, hp⟩ : ∃ p : Nat, place at_ (n : Int) = (p : Int) := ⟨(place at_ (n : Int)).toNat, by omega⟩
    have hP := place_any y3 at_ (n : Int) (by omega) (by omega)
    rw [hp] at hP p0 p1
    have HP := hid hP
    have hpn : p < n := by omega
    obtain ⟨y, hy, hy2⟩ := u8_wrap by_
    obtain ⟨gc, rfl, hcell, hfz, hset⟩ := h8.setRowS hpn
    have h9 := hset (.int .u8 (y : Int))
    rw [bv_set] at h9
    have hpl : p < L.length := by rw [← HN.out]; exact hpn
    obtain ⟨u, hu⟩ : ∃ u, (bv L)[p]? = some u := ⟨_, List.getElem?_eq_getElem (by unfold bv; rw [List.length_map]; exact hpl)⟩
    rw [hu] at hcell
    have H9 := hid h9
    clear h9 h8 hset hu hP hp
    go_wp2_with fail
    refine HP.out.mono ?_
    rintro e w' ⟨rfl, rfl⟩
    clear HP
    go_upto_region 8 with fail
    have h9 := H9.out
    generalize hW : World.setCell _ _ _ = W4 at h9 ⊢
    clear hW H9 hcell hfz
    obtain ⟨C, hC⟩ : ∃ C, C = L.set p y := ⟨_, rfl⟩
    rw [← hC] at h9
    have hCl : C.length = n := by rw [hC, List.length_set, HN.out]
    have hCb : ∀ x ∈ C, x < 256 := by
      rw [hC]
      intro x hx
      rcases List.mem_or_eq_of_mem_set hx with h | h
      · exact hlb x h
      · rw [h]; exact hy2
    have HCB := hid (And.intro hCl hCb)
    clear hC hlb p0 p1 hpn hpl hCl hCb
    have HQ := hid (place_ex W4 cut 4 (by omega) (by omega))
    go_wp2_with fail
    refine HQ.out.mono ?_
    rintro e w' ⟨q, hq4, rfl, rfl⟩
    clear HQ
    have hq3 : q = 0 ∨ q = 1 ∨ 2 ≤ q := by omega
    rcases hq3 with rfl | rfl | hq
    case' inl =>
      have HQ2 := hid (fun a => place_ex W4 a ((n : Int) + 1) (by omega) (by omega))
      go_wp2_with fail
      refine (HQ2.out _).mono ?_
      rintro e w' ⟨k, hk, rfl, rfl⟩
      clear HQ2
      have hkn : k ≤ n := by omega
      have hsl : ∀ w, (Instr.slice 31 (.slice (some ⟨gc, 0, none⟩) n c3) none (some (.int .i64 (k : Int))) none).run Try.prog w = .ok (.slice (some ⟨gc, 0, none⟩) k c3) w := fun w => slice_headP 31 (by kernel_rfl) sz_u8 w _ n c3 k (by omega)
      have hS5 : Still w (rowS 5 1 (.slice (some ⟨gc, 0, none⟩) n c3) n (bv C) * (bufA (.slice A1 n c1) L * (blkA 29 g cs * Asr.emp))) ⟨some ⟨gc, 0, none⟩, k, c3⟩ (C.take k) := fun w' q hw => by
        obtain ⟨b, hr⟩ := hw.drop.rowSReads
        rw [Nat.mul_one] at hr
        have := hr.take hkn
        unfold bv at this ⊢
        rw [← List.map_take] at this
        exact ⟨b, this⟩
      have HD := hid (dec_got w W4 _ (some ⟨gc, 0, none⟩) k c3 (C.take k) h9 hS5 (fun x hx => HCB.out.2 x (List.mem_of_mem_take hx)) (by rw [List.length_take, HCB.out.1]; omega) (by omega) (by omega))
      have hR : ∀ w' q, Hold w w' (q * (rowS 5 1 (.slice (some ⟨gc, 0, none⟩) n c3) n (bv C) * (bufA (.slice A1 n c1) L * (blkA 29 g cs * Asr.emp)))) → Calls Try.prog 15 #[.slice (some ⟨gc, 0, none⟩) k c3] w' (GotPost w (q * (rowS 5 1 (.slice (some ⟨gc, 0, none⟩) n c3) n (bv C) * (bufA (.slice A1 n c1) L * (blkA 29 g cs * Asr.emp)))) (decode5 (C.take k))) := fun w' q hw =>
        rdec_got w w' _ (some ⟨gc, 0, none⟩) k c3 (C.take k) hw hS5.under (fun x hx => HCB.out.2 x (List.mem_of_mem_take hx)) (by rw [List.length_take, HCB.out.1]; omega) (by omega) (by omega)
      have hok := dec_ok (C.take k) (fun x hx => HCB.out.2 x (List.mem_of_mem_take hx))
      have HR2 := hid hR
      clear hR hS5
      go_upto_region 13 with fail
      clear hsl
      generalize C.take k = B5 at *
      generalize rowS 5 1 (.slice (some ⟨gc, 0, none⟩) n c3) n (bv C) * (bufA (.slice A1 n c1) L * (blkA 29 g cs * Asr.emp)) = R5 at *
    case' inr.inl =>
      go_upto_region 13 with (at_builtin; refine wpList_app rfl _ _ 31 rfl 5 i8 (.int .u8 0) 1 1 Try.underlying31 hi8 hz0 hz1 hz2 rfl (by decide) (.slice (some ⟨gc, 0, none⟩) n c3) n (bv C) [.int .u8 (y : Int)] _ rfl h9 _ rfl rfl rfl rfl (by omega) (by decide) ?_; intro A5 c5 W5 h10)
      have hc5 := h10.rowSCap
      have hlC : (C ++ [y]).length = n + 1 := by rw [List.length_append, HCB.out.1]; rfl
      have hbC : ∀ x ∈ C ++ [y], x < 256 := fun x hx => (List.mem_append.1 hx).elim (HCB.out.2 x) (fun h => by rw [List.mem_singleton.1 h]; exact hy2)
      have h10 : Hold w W5 (bufA (.slice A5 (n + 1) c5) (C ++ [y]) * (bufA (.slice A1 n c1) L * (blkA 29 g cs * Asr.emp))) := by
        unfold bufA
        rw [hlC, show bv (C ++ [y]) = bv C ++ [.int .u8 (y : Int)] by unfold bv; rw [List.map_append]; rfl]
        exact h10
      have HD := hid (dec_got w W5 _ A5 (n + 1) c5 (C ++ [y]) h10 (Hold.bufStill hlC) hbC hlC hc5 (by omega))
      have hR : ∀ w' q, Hold w w' (q * (bufA (.slice A5 (n + 1) c5) (C ++ [y]) * (bufA (.slice A1 n c1) L * (blkA 29 g cs * Asr.emp)))) → Calls Try.prog 15 #[.slice A5 (n + 1) c5] w' (GotPost w (q * (bufA (.slice A5 (n + 1) c5) (C ++ [y]) * (bufA (.slice A1 n c1) L * (blkA 29 g cs * Asr.emp)))) (decode5 (C ++ [y]))) := fun w' q hw =>
        rdec_got w w' _ A5 (n + 1) c5 (C ++ [y]) hw (Hold.bufStill hlC).under hbC hlC hc5 (by omega)
      have hok := dec_ok (C ++ [y]) hbC
      have HR2 := hid hR
      clear hR h9 hlC hbC
      generalize C ++ [y] = B5 at *
      generalize bufA (.slice A5 (n + 1) c5) B5 * (bufA (.slice A1 n c1) L * (blkA 29 g cs * Asr.emp)) = R5 at *
    case' inr.inr =>
      have e1 : ((q : Int) == 0) = false := by simp; omega
      have e2 : ((q : Int) == 1) = false := by simp; omega
      have hS5 : Still w (rowS 5 1 (.slice (some ⟨gc, 0, none⟩) n c3) n (bv C) * (bufA (.slice A1 n c1) L * (blkA 29 g cs * Asr.emp))) ⟨some ⟨gc, 0, none⟩, n, c3⟩ C := fun w' q hw => by
        have hr := hw.drop.rowSReads
        rwa [Nat.mul_one] at hr
      have HD := hid (dec_got w W4 _ (some ⟨gc, 0, none⟩) n c3 C h9 hS5 HCB.out.2 HCB.out.1 hc3 (by omega))
      have hR : ∀ w' q, Hold w w' (q * (rowS 5 1 (.slice (some ⟨gc, 0, none⟩) n c3) n (bv C) * (bufA (.slice A1 n c1) L * (blkA 29 g cs * Asr.emp)))) → Calls Try.prog 15 #[.slice (some ⟨gc, 0, none⟩) n c3] w' (GotPost w (q * (rowS 5 1 (.slice (some ⟨gc, 0, none⟩) n c3) n (bv C) * (bufA (.slice A1 n c1) L * (blkA 29 g cs * Asr.emp)))) (decode5 C)) := fun w' q hw =>
        rdec_got w w' _ (some ⟨gc, 0, none⟩) n c3 C hw hS5.under HCB.out.2 HCB.out.1 hc3 (by omega)
      have hok := dec_ok C HCB.out.2
      have HR2 := hid hR
      clear hR hS5
      go_upto_region 13 with fail
      generalize rowS 5 1 (.slice (some ⟨gc, 0, none⟩) n c3) n (bv C) * (bufA (.slice A1 n c1) L * (blkA 29 g cs * Asr.emp)) = R5 at *
    all_goals go_wp2_with fail
    all_goals refine HD.out.mono ?_
    all_goals rintro e w5 ⟨V1, cs1, F1, rfl, hV1, hz1', ho1, k1, hr1⟩
    all_goals clear HD
    all_goals have k2 := k1.newBlk (t := 29) (cs := z16)
    all_goals unfold z16 at k2
    all_goals have K2 := hid k2
    all_goals clear k1 k2
    all_goals go_upto_region 14 with (refine wpList_store rfl 29 _ _ rfl w5.heap.size _ _ cs1 rfl rfl _ Try.sizeOf29 K2.out hz1' hz1' ho1 ?_; intro y5 k3)
    all_goals clear K2
    all_goals generalize w5.heap.size = g5 at k3 ⊢
    all_goals have HD := hid (HR2.out _ _ (k3.imp (Imp.assoc' _ _ _)))
    all_goals clear HR2
    all_goals go_wp2_with fail
    all_goals refine HD.out.mono ?_
    all_goals rintro e w6 ⟨V2, cs2, F2, rfl, hV2, hz2', ho2, k4, hr2⟩
    all_goals clear HD k3
    all_goals have k5 := k4.newBlk (t := 29) (cs := z16)
    all_goals unfold z16 at k5
    all_goals have K5 := hid k5
    all_goals clear k4 k5
    all_goals go_upto_region 15 with (refine wpList_store rfl 29 _ _ rfl w6.heap.size _ _ cs2 rfl rfl _ Try.sizeOf29 K5.out hz2' hz2' ho2 ?_; intro y6 k6)
    all_goals clear K5
    all_goals generalize w6.heap.size = g6 at k6 ⊢
    all_goals have kd := k6.drop.drop.part
    all_goals have hE := script_eq y6 V1 V2 _ (hr1 _ _ kd) (hr2 _ _ k6) hok.1.cf.1 hok.1.five hok.2.1
    all_goals rw [hV1, hV2] at hE
    all_goals have HE := hid hE
    all_goals clear hE
    all_goals generalize (decode5 _).2 = r1 at *
    all_goals go_wp2_with (first | (refine wpList_load rfl 29 _ rfl g5 _ _ rfl Try.isAgg29 _ Try.sizeOf29 kd.blk hz1' ?_) | (refine wpList_load rfl 29 _ rfl g6 _ _ rfl Try.isAgg29 _ Try.sizeOf29 k6.blk hz2' ?_))
    all_goals refine HE.out.mono ?_
    all_goals rintro e w7 ⟨rfl, hc7⟩
    all_goals have HA := hid (awake_any w w7 _ (k6.chg0 hc7))
    all_goals clear HE k6 kd hc7
    all_goals go_wp2_with fail
    all_goals refine HA.out.mono ?_
    all_goals rintro e w9 ⟨rfl, h16⟩
    all_goals go_wp2_with fail
    all_goals go_ret
    all_goals exact ⟨rfl, h16.below⟩
theorem codeSpoiled_walk (x0 x1 x2 x3 x4 x5 x6 x7 x8 x9 x10 x11 : Int) (x12 : Bool) (v13 v14 v15 : Value) (at_ by_ cut : Int) (w : World) (w0 : (Lit.int .i64 x0).wf = true) (w1 : (Lit.int .i64 x1).wf = true) (w2 : (Lit.int .i64 x2).wf = true) (w3 : (Lit.int .i64 x3).wf = true) (w4 : (Lit.int .i64 x4).wf = true) (w5 : (Lit.int .i64 x5).wf = true) (w6 : (Lit.int .i64 x6).wf = true) (w7 : (Lit.int .i64 x7).wf = true) (w8 : (Lit.int .i64 x8).wf = true) (w9 : (Lit.int .i64 x9).wf = true) (w10 : (Lit.int .i64 x10).wf = true) (w11 : (Lit.int .i64 x11).wf = true)
    (k13 : KFits w 5 (.slice [.int .u64]) v13) (k14 : KFits w 5 (.slice [.slice [.int .i64, .int .i64, .int .i64, .int .i64, .int .i64]]) v14) (k15 : KFits w 5 (.slice [.int .i64]) v15) (hL : LensLe w v14 1048576) (wat : (Lit.int .i64 at_).wf = true) (wby : (Lit.int .i64 by_).wf = true) (wcut : (Lit.int .i64 cut).wf = true) :
    Calls Try.prog 6 #[.agg #[.int .i64 x0, .int .i64 x1, .int .i64 x2, .int .i64 x3, .int .i64 x4, .int .i64 x5, .int .i64 x6, .int .i64 x7, .int .i64 x8, .int .i64 x9, .int .i64 x10, .int .i64 x11, .bool x12, v13, v14, v15], .int .i64 at_, .int .i64 by_, .int .i64 cut] w fun e w' => e = .returned (.bool true) ∧ Below w.heap.size w w' := by
  obtain ⟨V, s, hv, hr, ok, hm, n1, n2, n3, m1, m2, m3⟩ := open_script w x0 x1 x2 x3 x4 x5 x6 x7 x8 x9 x10 x11 x12 v13 v14 v15 w0 w1 w2 w3 w4 w5 w6 w7 w8 w9 w10 w11 k13 k14 k15 hL
  rw [hv]
  exact codeSpoiled_any w V s at_ by_ cut wat wby wcut hr ok hm n1 n2 n3 m1 m2 m3
end Go.Proofs.Ytipafegiobnkpaa
