/- CodeRound. -/
import Derived.Test.YtipafegiobnkpaaLe
namespace Go.Proofs.Ytipafegiobnkpaa
open Go.RowKit
set_option linter.unusedVariables false

theorem round_progs {s : Scr} (ok : s.ok) (h1 : s.init.length ≤ 40) (h2 : s.picks.length ≤ 60) (h : 262144 < s.bytes.length) : 0 < s.progs.length := by
  rcases Nat.eq_zero_or_pos s.progs.length with h0 | h0
  · exfalso
    have e0 : s.progs = [] := List.length_eq_zero_iff.1 h0
    have k1 := encC_len (b := s.strong) ok.cf
    have k2 := encU_flat_len s.init ok.init
    have k3 := encS_flat_len s.picks ok.picks
    have k4 := encU_len10 ok.len.1
    have k5 := encU_len10 ok.len.2.2
    have k6 : (encU 0).length = 1 := by rw [encU_lt (by decide)]; rfl
    have k7 : mark5.length = 4 := rfl
    unfold Scr.bytes Scr.body encL at h
    rw [e0] at h
    simp only [List.length_append, List.length_nil, List.flatMap_nil] at h
    omega
  · exact h0
theorem enc5_big {s : Scr} (h : 262144 < s.bytes.length) : encode5 s = ([], 3) := by unfold encode5; rw [if_pos h]
theorem enc5_good {s : Scr} (h : ¬ 262144 < s.bytes.length) : encode5 s = (s.bytes, 0) := by unfold encode5; rw [if_neg h]
set_option maxRecDepth 8000 in
set_option maxHeartbeats 16000000 in
theorem codeRound_any (w : World) (V : ScV) (s : Scr) (hr : ScrR w V s) (ok : s.ok) (hm : (s.progs.map List.length).sum ≤ 1048576) (nI : V.i.n = s.init.length) (nP : V.p.n = s.progs.length) (nQ : V.q.n = s.picks.length)
    (mI : s.init.length ≤ maxLen) (mP : s.progs.length ≤ maxLen) (mQ : s.picks.length ≤ maxLen) :
    Calls Try.prog 4 #[V.val s] w fun e w' => e = .returned (.bool true) ∧ Below w.heap.size w w' := by
  obtain ⟨cs, hV, hsz, c13, c14, c15⟩ := V.arr s ok.cf.1
  rw [hV]
  have h1 := (Hold.start w).newBlk (t := 29) (cs := cs)
  obtain ⟨b1, hb1⟩ : ∃ b, b = decide ((40 : Int) < (V.i.n : Int)) := ⟨_, rfl⟩
  obtain ⟨b2, hb2⟩ : ∃ b, b = decide ((10 : Int) < (V.p.n : Int)) := ⟨_, rfl⟩
  obtain ⟨b3, hb3⟩ : ∃ b, b = decide ((60 : Int) < (V.q.n : Int)) := ⟨_, rfl⟩
  have k13 := h1.blk.some_ c13
  have k14 := h1.blk.some_ c14
  have k15 := h1.blk.some_ c15
  have HA := hid (awake_any w _ _ h1)
  have HR := hid hr
  have HV := hid hV
  have H1 := hid h1
  clear h1 hV hr
  obtain ⟨⟨AI, lI, cI⟩, ⟨AP, lP, cP⟩, ⟨AQ, lQ, cQ⟩, vs⟩ := V
  simp only [SlV.v] at nI nP nQ hb1 hb2 hb3 k13 k14 k15
  subst nI nP nQ
  have HC := hid (And.intro c13 (And.intro c14 c15))
  clear c13 c14 c15
  by_cases hbig : b1 = true ∨ b2 = true ∨ b3 = true
  · have hd : (b1 = true) ∨ (b1 = false ∧ b2 = true) ∨ (b1 = false ∧ b2 = false ∧ b3 = true) := by
      revert hbig; cases b1 <;> cases b2 <;> cases b3 <;> decide
    clear hbig
    rcases hd with rfl | ⟨rfl, rfl⟩ | ⟨rfl, rfl, rfl⟩
    all_goals replace hb1 := hb1.symm
    all_goals first | (replace hb2 := hb2.symm) | skip
    all_goals first | (replace hb3 := hb3.symm) | skip
    all_goals go_enter Try.func4, Try.ntmps4
    all_goals go_wp2_with fail
    all_goals refine HA.out.mono ?_
    all_goals rintro e w1 ⟨rfl, h2⟩
    all_goals go_wp2_with fail
    all_goals go_ret
    all_goals exact ⟨rfl, h2.below⟩
  · obtain rfl : b1 = false := by cases b1 <;> simp_all
    obtain rfl : b2 = false := by cases b2 <;> simp_all
    obtain rfl : b3 = false := by cases b3 <;> simp_all
    replace hb1 := hb1.symm
    replace hb2 := hb2.symm
    replace hb3 := hb3.symm
    have lI : s.init.length ≤ 40 := by have := of_decide_eq_false hb1; omega
    have lP : s.progs.length ≤ 10 := by have := of_decide_eq_false hb2; omega
    have lQ : s.picks.length ≤ 60 := by have := of_decide_eq_false hb3; omega
    have hf : s.fits := fits_of (a := 40) (b := 10) (c := 60) lI lP lQ (hm := hm)
    clear HA hbig
    go_enter Try.func4, Try.ntmps4
    go_upto_region 3 with fail
    have h1 := H1.out
    generalize hW : w.alloc (Obj.cells cs 29) = W at h1 ⊢
    clear hW H1 k13 k14 k15 hb1 hb2 hb3
    generalize hg : w.heap.size = g at h1 ⊢
    clear hg
    have HE := hid (enc_any w W _ _ s h1 (fun w' q hw => HR.out.still hw) ok hf)
    by_cases hbb : 262144 < s.bytes.length
    · have hp := round_progs ok lI lQ hbb
      rw [enc5_big hbb, HV.out] at HE
      go_wp2_with (refine wpList_load rfl 29 _ rfl g _ _ rfl Try.isAgg29 _ Try.sizeOf29 h1.blk hsz ?_)
      refine HE.out.mono ?_
      rintro e w3 ⟨v1, rfl, h4⟩
      clear HE h1
      obtain ⟨A1, c1, rfl, hc1, f1⟩ := h4.bufForm
      have HD := hid (dec_got w w3 _ A1 0 c1 [] h4 (Hold.bufStill rfl) (fun x hx => by cases hx) rfl (Nat.zero_le _) (by omega))
      clear f1
      go_wp2_with fail
      refine HD.out.mono ?_
      rintro e w4 ⟨V2, cs2, F2, rfl, hV2, hz2, ho2, h5, hr2⟩
      clear HD h4
      have h6 := h5.newBlk (t := 29) (cs := z16)
      unfold z16 at h6
      have H6 := hid h6
      clear h5 h6
      go_upto_region 5 with (refine wpList_store rfl 29 _ _ rfl w4.heap.size _ _ cs2 rfl rfl _ Try.sizeOf29 H6.out hz2 hz2 ho2 ?_; intro y5 h7)
      clear H6
      generalize w4.heap.size = g5 at h7 ⊢
      have k14 := h7.drop.drop.drop.blk.some_ HC.out.2.1
      simp only [SlV.v] at k14
      have e5 : decide ((0 : Int) < (s.progs.length : Int)) = true := decide_eq_true (by omega)
      have HA := hid (awake_any w y5 _ h7)
      clear h7 hr2 HC
      go_wp2_with fail
      refine HA.out.mono ?_
      rintro e w8 ⟨rfl, h10⟩
      clear HA
      go_wp2_with fail
      go_ret
      exact ⟨rfl, h10.below⟩
    · rw [enc5_good hbb, HV.out] at HE
      go_wp2_with (refine wpList_load rfl 29 _ rfl g _ _ rfl Try.isAgg29 _ Try.sizeOf29 h1.blk hsz ?_)
      refine HE.out.mono ?_
      rintro e w3 ⟨v1, rfl, h4⟩
      clear HE h1
      have hlb := enc_byte s
      have hd := dec_bytes s ok (by omega)
      have hbn : s.bytes.length ≤ 262144 := by omega
      obtain ⟨A1, c1, rfl, hc1, f1⟩ := h4.bufForm
      have hD := dec_got w w3 _ A1 s.bytes.length c1 s.bytes h4 (Hold.bufStill rfl) hlb rfl hc1 (by omega)
      rw [hd] at hD
      have HD := hid hD
      clear f1 hD
      generalize s.bytes = L at *
      go_wp2_with fail
      refine HD.out.mono ?_
      rintro e w4 ⟨V2, cs2, F2, rfl, hV2, hz2, ho2, h5, hr2⟩
      clear HD h4
      have h6 := h5.newBlk (t := 29) (cs := z16)
      unfold z16 at h6
      have H6 := hid h6
      clear h5 h6
      go_upto_region 7 with (refine wpList_store rfl 29 _ _ rfl w4.heap.size _ _ cs2 rfl rfl _ Try.sizeOf29 H6.out hz2 hz2 ho2 ?_; intro y5 h7)
      clear H6
      generalize w4.heap.size = g5 at h7 ⊢
      have hS := script_eq y5 V2 _ s (hr2 _ _ h7) (HR.out.still h7) ok.cf.1 ok.five hf
      rw [hV2, HV.out] at hS
      have HS := hid hS
      clear hS
      go_wp2_with (first | (refine wpList_load rfl 29 _ rfl g5 _ _ rfl Try.isAgg29 _ Try.sizeOf29 h7.blk hz2 ?_) | (refine wpList_load rfl 29 _ rfl g _ _ rfl Try.isAgg29 _ Try.sizeOf29 h7.drop.drop.drop.blk hsz ?_))
      refine HS.out.mono ?_
      rintro e w7 ⟨rfl, hc7⟩
      have HA := hid (awake_any w w7 _ (h7.chg0 hc7))
      clear HS h7
      go_wp2_with fail
      refine HA.out.mono ?_
      rintro e w8 ⟨rfl, h10⟩
      clear HA
      go_wp2_with fail
      go_ret
      exact ⟨rfl, h10.below⟩
theorem codeRound_walk (x0 x1 x2 x3 x4 x5 x6 x7 x8 x9 x10 x11 : Int) (x12 : Bool) (v13 v14 v15 : Value) (w : World) (w0 : (Lit.int .i64 x0).wf = true) (w1 : (Lit.int .i64 x1).wf = true) (w2 : (Lit.int .i64 x2).wf = true) (w3 : (Lit.int .i64 x3).wf = true) (w4 : (Lit.int .i64 x4).wf = true) (w5 : (Lit.int .i64 x5).wf = true) (w6 : (Lit.int .i64 x6).wf = true) (w7 : (Lit.int .i64 x7).wf = true) (w8 : (Lit.int .i64 x8).wf = true) (w9 : (Lit.int .i64 x9).wf = true) (w10 : (Lit.int .i64 x10).wf = true) (w11 : (Lit.int .i64 x11).wf = true)
    (k13 : KFits w 5 (.slice [.int .u64]) v13) (k14 : KFits w 5 (.slice [.slice [.int .i64, .int .i64, .int .i64, .int .i64, .int .i64]]) v14) (k15 : KFits w 5 (.slice [.int .i64]) v15) (hL : LensLe w v14 1048576) :
    Calls Try.prog 4 #[.agg #[.int .i64 x0, .int .i64 x1, .int .i64 x2, .int .i64 x3, .int .i64 x4, .int .i64 x5, .int .i64 x6, .int .i64 x7, .int .i64 x8, .int .i64 x9, .int .i64 x10, .int .i64 x11, .bool x12, v13, v14, v15]] w fun e w' => e = .returned (.bool true) ∧ Below w.heap.size w w' := by
  obtain ⟨V, s, hv, hr, ok, hm, n1, n2, n3, m1, m2, m3⟩ := open_script w x0 x1 x2 x3 x4 x5 x6 x7 x8 x9 x10 x11 x12 v13 v14 v15 w0 w1 w2 w3 w4 w5 w6 w7 w8 w9 w10 w11 k13 k14 k15 hL
  rw [hv]
  exact codeRound_any w V s hr ok hm n1 n2 n3 m1 m2 m3
end Go.Proofs.Ytipafegiobnkpaa
