/- CodeEncodes. -/
import Derived.Test.YtipafegiobnkpaaOp
import Derived.Test.YtipafegiobnkpaaLl
namespace Go.Proofs.Ytipafegiobnkpaa
open Go.RowKit
set_option linter.unusedVariables false

theorem ScrR.still {w w' : World} {V : ScV} {s : Scr} (h : ScrR w V s) {p : Asr} (hw : Hold w w' p) : ScrR w' V s := h.chg (Chg.of_below hw.below)
theorem fits_of {s : Scr} {a b c : Nat} (h1 : s.init.length ≤ a) (h2 : s.progs.length ≤ b) (h3 : s.picks.length ≤ c) (ha : a ≤ 1000 := by decide) (hb : b ≤ 1000 := by decide) (hc : c ≤ 1000 := by decide) (hm : (s.progs.map List.length).sum ≤ 1048576) : s.fits := ⟨by omega, by omega, by omega, by omega⟩
/-- What a script's value is, cell by cell. -/
theorem ScV.arr (V : ScV) (s : Scr) (h : s.cf.length = 12) : ∃ cs : Array Value, V.val s = .agg cs ∧ cs.size = 16 ∧ cs[13]? = some V.i.v ∧ cs[14]? = some V.p.v ∧ cs[15]? = some V.q.v := by
  obtain ⟨c0, c1, c2, c3, c4, c5, c6, c7, c8, c9, c10, c11, hc⟩ := twelve h
  refine ⟨_, rfl, ?_, ?_, ?_, ?_⟩ <;> simp [ScV.cells, hc]

/-- Two owned slices of the same bytes are the same. -/
theorem same_bufs {w0 w : World} {R : Asr} {A1 A2 : Option Addr} {c1 c2 : Nat} {L : List Nat} (h : Hold w0 w (bufA (.slice A2 L.length c2) L * (bufA (.slice A1 L.length c1) L * R))) (hlt : ∀ x ∈ L, x < 256) :
    Calls Try.prog 12 #[.slice A1 L.length c1, .slice A2 L.length c2] w fun e w' => e = .returned (.bool true) ∧ w = w' := by
  obtain ⟨A2', c2', e2, _, f2⟩ := h.bufForm
  obtain ⟨A1', c1', e1, _, f1⟩ := h.drop.bufForm
  injection e1 with e1 _ _
  injection e2 with e2 _ _
  subst e1; subst e2
  obtain ⟨b1, hR1⟩ := h.drop.rowSReads
  obtain ⟨b2, hR2⟩ := h.rowSReads
  rw [Nat.mul_one] at hR1 hR2
  have hS := same_any w A1 A2 b1 b2 L.length L.length c1 c2 L L hR1 hR2 (fun h => by
    rcases f1 with ⟨_, rfl⟩ | ⟨g, rfl⟩
    · rfl
    · cases h) (fun h => by
    rcases f2 with ⟨_, rfl⟩ | ⟨g, rfl⟩
    · rfl
    · cases h) hlt hlt
  rwa [show decide (L = L) = true from decide_eq_true rfl] at hS
set_option maxRecDepth 8000 in
set_option maxHeartbeats 16000000 in
theorem codeEncodes_any (w : World) (V : ScV) (s : Scr) (hr : ScrR w V s) (ok : s.ok) (hm : (s.progs.map List.length).sum ≤ 1048576) (nI : V.i.n = s.init.length) (nP : V.p.n = s.progs.length) (nQ : V.q.n = s.picks.length)
    (mI : s.init.length ≤ maxLen) (mP : s.progs.length ≤ maxLen) (mQ : s.picks.length ≤ maxLen) :
    Calls Try.prog 3 #[V.val s] w fun e w' => e = .returned (.bool true) ∧ Below w.heap.size w w' := by
  obtain ⟨cs, hV, hsz, c13, c14, c15⟩ := V.arr s ok.cf.1
  rw [hV]
  have h1 := (Hold.start w).newBlk (t := 29) (cs := cs)
  obtain ⟨b1, hb1⟩ : ∃ b, b = decide ((40 : Int) < (V.i.n : Int)) := ⟨_, rfl⟩
  obtain ⟨b2, hb2⟩ : ∃ b, b = decide ((10 : Int) < (V.p.n : Int)) := ⟨_, rfl⟩
  obtain ⟨b3, hb3⟩ : ∃ b, b = decide ((60 : Int) < (V.q.n : Int)) := ⟨_, rfl⟩
  have k13 := h1.blk.some_ c13
  have k14 := h1.blk.some_ c14
  have k15 := h1.blk.some_ c15
  have HA := hid (awake_any w _ _ h1)
  have HR := hid hr
  have HV := hid hV
  have H1 := hid h1
  clear h1 hV hr
  obtain ⟨⟨AI, lI, cI⟩, ⟨AP, lP, cP⟩, ⟨AQ, lQ, cQ⟩, vs⟩ := V
  simp only [SlV.v] at nI nP nQ hb1 hb2 hb3 k13 k14 k15
  subst nI nP nQ
  have HC := hid (And.intro c13 (And.intro c14 c15))
  clear c13 c14 c15
  by_cases hbig : b1 = true ∨ b2 = true ∨ b3 = true
  · have hd : (b1 = true) ∨ (b1 = false ∧ b2 = true) ∨ (b1 = false ∧ b2 = false ∧ b3 = true) := by
      revert hbig; cases b1 <;> cases b2 <;> cases b3 <;> decide
    clear hbig
    rcases hd with rfl | ⟨rfl, rfl⟩ | ⟨rfl, rfl, rfl⟩
    all_goals replace hb1 := hb1.symm
    all_goals first | (replace hb2 := hb2.symm) | skip
    all_goals first | (replace hb3 := hb3.symm) | skip
    all_goals go_enter Try.func3, Try.ntmps3
    all_goals go_wp2_with fail
    all_goals refine HA.out.mono ?_
    all_goals rintro e w1 ⟨rfl, h2⟩
    all_goals go_wp2_with fail
    all_goals go_ret
    all_goals exact ⟨rfl, h2.below⟩
  · obtain rfl : b1 = false := by cases b1 <;> simp_all
    obtain rfl : b2 = false := by cases b2 <;> simp_all
    obtain rfl : b3 = false := by cases b3 <;> simp_all
    replace hb1 := hb1.symm
    replace hb2 := hb2.symm
    replace hb3 := hb3.symm
    have hf : s.fits := fits_of (a := 40) (b := 10) (c := 60) (by have := of_decide_eq_false hb1; omega) (by have := of_decide_eq_false hb2; omega) (by have := of_decide_eq_false hb3; omega) (hm := hm)
    clear HA hbig
    go_enter Try.func3, Try.ntmps3
    go_upto_region 3 with fail
    have h1 := H1.out
    generalize hW : w.alloc (Obj.cells cs 29) = W at h1 ⊢
    clear hW H1 k13 k14 k15 hb1 hb2 hb3
    generalize hg : w.heap.size = g at h1 ⊢
    have HE := enc_any w W _ _ s h1 (fun w' q hw => HR.out.still hw) ok hf
    have hF : ∀ w' q, Hold w w' q → Calls Try.prog 11 #[.agg cs] w' fun e w'' => ∃ v', e = .returned (.tuple #[v', .int .i64 (encode5 s).2]) ∧ Hold w w'' (bufA v' (encode5 s).1 * q) := fun w' q hw => by
      have := rfenc_any w w' q _ s hw (fun w'' q' hw' => HR.out.still hw') ok hf
      rwa [HV.out] at this
    rw [HV.out] at HE
    have HE := hid HE
    have HF := hid hF
    have hlt := enc5_lt s
    clear hF HR HV
    clear hg
    go_wp2_with (refine wpList_load rfl 29 _ rfl g _ _ rfl Try.isAgg29 _ Try.sizeOf29 h1.blk hsz ?_)
    refine HE.out.mono ?_
    rintro e w3 ⟨v1, rfl, h4⟩
    clear HE h1
    go_wp2_with (refine wpList_load rfl 29 _ rfl g _ _ rfl Try.isAgg29 _ Try.sizeOf29 h4.drop.blk hsz ?_)
    refine (HF.out w3 _ h4).mono ?_
    rintro e w4 ⟨v2, rfl, h5⟩
    clear HF h4
    generalize (encode5 s).1 = L at h5 hlt ⊢
    generalize (encode5 s).2 = r at *
    obtain ⟨A2, c2, rfl, hc2, f2⟩ := h5.bufForm
    obtain ⟨A1, c1, rfl, hc1, f1⟩ := h5.drop.bufForm
    have HS := hid (same_bufs h5 hlt)
    have HA := hid (awake_any w w4 _ h5)
    clear f1 f2 h5
    go_wp2_with fail
    refine HS.out.mono ?_
    rintro e w7 ⟨rfl, rfl⟩
    clear HS
    go_wp2_with fail
    refine HA.out.mono ?_
    rintro e w8 ⟨rfl, h10⟩
    clear HA
    go_wp2_with fail
    go_ret
    exact ⟨rfl, h10.below⟩
theorem codeEncodes_walk (x0 x1 x2 x3 x4 x5 x6 x7 x8 x9 x10 x11 : Int) (x12 : Bool) (v13 v14 v15 : Value) (w : World) (w0 : (Lit.int .i64 x0).wf = true) (w1 : (Lit.int .i64 x1).wf = true) (w2 : (Lit.int .i64 x2).wf = true) (w3 : (Lit.int .i64 x3).wf = true) (w4 : (Lit.int .i64 x4).wf = true) (w5 : (Lit.int .i64 x5).wf = true)
    (w6 : (Lit.int .i64 x6).wf = true) (w7 : (Lit.int .i64 x7).wf = true) (w8 : (Lit.int .i64 x8).wf = true) (w9 : (Lit.int .i64 x9).wf = true) (w10 : (Lit.int .i64 x10).wf = true) (w11 : (Lit.int .i64 x11).wf = true)
    (k13 : KFits w 5 (.slice [.int .u64]) v13) (k14 : KFits w 5 (.slice [.slice [.int .i64, .int .i64, .int .i64, .int .i64, .int .i64]]) v14) (k15 : KFits w 5 (.slice [.int .i64]) v15) (hL : LensLe w v14 1048576) :
    Calls Try.prog 3 #[.agg #[.int .i64 x0, .int .i64 x1, .int .i64 x2, .int .i64 x3, .int .i64 x4, .int .i64 x5, .int .i64 x6, .int .i64 x7, .int .i64 x8, .int .i64 x9, .int .i64 x10, .int .i64 x11, .bool x12, v13, v14, v15]] w fun e w' => e = .returned (.bool true) ∧ Below w.heap.size w w' := by
  obtain ⟨V, s, hv, hr, ok, hm, n1, n2, n3, m1, m2, m3⟩ := open_script w x0 x1 x2 x3 x4 x5 x6 x7 x8 x9 x10 x11 x12 v13 v14 v15 w0 w1 w2 w3 w4 w5 w6 w7 w8 w9 w10 w11 k13 k14 k15 hL
  rw [hv]
  exact codeEncodes_any w V s hr ok hm n1 n2 n3 m1 m2 m3
end Go.Proofs.Ytipafegiobnkpaa
