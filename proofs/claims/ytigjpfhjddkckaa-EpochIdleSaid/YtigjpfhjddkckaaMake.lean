/- strongtxmake.Config. -/
import Derived.Test.YtigjpfhjddkckaaLists
import Derived.Test.YtigjpfhjddkckaaKit
import Derived.Test.YtigjpfhjddkckaaMem2
namespace Go.Proofs.Ytigjpfhjddkckaa
open Go.RowKit
set_option linter.unusedVariables false

def mkN0 (a d : Int) : Int := place (wrap64 (d.tdiv 9)) (4 + place a 9 - 2 + 1)
def mkN1 (a d : Int) : Int := place (wrap64 (d.tdiv 29)) ((4 + place a 9 - 2 - min (mkN0 a d) 2) / 2 + 1)
/-- The configuration that is made of five numbers. -/
def mkCfg (a b c d e : Int) : Cfg :=
  { words := 4 + place a 9, orecs := 1 + place b 8, base := 2, c0 := min (mkN0 a d) 2, c1 := min (mkN1 a d) 2, c2 := 0, c3 := 0, reads := 1 + place c 6, writes := 1 + place (wrap64 (c.tdiv 7)) 8,
    allocs := place d 3, frees := place (wrap64 (d.tdiv 3)) 3, clock := if place e 5 = 0 then place (wrap64 (e.tdiv 5)) 4 else 50, strong := false }
theorem mk_bd (a b c d e : Int) : (4 ≤ 4 + place a 9 ∧ 4 + place a 9 ≤ 12) ∧ (0 ≤ mkN0 a d ∧ mkN0 a d ≤ 4 + place a 9 - 2) ∧ (0 ≤ mkN1 a d ∧ mkN1 a d ≤ (4 + place a 9 - 2 - min (mkN0 a d) 2) / 2) := by
  have h1 := place_nonneg a 9 (by omega)
  have h2 := place_lt a 9 (by omega)
  have h3 := place_nonneg (wrap64 (d.tdiv 9)) (4 + place a 9 - 2 + 1) (by omega)
  have h4 := place_lt (wrap64 (d.tdiv 9)) (4 + place a 9 - 2 + 1) (by omega)
  have h5 : 0 < (4 + place a 9 - 2 - min (mkN0 a d) 2) / 2 + 1 := by unfold mkN0; omega
  have h6 := place_nonneg (wrap64 (d.tdiv 29)) _ h5
  have h7 := place_lt (wrap64 (d.tdiv 29)) _ h5
  refine ⟨by omega, ?_, ?_⟩
  · unfold mkN0; omega
  · unfold mkN1; omega
theorem mkCfg_ok (a b c d e : Int) : cfgErr (mkCfg a b c d e) = 0 := by
  obtain ⟨h1, h2, h3⟩ := mk_bd a b c d e
  have hb := place_nonneg b 8 (by omega); have hb2 := place_lt b 8 (by omega)
  have hc := place_nonneg c 6 (by omega); have hc2 := place_lt c 6 (by omega)
  have hd := place_nonneg (wrap64 (c.tdiv 7)) 8 (by omega); have hd2 := place_lt (wrap64 (c.tdiv 7)) 8 (by omega)
  have he := place_nonneg d 3 (by omega); have he2 := place_lt d 3 (by omega)
  have hf := place_nonneg (wrap64 (d.tdiv 3)) 3 (by omega); have hf2 := place_lt (wrap64 (d.tdiv 3)) 3 (by omega)
  have hg := place_nonneg (wrap64 (e.tdiv 5)) 4 (by omega); have hg2 := place_lt (wrap64 (e.tdiv 5)) 4 (by omega)
  have w1 : (win (mkCfg a b c d e).words 1 64 && win (mkCfg a b c d e).orecs 1 64) = true := by simp only [Bool.and_eq_true, win_true, mkCfg]; omega
  have w2 : heapOk (mkCfg a b c d e) = true := by
    have g1 : win (mkCfg a b c d e).c0 0 64 = true := by simp only [win_true, mkCfg]; omega
    have g2 : win (mkCfg a b c d e).c1 0 64 = true := by simp only [win_true, mkCfg]; omega
    have g3 : win (mkCfg a b c d e).base 0 (mkCfg a b c d e).words = true := by simp only [win_true, mkCfg]; omega
    have g4 : decide (nblocks (mkCfg a b c d e) ≤ 64) = true := by rw [decide_eq_true_eq]; simp only [nblocks, mkCfg]; omega
    have g5 : decide ((mkCfg a b c d e).base + nwords (mkCfg a b c d e) ≤ (mkCfg a b c d e).words) = true := by rw [decide_eq_true_eq]; simp only [nwords, mkCfg]; omega
    unfold heapOk countsOk
    rw [g1, g2, g3, g4, g5]
    rfl
  have w3 : (win (mkCfg a b c d e).reads 1 32 && win (mkCfg a b c d e).writes 1 32 && win (mkCfg a b c d e).allocs 0 8 && win (mkCfg a b c d e).frees 0 8) = true := by
    simp only [Bool.and_eq_true, win_true, mkCfg]; omega
  have w4 : win (mkCfg a b c d e).clock 0 1099511627776 = true := by
    simp only [win_true, mkCfg]
    split <;> omega
  unfold cfgErr
  rw [w1, w2, w3, w4]; rfl

theorem set13_0 (a0 a1 a10 a11 a12 a2 a3 a4 a5 a6 a7 a8 a9 b0 : Value) : (#[a0, a1, a2, a3, a4, a5, a6, a7, a8, a9, a10, a11, a12] : Array Value).setIfInBounds 0 b0 = #[b0, a1, a2, a3, a4, a5, a6, a7, a8, a9, a10, a11, a12] := by simp
theorem set13_1 (a1 a10 a11 a12 a2 a3 a4 a5 a6 a7 a8 a9 b0 b1 : Value) : (#[b0, a1, a2, a3, a4, a5, a6, a7, a8, a9, a10, a11, a12] : Array Value).setIfInBounds 1 b1 = #[b0, b1, a2, a3, a4, a5, a6, a7, a8, a9, a10, a11, a12] := by simp
theorem set13_2 (a10 a11 a12 a2 a3 a4 a5 a6 a7 a8 a9 b0 b1 b2 : Value) : (#[b0, b1, a2, a3, a4, a5, a6, a7, a8, a9, a10, a11, a12] : Array Value).setIfInBounds 2 b2 = #[b0, b1, b2, a3, a4, a5, a6, a7, a8, a9, a10, a11, a12] := by simp
theorem set13_3 (a10 a11 a12 a3 a4 a5 a6 a7 a8 a9 b0 b1 b2 b3 : Value) : (#[b0, b1, b2, a3, a4, a5, a6, a7, a8, a9, a10, a11, a12] : Array Value).setIfInBounds 3 b3 = #[b0, b1, b2, b3, a4, a5, a6, a7, a8, a9, a10, a11, a12] := by simp
theorem set13_4 (a10 a11 a12 a4 a5 a6 a7 a8 a9 b0 b1 b2 b3 b4 : Value) : (#[b0, b1, b2, b3, a4, a5, a6, a7, a8, a9, a10, a11, a12] : Array Value).setIfInBounds 4 b4 = #[b0, b1, b2, b3, b4, a5, a6, a7, a8, a9, a10, a11, a12] := by simp
theorem set13_5 (a10 a11 a12 a5 a6 a7 a8 a9 b0 b1 b2 b3 b4 b5 : Value) : (#[b0, b1, b2, b3, b4, a5, a6, a7, a8, a9, a10, a11, a12] : Array Value).setIfInBounds 5 b5 = #[b0, b1, b2, b3, b4, b5, a6, a7, a8, a9, a10, a11, a12] := by simp
theorem set13_6 (a10 a11 a12 a6 a7 a8 a9 b0 b1 b2 b3 b4 b5 b6 : Value) : (#[b0, b1, b2, b3, b4, b5, a6, a7, a8, a9, a10, a11, a12] : Array Value).setIfInBounds 6 b6 = #[b0, b1, b2, b3, b4, b5, b6, a7, a8, a9, a10, a11, a12] := by simp
theorem set13_7 (a10 a11 a12 a7 a8 a9 b0 b1 b2 b3 b4 b5 b6 b7 : Value) : (#[b0, b1, b2, b3, b4, b5, b6, a7, a8, a9, a10, a11, a12] : Array Value).setIfInBounds 7 b7 = #[b0, b1, b2, b3, b4, b5, b6, b7, a8, a9, a10, a11, a12] := by simp
theorem set13_8 (a10 a11 a12 a8 a9 b0 b1 b2 b3 b4 b5 b6 b7 b8 : Value) : (#[b0, b1, b2, b3, b4, b5, b6, b7, a8, a9, a10, a11, a12] : Array Value).setIfInBounds 8 b8 = #[b0, b1, b2, b3, b4, b5, b6, b7, b8, a9, a10, a11, a12] := by simp
theorem set13_9 (a10 a11 a12 a9 b0 b1 b2 b3 b4 b5 b6 b7 b8 b9 : Value) : (#[b0, b1, b2, b3, b4, b5, b6, b7, b8, a9, a10, a11, a12] : Array Value).setIfInBounds 9 b9 = #[b0, b1, b2, b3, b4, b5, b6, b7, b8, b9, a10, a11, a12] := by simp
theorem set13_10 (a10 a11 a12 b0 b1 b10 b2 b3 b4 b5 b6 b7 b8 b9 : Value) : (#[b0, b1, b2, b3, b4, b5, b6, b7, b8, b9, a10, a11, a12] : Array Value).setIfInBounds 10 b10 = #[b0, b1, b2, b3, b4, b5, b6, b7, b8, b9, b10, a11, a12] := by simp
theorem set13_11 (a11 a12 b0 b1 b10 b11 b2 b3 b4 b5 b6 b7 b8 b9 : Value) : (#[b0, b1, b2, b3, b4, b5, b6, b7, b8, b9, b10, a11, a12] : Array Value).setIfInBounds 11 b11 = #[b0, b1, b2, b3, b4, b5, b6, b7, b8, b9, b10, b11, a12] := by simp
theorem set13_12 (a12 b0 b1 b10 b11 b12 b2 b3 b4 b5 b6 b7 b8 b9 : Value) : (#[b0, b1, b2, b3, b4, b5, b6, b7, b8, b9, b10, b11, a12] : Array Value).setIfInBounds 12 b12 = #[b0, b1, b2, b3, b4, b5, b6, b7, b8, b9, b10, b11, b12] := by simp
theorem set13 (a0 a1 a2 a3 a4 a5 a6 a7 a8 a9 a10 a11 a12 b0 b1 b2 b3 b4 b5 b6 b7 b8 b9 b10 b11 b12 : Value) : (((((((((((((#[a0, a1, a2, a3, a4, a5, a6, a7, a8, a9, a10, a11, a12]).setIfInBounds 0 b0).setIfInBounds 1 b1).setIfInBounds 2 b2).setIfInBounds 3 b3).setIfInBounds 4 b4).setIfInBounds 5 b5).setIfInBounds 6 b6).setIfInBounds 7 b7).setIfInBounds 8 b8).setIfInBounds 9 b9).setIfInBounds 10 b10).setIfInBounds 11 b11).setIfInBounds 12 b12 = #[b0, b1, b2, b3, b4, b5, b6, b7, b8, b9, b10, b11, b12] := by rw [set13_0, set13_1, set13_2, set13_3, set13_4, set13_5, set13_6, set13_7, set13_8, set13_9, set13_10, set13_11, set13_12]
def mkPost (w : World) (c : Cfg) (e : Ending) (w' : World) : Prop := e = .returned c.val ∧ Chg [] w w'
set_option maxRecDepth 8000 in
set_option maxHeartbeats 16000000 in
theorem config_any (w : World) (a b c d e : Int) : Calls Try.prog 73 #[.int .i64 a, .int .i64 b, .int .i64 c, .int .i64 d, .int .i64 e] w (mkPost w (mkCfg a b c d e)) := by
  obtain ⟨bw, b0, b1⟩ := mk_bd a b c d e
  have hc : mkCfg a b c d e = { words := 4 + place a 9, orecs := 1 + place b 8, base := 2, c0 := min (mkN0 a d) 2, c1 := min (mkN1 a d) 2, c2 := 0, c3 := 0, reads := 1 + place c 6, writes := 1 + place (wrap64 (c.tdiv 7)) 8, allocs := place d 3, frees := place (wrap64 (d.tdiv 3)) 3, clock := if place e 5 = 0 then place (wrap64 (e.tdiv 5)) 4 else 50, strong := false } := rfl
  have hn0 : place (wrap64 (d.tdiv 9)) (4 + place a 9 - 2 + 1) = mkN0 a d := rfl
  have hn1 : place (wrap64 (d.tdiv 29)) ((4 + place a 9 - 2 - min (mkN0 a d) 2) / 2 + 1) = mkN1 a d := rfl
  have p1 := place_nonneg b 8 (by omega); have p2 := place_lt b 8 (by omega)
  have p3 := place_nonneg c 6 (by omega); have p4 := place_lt c 6 (by omega)
  have p5 := place_nonneg (wrap64 (c.tdiv 7)) 8 (by omega); have p6 := place_lt (wrap64 (c.tdiv 7)) 8 (by omega)
  rw [hc]
  obtain ⟨pa, ha⟩ : ∃ x, x = place a 9 := ⟨_, rfl⟩
  obtain ⟨n0, h0⟩ : ∃ x, x = mkN0 a d := ⟨_, rfl⟩
  obtain ⟨n1, h1⟩ : ∃ x, x = mkN1 a d := ⟨_, rfl⟩
  rw [← ha] at bw b0 b1 hn0 hn1 ⊢
  rw [← h0] at b0 b1 hn0 hn1 ⊢
  rw [← h1] at b1 hn1 ⊢
  have Ha := hid ha
  have Hn0 := hid hn0
  clear hc ha h0 h1 hn0
  by_cases he5 : place e 5 = 0
  · have He5 := hid he5
    rw [if_pos he5]
    clear he5
    by_cases h2 : n0 ≤ 2
    · rw [show min n0 2 = n0 by omega] at hn1 b1 ⊢
      have Hn1 := hid hn1
      clear hn1
      by_cases h3 : n1 ≤ 2
      · rw [show min n1 2 = n1 by omega]
        go_enter Try.func73, Try.ntmps73
        go_wp2_with (go_at_call 16; refine (place_any _ _ _ (by omega) (by omega)).mono ?_; rintro r w' ⟨rfl, rfl⟩; try (first | rw [← Ha.out] | rw [He5.out]))
        refine wp_loop_rounds 3 ?_
        rw [rounds_succ]
        go_wp2_with fail
        go_quiet ((go_at_call 16; exact Calls.quiet_of_same ((place_any _ _ _ (by omega) (by omega)).mono fun r w' h => ⟨h.1, h.2.symm⟩)))
        rw [Hn0.out]
        generalize hW : World.drewN _ _ = W
        have hG : Blk W (w.heap.size + 1) 32 #[.int .i64 (4 + pa), .int .i64 (1 + place b 8), .int .i64 2, .int .i64 0, .int .i64 0, .int .i64 0, .int .i64 0, .int .i64 (1 + place c 6), .int .i64 (1 + place (wrap64 (c.tdiv 7)) 8), .int .i64 (place d 3), .int .i64 (place (wrap64 (d.tdiv 3)) 3), .int .i64 (place (wrap64 (e.tdiv 5)) 4), .bool false] := by rw [← hW]; exact (by simpa using Blk.new (w.alloc (.cells #[.int .i64 0, .int .i64 0, .int .i64 0, .int .i64 0, .int .i64 0, .int .i64 0, .int .i64 0, .int .i64 0, .int .i64 0, .int .i64 0, .int .i64 0, .int .i64 0, .bool false] 32)) 32 #[.int .i64 (4 + pa), .int .i64 (1 + place b 8), .int .i64 2, .int .i64 0, .int .i64 0, .int .i64 0, .int .i64 0, .int .i64 (1 + place c 6), .int .i64 (1 + place (wrap64 (c.tdiv 7)) 8), .int .i64 (place d 3), .int .i64 (place (wrap64 (d.tdiv 3)) 3), .int .i64 (place (wrap64 (e.tdiv 5)) 4), .bool false] : Blk _ (w.heap.size + 1) 32 _)
        have hR : Blk W w.heap.size 32 #[.int .i64 0, .int .i64 0, .int .i64 0, .int .i64 0, .int .i64 0, .int .i64 0, .int .i64 0, .int .i64 0, .int .i64 0, .int .i64 0, .int .i64 0, .int .i64 0, .bool false] := by rw [← hW]; exact ((Blk.new w 32 #[.int .i64 0, .int .i64 0, .int .i64 0, .int .i64 0, .int .i64 0, .int .i64 0, .int .i64 0, .int .i64 0, .int .i64 0, .int .i64 0, .int .i64 0, .int .i64 0, .bool false]).alloc _).drewN _
        have hC : Chg [] w W := by rw [← hW]; exact (((Chg.refl [] w).alloc _).alloc _).drewN _
        clear hW
        generalize hgg : w.heap.size + 1 = gg at hG ⊢
        generalize hgr : w.heap.size = gr at hR ⊢
        have hgr2 : gr ∉ ([] : List Nat) := by simp
        have hne : gr ≠ gg := by omega
        have hge : w.heap.size ≤ gr ∧ w.heap.size ≤ gg := by omega
        clear hgg hgr hgr2
        have x3 := hG.some_ (i := 3) rfl
        have z3 := hG.frozen 3
        have x4 := hG.some_ (i := 4) rfl
        have z4 := hG.frozen 4
        have hG1 := hG.set_ 3 (.int .i64 n0)
        have hR1 := hR.far (p := ⟨gg, 3, none⟩) hne (.int .i64 n0)
        have hC1 := hC.setCell (p := ⟨gg, 3, none⟩) (.inr hge.2) (.int .i64 n0)
        have K1 := hid (And.intro hG1 (And.intro hR1 hC1))
        clear hG hR hC hG1 hR1 hC1
        go_wp2_with fail
        rw [rounds_succ]
        go_wp2_with fail
        go_quiet ((go_at_call 16; exact Calls.quiet_of_same ((place_any _ _ _ (by omega) (by omega)).mono fun r w' h => ⟨h.1, h.2.symm⟩)))
        rw [Hn1.out]
        obtain ⟨hG, hR, hC⟩ := K1.out
        clear K1 x3 z3 x4 z4
        generalize hW2 : World.drewN _ _ = W2
        have hG2 := hG.drewN nq
        have hR2 := hR.drewN nq
        have hC2 := hC.drewN nq
        rw [hW2] at hG2 hR2 hC2
        clear hW2 hG hR hC
        have g0 := hG2.some_ (i := 0) rfl
        have g1 := hG2.some_ (i := 1) rfl
        have g2 := hG2.some_ (i := 2) rfl
        have g3 := hG2.some_ (i := 3) rfl
        have g4 := hG2.some_ (i := 4) rfl
        have g5 := hG2.some_ (i := 5) rfl
        have g6 := hG2.some_ (i := 6) rfl
        have g7 := hG2.some_ (i := 7) rfl
        have g8 := hG2.some_ (i := 8) rfl
        have g9 := hG2.some_ (i := 9) rfl
        have g10 := hG2.some_ (i := 10) rfl
        have g11 := hG2.some_ (i := 11) rfl
        have g12 := hG2.some_ (i := 12) rfl
        have y0 := hR2.some_ (i := 0) rfl
        have y1 := hR2.some_ (i := 1) rfl
        have y2 := hR2.some_ (i := 2) rfl
        have y3 := hR2.some_ (i := 3) rfl
        have y4 := hR2.some_ (i := 4) rfl
        have y5 := hR2.some_ (i := 5) rfl
        have y6 := hR2.some_ (i := 6) rfl
        have y7 := hR2.some_ (i := 7) rfl
        have y8 := hR2.some_ (i := 8) rfl
        have y9 := hR2.some_ (i := 9) rfl
        have y10 := hR2.some_ (i := 10) rfl
        have y11 := hR2.some_ (i := 11) rfl
        have y12 := hR2.some_ (i := 12) rfl
        have z0 := hR2.frozen 0
        have z1 := hR2.frozen 1
        have z2 := hR2.frozen 2
        have z3 := hR2.frozen 3
        have z4 := hR2.frozen 4
        have z5 := hR2.frozen 5
        have z6 := hR2.frozen 6
        have z7 := hR2.frozen 7
        have z8 := hR2.frozen 8
        have z9 := hR2.frozen 9
        have z10 := hR2.frozen 10
        have z11 := hR2.frozen 11
        have z12 := hR2.frozen 12
        have t4 := hG2.frozen 4
        have hR1 := hR2.far (p := ⟨gg, 4, none⟩) hne (.int .i64 n1)
        have hC1 := hC2.setCell (p := ⟨gg, 4, none⟩) (.inr hge.2) (.int .i64 n1)
        have K1 := hid (And.intro (((((((((((((hR1.set_ 0 (.int .i64 (4 + pa))).set_ 1 (.int .i64 (1 + place b 8))).set_ 2 (.int .i64 2)).set_ 3 (.int .i64 n0)).set_ 4 (.int .i64 n1)).set_ 5 (.int .i64 0)).set_ 6 (.int .i64 0)).set_ 7 (.int .i64 (1 + place c 6))).set_ 8 (.int .i64 (1 + place (wrap64 (c.tdiv 7)) 8))).set_ 9 (.int .i64 (place d 3))).set_ 10 (.int .i64 (place (wrap64 (d.tdiv 3)) 3))).set_ 11 (.int .i64 (place (wrap64 (e.tdiv 5)) 4))).set_ 12 (.bool false)) (((((((((((((hC1.setCell (p := ⟨gr, 0, none⟩) (.inr hge.1) (.int .i64 (4 + pa))).setCell (p := ⟨gr, 1, none⟩) (.inr hge.1) (.int .i64 (1 + place b 8))).setCell (p := ⟨gr, 2, none⟩) (.inr hge.1) (.int .i64 2)).setCell (p := ⟨gr, 3, none⟩) (.inr hge.1) (.int .i64 n0)).setCell (p := ⟨gr, 4, none⟩) (.inr hge.1) (.int .i64 n1)).setCell (p := ⟨gr, 5, none⟩) (.inr hge.1) (.int .i64 0)).setCell (p := ⟨gr, 6, none⟩) (.inr hge.1) (.int .i64 0)).setCell (p := ⟨gr, 7, none⟩) (.inr hge.1) (.int .i64 (1 + place c 6))).setCell (p := ⟨gr, 8, none⟩) (.inr hge.1) (.int .i64 (1 + place (wrap64 (c.tdiv 7)) 8))).setCell (p := ⟨gr, 9, none⟩) (.inr hge.1) (.int .i64 (place d 3))).setCell (p := ⟨gr, 10, none⟩) (.inr hge.1) (.int .i64 (place (wrap64 (d.tdiv 3)) 3))).setCell (p := ⟨gr, 11, none⟩) (.inr hge.1) (.int .i64 (place (wrap64 (e.tdiv 5)) 4))).setCell (p := ⟨gr, 12, none⟩) (.inr hge.1) (.bool false)))
        clear hG2 hR2 hC2 hR1 hC1
        go_wp2_with fail
        rw [rounds_succ]
        go_wp2_with fail
        obtain ⟨hR, hC⟩ := K1.out
        generalize hW3 : World.setCell _ _ _ = W3 at hR hC ⊢
        clear hW3 K1 g0 g1 g2 g3 g4 g5 g6 g7 g8 g9 g10 g11 g12 y0 y1 y2 y3 y4 y5 y6 y7 y8 y9 y10 y11 y12 z0 z1 z2 z3 z4 z5 z6 z7 z8 z9 z10 z11 z12 t4
        rw [set13] at hR
        have y0 : W3.cell? ⟨gr, 0, none⟩ = some (.int .i64 (4 + pa)) := hR.some_ rfl
        have y1 : W3.cell? ⟨gr, 1, none⟩ = some (.int .i64 (1 + place b 8)) := hR.some_ rfl
        have y2 : W3.cell? ⟨gr, 2, none⟩ = some (.int .i64 2) := hR.some_ rfl
        have y3 : W3.cell? ⟨gr, 3, none⟩ = some (.int .i64 n0) := hR.some_ rfl
        have y4 : W3.cell? ⟨gr, 4, none⟩ = some (.int .i64 n1) := hR.some_ rfl
        have y5 : W3.cell? ⟨gr, 5, none⟩ = some (.int .i64 0) := hR.some_ rfl
        have y6 : W3.cell? ⟨gr, 6, none⟩ = some (.int .i64 0) := hR.some_ rfl
        have y7 : W3.cell? ⟨gr, 7, none⟩ = some (.int .i64 (1 + place c 6)) := hR.some_ rfl
        have y8 : W3.cell? ⟨gr, 8, none⟩ = some (.int .i64 (1 + place (wrap64 (c.tdiv 7)) 8)) := hR.some_ rfl
        have y9 : W3.cell? ⟨gr, 9, none⟩ = some (.int .i64 (place d 3)) := hR.some_ rfl
        have y10 : W3.cell? ⟨gr, 10, none⟩ = some (.int .i64 (place (wrap64 (d.tdiv 3)) 3)) := hR.some_ rfl
        have y11 : W3.cell? ⟨gr, 11, none⟩ = some (.int .i64 (place (wrap64 (e.tdiv 5)) 4)) := hR.some_ rfl
        have y12 : W3.cell? ⟨gr, 12, none⟩ = some (.bool false) := hR.some_ rfl
        exact bodyPost_ret (v := .agg #[.int .i64 (4 + pa), .int .i64 (1 + place b 8), .int .i64 2, .int .i64 n0, .int .i64 n1, .int .i64 0, .int .i64 0, .int .i64 (1 + place c 6), .int .i64 (1 + place (wrap64 (c.tdiv 7)) 8), .int .i64 (place d 3), .int .i64 (place (wrap64 (d.tdiv 3)) 3), .int .i64 (place (wrap64 (e.tdiv 5)) 4), .bool false]) (by simp [results, Try.results73, go_sem, y0, y1, y2, y3, y4, y5, y6, y7, y8, y9, y10, y11, y12]) rfl ⟨rfl, hC⟩
      · rw [show min n1 2 = 2 by omega]
        go_enter Try.func73, Try.ntmps73
        go_wp2_with (go_at_call 16; refine (place_any _ _ _ (by omega) (by omega)).mono ?_; rintro r w' ⟨rfl, rfl⟩; try (first | rw [← Ha.out] | rw [He5.out]))
        refine wp_loop_rounds 3 ?_
        rw [rounds_succ]
        go_wp2_with fail
        go_quiet ((go_at_call 16; exact Calls.quiet_of_same ((place_any _ _ _ (by omega) (by omega)).mono fun r w' h => ⟨h.1, h.2.symm⟩)))
        rw [Hn0.out]
        generalize hW : World.drewN _ _ = W
        have hG : Blk W (w.heap.size + 1) 32 #[.int .i64 (4 + pa), .int .i64 (1 + place b 8), .int .i64 2, .int .i64 0, .int .i64 0, .int .i64 0, .int .i64 0, .int .i64 (1 + place c 6), .int .i64 (1 + place (wrap64 (c.tdiv 7)) 8), .int .i64 (place d 3), .int .i64 (place (wrap64 (d.tdiv 3)) 3), .int .i64 (place (wrap64 (e.tdiv 5)) 4), .bool false] := by rw [← hW]; exact (by simpa using Blk.new (w.alloc (.cells #[.int .i64 0, .int .i64 0, .int .i64 0, .int .i64 0, .int .i64 0, .int .i64 0, .int .i64 0, .int .i64 0, .int .i64 0, .int .i64 0, .int .i64 0, .int .i64 0, .bool false] 32)) 32 #[.int .i64 (4 + pa), .int .i64 (1 + place b 8), .int .i64 2, .int .i64 0, .int .i64 0, .int .i64 0, .int .i64 0, .int .i64 (1 + place c 6), .int .i64 (1 + place (wrap64 (c.tdiv 7)) 8), .int .i64 (place d 3), .int .i64 (place (wrap64 (d.tdiv 3)) 3), .int .i64 (place (wrap64 (e.tdiv 5)) 4), .bool false] : Blk _ (w.heap.size + 1) 32 _)
        have hR : Blk W w.heap.size 32 #[.int .i64 0, .int .i64 0, .int .i64 0, .int .i64 0, .int .i64 0, .int .i64 0, .int .i64 0, .int .i64 0, .int .i64 0, .int .i64 0, .int .i64 0, .int .i64 0, .bool false] := by rw [← hW]; exact ((Blk.new w 32 #[.int .i64 0, .int .i64 0, .int .i64 0, .int .i64 0, .int .i64 0, .int .i64 0, .int .i64 0, .int .i64 0, .int .i64 0, .int .i64 0, .int .i64 0, .int .i64 0, .bool false]).alloc _).drewN _
        have hC : Chg [] w W := by rw [← hW]; exact (((Chg.refl [] w).alloc _).alloc _).drewN _
        clear hW
        generalize hgg : w.heap.size + 1 = gg at hG ⊢
        generalize hgr : w.heap.size = gr at hR ⊢
        have hgr2 : gr ∉ ([] : List Nat) := by simp
        have hne : gr ≠ gg := by omega
        have hge : w.heap.size ≤ gr ∧ w.heap.size ≤ gg := by omega
        clear hgg hgr hgr2
        have x3 := hG.some_ (i := 3) rfl
        have z3 := hG.frozen 3
        have x4 := hG.some_ (i := 4) rfl
        have z4 := hG.frozen 4
        have hG1 := hG.set_ 3 (.int .i64 n0)
        have hR1 := hR.far (p := ⟨gg, 3, none⟩) hne (.int .i64 n0)
        have hC1 := hC.setCell (p := ⟨gg, 3, none⟩) (.inr hge.2) (.int .i64 n0)
        have K1 := hid (And.intro hG1 (And.intro hR1 hC1))
        clear hG hR hC hG1 hR1 hC1
        go_wp2_with fail
        rw [rounds_succ]
        go_wp2_with fail
        go_quiet ((go_at_call 16; exact Calls.quiet_of_same ((place_any _ _ _ (by omega) (by omega)).mono fun r w' h => ⟨h.1, h.2.symm⟩)))
        rw [Hn1.out]
        obtain ⟨hG, hR, hC⟩ := K1.out
        clear K1 x3 z3 x4 z4
        generalize hW2 : World.drewN _ _ = W2
        have hG2 := hG.drewN nq
        have hR2 := hR.drewN nq
        have hC2 := hC.drewN nq
        rw [hW2] at hG2 hR2 hC2
        clear hW2 hG hR hC
        have g0 := hG2.some_ (i := 0) rfl
        have g1 := hG2.some_ (i := 1) rfl
        have g2 := hG2.some_ (i := 2) rfl
        have g3 := hG2.some_ (i := 3) rfl
        have g4 := hG2.some_ (i := 4) rfl
        have g5 := hG2.some_ (i := 5) rfl
        have g6 := hG2.some_ (i := 6) rfl
        have g7 := hG2.some_ (i := 7) rfl
        have g8 := hG2.some_ (i := 8) rfl
        have g9 := hG2.some_ (i := 9) rfl
        have g10 := hG2.some_ (i := 10) rfl
        have g11 := hG2.some_ (i := 11) rfl
        have g12 := hG2.some_ (i := 12) rfl
        have y0 := hR2.some_ (i := 0) rfl
        have y1 := hR2.some_ (i := 1) rfl
        have y2 := hR2.some_ (i := 2) rfl
        have y3 := hR2.some_ (i := 3) rfl
        have y4 := hR2.some_ (i := 4) rfl
        have y5 := hR2.some_ (i := 5) rfl
        have y6 := hR2.some_ (i := 6) rfl
        have y7 := hR2.some_ (i := 7) rfl
        have y8 := hR2.some_ (i := 8) rfl
        have y9 := hR2.some_ (i := 9) rfl
        have y10 := hR2.some_ (i := 10) rfl
        have y11 := hR2.some_ (i := 11) rfl
        have y12 := hR2.some_ (i := 12) rfl
        have z0 := hR2.frozen 0
        have z1 := hR2.frozen 1
        have z2 := hR2.frozen 2
        have z3 := hR2.frozen 3
        have z4 := hR2.frozen 4
        have z5 := hR2.frozen 5
        have z6 := hR2.frozen 6
        have z7 := hR2.frozen 7
        have z8 := hR2.frozen 8
        have z9 := hR2.frozen 9
        have z10 := hR2.frozen 10
        have z11 := hR2.frozen 11
        have z12 := hR2.frozen 12
        have t4 := hG2.frozen 4
        have hR1 := hR2.far (p := ⟨gg, 4, none⟩) hne (.int .i64 2)
        have hC1 := hC2.setCell (p := ⟨gg, 4, none⟩) (.inr hge.2) (.int .i64 2)
        have K1 := hid (And.intro (((((((((((((hR1.set_ 0 (.int .i64 (4 + pa))).set_ 1 (.int .i64 (1 + place b 8))).set_ 2 (.int .i64 2)).set_ 3 (.int .i64 n0)).set_ 4 (.int .i64 2)).set_ 5 (.int .i64 0)).set_ 6 (.int .i64 0)).set_ 7 (.int .i64 (1 + place c 6))).set_ 8 (.int .i64 (1 + place (wrap64 (c.tdiv 7)) 8))).set_ 9 (.int .i64 (place d 3))).set_ 10 (.int .i64 (place (wrap64 (d.tdiv 3)) 3))).set_ 11 (.int .i64 (place (wrap64 (e.tdiv 5)) 4))).set_ 12 (.bool false)) (((((((((((((hC1.setCell (p := ⟨gr, 0, none⟩) (.inr hge.1) (.int .i64 (4 + pa))).setCell (p := ⟨gr, 1, none⟩) (.inr hge.1) (.int .i64 (1 + place b 8))).setCell (p := ⟨gr, 2, none⟩) (.inr hge.1) (.int .i64 2)).setCell (p := ⟨gr, 3, none⟩) (.inr hge.1) (.int .i64 n0)).setCell (p := ⟨gr, 4, none⟩) (.inr hge.1) (.int .i64 2)).setCell (p := ⟨gr, 5, none⟩) (.inr hge.1) (.int .i64 0)).setCell (p := ⟨gr, 6, none⟩) (.inr hge.1) (.int .i64 0)).setCell (p := ⟨gr, 7, none⟩) (.inr hge.1) (.int .i64 (1 + place c 6))).setCell (p := ⟨gr, 8, none⟩) (.inr hge.1) (.int .i64 (1 + place (wrap64 (c.tdiv 7)) 8))).setCell (p := ⟨gr, 9, none⟩) (.inr hge.1) (.int .i64 (place d 3))).setCell (p := ⟨gr, 10, none⟩) (.inr hge.1) (.int .i64 (place (wrap64 (d.tdiv 3)) 3))).setCell (p := ⟨gr, 11, none⟩) (.inr hge.1) (.int .i64 (place (wrap64 (e.tdiv 5)) 4))).setCell (p := ⟨gr, 12, none⟩) (.inr hge.1) (.bool false)))
        clear hG2 hR2 hC2 hR1 hC1
        go_wp2_with fail
        rw [rounds_succ]
        go_wp2_with fail
        obtain ⟨hR, hC⟩ := K1.out
        generalize hW3 : World.setCell _ _ _ = W3 at hR hC ⊢
        clear hW3 K1 g0 g1 g2 g3 g4 g5 g6 g7 g8 g9 g10 g11 g12 y0 y1 y2 y3 y4 y5 y6 y7 y8 y9 y10 y11 y12 z0 z1 z2 z3 z4 z5 z6 z7 z8 z9 z10 z11 z12 t4
        rw [set13] at hR
        have y0 : W3.cell? ⟨gr, 0, none⟩ = some (.int .i64 (4 + pa)) := hR.some_ rfl
        have y1 : W3.cell? ⟨gr, 1, none⟩ = some (.int .i64 (1 + place b 8)) := hR.some_ rfl
        have y2 : W3.cell? ⟨gr, 2, none⟩ = some (.int .i64 2) := hR.some_ rfl
        have y3 : W3.cell? ⟨gr, 3, none⟩ = some (.int .i64 n0) := hR.some_ rfl
        have y4 : W3.cell? ⟨gr, 4, none⟩ = some (.int .i64 2) := hR.some_ rfl
        have y5 : W3.cell? ⟨gr, 5, none⟩ = some (.int .i64 0) := hR.some_ rfl
        have y6 : W3.cell? ⟨gr, 6, none⟩ = some (.int .i64 0) := hR.some_ rfl
        have y7 : W3.cell? ⟨gr, 7, none⟩ = some (.int .i64 (1 + place c 6)) := hR.some_ rfl
        have y8 : W3.cell? ⟨gr, 8, none⟩ = some (.int .i64 (1 + place (wrap64 (c.tdiv 7)) 8)) := hR.some_ rfl
        have y9 : W3.cell? ⟨gr, 9, none⟩ = some (.int .i64 (place d 3)) := hR.some_ rfl
        have y10 : W3.cell? ⟨gr, 10, none⟩ = some (.int .i64 (place (wrap64 (d.tdiv 3)) 3)) := hR.some_ rfl
        have y11 : W3.cell? ⟨gr, 11, none⟩ = some (.int .i64 (place (wrap64 (e.tdiv 5)) 4)) := hR.some_ rfl
        have y12 : W3.cell? ⟨gr, 12, none⟩ = some (.bool false) := hR.some_ rfl
        exact bodyPost_ret (v := .agg #[.int .i64 (4 + pa), .int .i64 (1 + place b 8), .int .i64 2, .int .i64 n0, .int .i64 2, .int .i64 0, .int .i64 0, .int .i64 (1 + place c 6), .int .i64 (1 + place (wrap64 (c.tdiv 7)) 8), .int .i64 (place d 3), .int .i64 (place (wrap64 (d.tdiv 3)) 3), .int .i64 (place (wrap64 (e.tdiv 5)) 4), .bool false]) (by simp [results, Try.results73, go_sem, y0, y1, y2, y3, y4, y5, y6, y7, y8, y9, y10, y11, y12]) rfl ⟨rfl, hC⟩
    · rw [show min n0 2 = 2 by omega] at hn1 b1 ⊢
      have Hn1 := hid hn1
      clear hn1
      by_cases h3 : n1 ≤ 2
      · rw [show min n1 2 = n1 by omega]
        go_enter Try.func73, Try.ntmps73
        go_wp2_with (go_at_call 16; refine (place_any _ _ _ (by omega) (by omega)).mono ?_; rintro r w' ⟨rfl, rfl⟩; try (first | rw [← Ha.out] | rw [He5.out]))
        refine wp_loop_rounds 3 ?_
        rw [rounds_succ]
        go_wp2_with fail
        go_quiet ((go_at_call 16; exact Calls.quiet_of_same ((place_any _ _ _ (by omega) (by omega)).mono fun r w' h => ⟨h.1, h.2.symm⟩)))
        rw [Hn0.out]
        generalize hW : World.drewN _ _ = W
        have hG : Blk W (w.heap.size + 1) 32 #[.int .i64 (4 + pa), .int .i64 (1 + place b 8), .int .i64 2, .int .i64 0, .int .i64 0, .int .i64 0, .int .i64 0, .int .i64 (1 + place c 6), .int .i64 (1 + place (wrap64 (c.tdiv 7)) 8), .int .i64 (place d 3), .int .i64 (place (wrap64 (d.tdiv 3)) 3), .int .i64 (place (wrap64 (e.tdiv 5)) 4), .bool false] := by rw [← hW]; exact (by simpa using Blk.new (w.alloc (.cells #[.int .i64 0, .int .i64 0, .int .i64 0, .int .i64 0, .int .i64 0, .int .i64 0, .int .i64 0, .int .i64 0, .int .i64 0, .int .i64 0, .int .i64 0, .int .i64 0, .bool false] 32)) 32 #[.int .i64 (4 + pa), .int .i64 (1 + place b 8), .int .i64 2, .int .i64 0, .int .i64 0, .int .i64 0, .int .i64 0, .int .i64 (1 + place c 6), .int .i64 (1 + place (wrap64 (c.tdiv 7)) 8), .int .i64 (place d 3), .int .i64 (place (wrap64 (d.tdiv 3)) 3), .int .i64 (place (wrap64 (e.tdiv 5)) 4), .bool false] : Blk _ (w.heap.size + 1) 32 _)
        have hR : Blk W w.heap.size 32 #[.int .i64 0, .int .i64 0, .int .i64 0, .int .i64 0, .int .i64 0, .int .i64 0, .int .i64 0, .int .i64 0, .int .i64 0, .int .i64 0, .int .i64 0, .int .i64 0, .bool false] := by rw [← hW]; exact ((Blk.new w 32 #[.int .i64 0, .int .i64 0, .int .i64 0, .int .i64 0, .int .i64 0, .int .i64 0, .int .i64 0, .int .i64 0, .int .i64 0, .int .i64 0, .int .i64 0, .int .i64 0, .bool false]).alloc _).drewN _
        have hC : Chg [] w W := by rw [← hW]; exact (((Chg.refl [] w).alloc _).alloc _).drewN _
        clear hW
        generalize hgg : w.heap.size + 1 = gg at hG ⊢
        generalize hgr : w.heap.size = gr at hR ⊢
        have hgr2 : gr ∉ ([] : List Nat) := by simp
        have hne : gr ≠ gg := by omega
        have hge : w.heap.size ≤ gr ∧ w.heap.size ≤ gg := by omega
        clear hgg hgr hgr2
        have x3 := hG.some_ (i := 3) rfl
        have z3 := hG.frozen 3
        have x4 := hG.some_ (i := 4) rfl
        have z4 := hG.frozen 4
        have hG1 := hG.set_ 3 (.int .i64 2)
        have hR1 := hR.far (p := ⟨gg, 3, none⟩) hne (.int .i64 2)
        have hC1 := hC.setCell (p := ⟨gg, 3, none⟩) (.inr hge.2) (.int .i64 2)
        have K1 := hid (And.intro hG1 (And.intro hR1 hC1))
        clear hG hR hC hG1 hR1 hC1
        go_wp2_with fail
        rw [rounds_succ]
        go_wp2_with fail
        go_quiet ((go_at_call 16; exact Calls.quiet_of_same ((place_any _ _ _ (by omega) (by omega)).mono fun r w' h => ⟨h.1, h.2.symm⟩)))
        rw [Hn1.out]
        obtain ⟨hG, hR, hC⟩ := K1.out
        clear K1 x3 z3 x4 z4
        generalize hW2 : World.drewN _ _ = W2
        have hG2 := hG.drewN nq
        have hR2 := hR.drewN nq
        have hC2 := hC.drewN nq
        rw [hW2] at hG2 hR2 hC2
        clear hW2 hG hR hC
        have g0 := hG2.some_ (i := 0) rfl
        have g1 := hG2.some_ (i := 1) rfl
        have g2 := hG2.some_ (i := 2) rfl
        have g3 := hG2.some_ (i := 3) rfl
        have g4 := hG2.some_ (i := 4) rfl
        have g5 := hG2.some_ (i := 5) rfl
        have g6 := hG2.some_ (i := 6) rfl
        have g7 := hG2.some_ (i := 7) rfl
        have g8 := hG2.some_ (i := 8) rfl
        have g9 := hG2.some_ (i := 9) rfl
        have g10 := hG2.some_ (i := 10) rfl
        have g11 := hG2.some_ (i := 11) rfl
        have g12 := hG2.some_ (i := 12) rfl
        have y0 := hR2.some_ (i := 0) rfl
        have y1 := hR2.some_ (i := 1) rfl
        have y2 := hR2.some_ (i := 2) rfl
        have y3 := hR2.some_ (i := 3) rfl
        have y4 := hR2.some_ (i := 4) rfl
        have y5 := hR2.some_ (i := 5) rfl
        have y6 := hR2.some_ (i := 6) rfl
        have y7 := hR2.some_ (i := 7) rfl
        have y8 := hR2.some_ (i := 8) rfl
        have y9 := hR2.some_ (i := 9) rfl
        have y10 := hR2.some_ (i := 10) rfl
        have y11 := hR2.some_ (i := 11) rfl
        have y12 := hR2.some_ (i := 12) rfl
        have z0 := hR2.frozen 0
        have z1 := hR2.frozen 1
        have z2 := hR2.frozen 2
        have z3 := hR2.frozen 3
        have z4 := hR2.frozen 4
        have z5 := hR2.frozen 5
        have z6 := hR2.frozen 6
        have z7 := hR2.frozen 7
        have z8 := hR2.frozen 8
        have z9 := hR2.frozen 9
        have z10 := hR2.frozen 10
        have z11 := hR2.frozen 11
        have z12 := hR2.frozen 12
        have t4 := hG2.frozen 4
        have hR1 := hR2.far (p := ⟨gg, 4, none⟩) hne (.int .i64 n1)
        have hC1 := hC2.setCell (p := ⟨gg, 4, none⟩) (.inr hge.2) (.int .i64 n1)
        have K1 := hid (And.intro (((((((((((((hR1.set_ 0 (.int .i64 (4 + pa))).set_ 1 (.int .i64 (1 + place b 8))).set_ 2 (.int .i64 2)).set_ 3 (.int .i64 2)).set_ 4 (.int .i64 n1)).set_ 5 (.int .i64 0)).set_ 6 (.int .i64 0)).set_ 7 (.int .i64 (1 + place c 6))).set_ 8 (.int .i64 (1 + place (wrap64 (c.tdiv 7)) 8))).set_ 9 (.int .i64 (place d 3))).set_ 10 (.int .i64 (place (wrap64 (d.tdiv 3)) 3))).set_ 11 (.int .i64 (place (wrap64 (e.tdiv 5)) 4))).set_ 12 (.bool false)) (((((((((((((hC1.setCell (p := ⟨gr, 0, none⟩) (.inr hge.1) (.int .i64 (4 + pa))).setCell (p := ⟨gr, 1, none⟩) (.inr hge.1) (.int .i64 (1 + place b 8))).setCell (p := ⟨gr, 2, none⟩) (.inr hge.1) (.int .i64 2)).setCell (p := ⟨gr, 3, none⟩) (.inr hge.1) (.int .i64 2)).setCell (p := ⟨gr, 4, none⟩) (.inr hge.1) (.int .i64 n1)).setCell (p := ⟨gr, 5, none⟩) (.inr hge.1) (.int .i64 0)).setCell (p := ⟨gr, 6, none⟩) (.inr hge.1) (.int .i64 0)).setCell (p := ⟨gr, 7, none⟩) (.inr hge.1) (.int .i64 (1 + place c 6))).setCell (p := ⟨gr, 8, none⟩) (.inr hge.1) (.int .i64 (1 + place (wrap64 (c.tdiv 7)) 8))).setCell (p := ⟨gr, 9, none⟩) (.inr hge.1) (.int .i64 (place d 3))).setCell (p := ⟨gr, 10, none⟩) (.inr hge.1) (.int .i64 (place (wrap64 (d.tdiv 3)) 3))).setCell (p := ⟨gr, 11, none⟩) (.inr hge.1) (.int .i64 (place (wrap64 (e.tdiv 5)) 4))).setCell (p := ⟨gr, 12, none⟩) (.inr hge.1) (.bool false)))
        clear hG2 hR2 hC2 hR1 hC1
        go_wp2_with fail
        rw [rounds_succ]
        go_wp2_with fail
        obtain ⟨hR, hC⟩ := K1.out
        generalize hW3 : World.setCell _ _ _ = W3 at hR hC ⊢
        clear hW3 K1 g0 g1 g2 g3 g4 g5 g6 g7 g8 g9 g10 g11 g12 y0 y1 y2 y3 y4 y5 y6 y7 y8 y9 y10 y11 y12 z0 z1 z2 z3 z4 z5 z6 z7 z8 z9 z10 z11 z12 t4
        rw [set13] at hR
        have y0 : W3.cell? ⟨gr, 0, none⟩ = some (.int .i64 (4 + pa)) := hR.some_ rfl
        have y1 : W3.cell? ⟨gr, 1, none⟩ = some (.int .i64 (1 + place b 8)) := hR.some_ rfl
        have y2 : W3.cell? ⟨gr, 2, none⟩ = some (.int .i64 2) := hR.some_ rfl
        have y3 : W3.cell? ⟨gr, 3, none⟩ = some (.int .i64 2) := hR.some_ rfl
        have y4 : W3.cell? ⟨gr, 4, none⟩ = some (.int .i64 n1) := hR.some_ rfl
        have y5 : W3.cell? ⟨gr, 5, none⟩ = some (.int .i64 0) := hR.some_ rfl
        have y6 : W3.cell? ⟨gr, 6, none⟩ = some (.int .i64 0) := hR.some_ rfl
        have y7 : W3.cell? ⟨gr, 7, none⟩ = some (.int .i64 (1 + place c 6)) := hR.some_ rfl
        have y8 : W3.cell? ⟨gr, 8, none⟩ = some (.int .i64 (1 + place (wrap64 (c.tdiv 7)) 8)) := hR.some_ rfl
        have y9 : W3.cell? ⟨gr, 9, none⟩ = some (.int .i64 (place d 3)) := hR.some_ rfl
        have y10 : W3.cell? ⟨gr, 10, none⟩ = some (.int .i64 (place (wrap64 (d.tdiv 3)) 3)) := hR.some_ rfl
        have y11 : W3.cell? ⟨gr, 11, none⟩ = some (.int .i64 (place (wrap64 (e.tdiv 5)) 4)) := hR.some_ rfl
        have y12 : W3.cell? ⟨gr, 12, none⟩ = some (.bool false) := hR.some_ rfl
        exact bodyPost_ret (v := .agg #[.int .i64 (4 + pa), .int .i64 (1 + place b 8), .int .i64 2, .int .i64 2, .int .i64 n1, .int .i64 0, .int .i64 0, .int .i64 (1 + place c 6), .int .i64 (1 + place (wrap64 (c.tdiv 7)) 8), .int .i64 (place d 3), .int .i64 (place (wrap64 (d.tdiv 3)) 3), .int .i64 (place (wrap64 (e.tdiv 5)) 4), .bool false]) (by simp [results, Try.results73, go_sem, y0, y1, y2, y3, y4, y5, y6, y7, y8, y9, y10, y11, y12]) rfl ⟨rfl, hC⟩
      · rw [show min n1 2 = 2 by omega]
        go_enter Try.func73, Try.ntmps73
        go_wp2_with (go_at_call 16; refine (place_any _ _ _ (by omega) (by omega)).mono ?_; rintro r w' ⟨rfl, rfl⟩; try (first | rw [← Ha.out] | rw [He5.out]))
        refine wp_loop_rounds 3 ?_
        rw [rounds_succ]
        go_wp2_with fail
        go_quiet ((go_at_call 16; exact Calls.quiet_of_same ((place_any _ _ _ (by omega) (by omega)).mono fun r w' h => ⟨h.1, h.2.symm⟩)))
        rw [Hn0.out]
        generalize hW : World.drewN _ _ = W
        have hG : Blk W (w.heap.size + 1) 32 #[.int .i64 (4 + pa), .int .i64 (1 + place b 8), .int .i64 2, .int .i64 0, .int .i64 0, .int .i64 0, .int .i64 0, .int .i64 (1 + place c 6), .int .i64 (1 + place (wrap64 (c.tdiv 7)) 8), .int .i64 (place d 3), .int .i64 (place (wrap64 (d.tdiv 3)) 3), .int .i64 (place (wrap64 (e.tdiv 5)) 4), .bool false] := by rw [← hW]; exact (by simpa using Blk.new (w.alloc (.cells #[.int .i64 0, .int .i64 0, .int .i64 0, .int .i64 0, .int .i64 0, .int .i64 0, .int .i64 0, .int .i64 0, .int .i64 0, .int .i64 0, .int .i64 0, .int .i64 0, .bool false] 32)) 32 #[.int .i64 (4 + pa), .int .i64 (1 + place b 8), .int .i64 2, .int .i64 0, .int .i64 0, .int .i64 0, .int .i64 0, .int .i64 (1 + place c 6), .int .i64 (1 + place (wrap64 (c.tdiv 7)) 8), .int .i64 (place d 3), .int .i64 (place (wrap64 (d.tdiv 3)) 3), .int .i64 (place (wrap64 (e.tdiv 5)) 4), .bool false] : Blk _ (w.heap.size + 1) 32 _)
        have hR : Blk W w.heap.size 32 #[.int .i64 0, .int .i64 0, .int .i64 0, .int .i64 0, .int .i64 0, .int .i64 0, .int .i64 0, .int .i64 0, .int .i64 0, .int .i64 0, .int .i64 0, .int .i64 0, .bool false] := by rw [← hW]; exact ((Blk.new w 32 #[.int .i64 0, .int .i64 0, .int .i64 0, .int .i64 0, .int .i64 0, .int .i64 0, .int .i64 0, .int .i64 0, .int .i64 0, .int .i64 0, .int .i64 0, .int .i64 0, .bool false]).alloc _).drewN _
        have hC : Chg [] w W := by rw [← hW]; exact (((Chg.refl [] w).alloc _).alloc _).drewN _
        clear hW
        generalize hgg : w.heap.size + 1 = gg at hG ⊢
        generalize hgr : w.heap.size = gr at hR ⊢
        have hgr2 : gr ∉ ([] : List Nat) := by simp
        have hne : gr ≠ gg := by omega
        have hge : w.heap.size ≤ gr ∧ w.heap.size ≤ gg := by omega
        clear hgg hgr hgr2
        have x3 := hG.some_ (i := 3) rfl
        have z3 := hG.frozen 3
        have x4 := hG.some_ (i := 4) rfl
        have z4 := hG.frozen 4
        have hG1 := hG.set_ 3 (.int .i64 2)
        have hR1 := hR.far (p := ⟨gg, 3, none⟩) hne (.int .i64 2)
        have hC1 := hC.setCell (p := ⟨gg, 3, none⟩) (.inr hge.2) (.int .i64 2)
        have K1 := hid (And.intro hG1 (And.intro hR1 hC1))
        clear hG hR hC hG1 hR1 hC1
        go_wp2_with fail
        rw [rounds_succ]
        go_wp2_with fail
        go_quiet ((go_at_call 16; exact Calls.quiet_of_same ((place_any _ _ _ (by omega) (by omega)).mono fun r w' h => ⟨h.1, h.2.symm⟩)))
        rw [Hn1.out]
        obtain ⟨hG, hR, hC⟩ := K1.out
        clear K1 x3 z3 x4 z4
        generalize hW2 : World.drewN _ _ = W2
        have hG2 := hG.drewN nq
        have hR2 := hR.drewN nq
        have hC2 := hC.drewN nq
        rw [hW2] at hG2 hR2 hC2
        clear hW2 hG hR hC
        have g0 := hG2.some_ (i := 0) rfl
        have g1 := hG2.some_ (i := 1) rfl
        have g2 := hG2.some_ (i := 2) rfl
        have g3 := hG2.some_ (i := 3) rfl
        have g4 := hG2.some_ (i := 4) rfl
        have g5 := hG2.some_ (i := 5) rfl
        have g6 := hG2.some_ (i := 6) rfl
        have g7 := hG2.some_ (i := 7) rfl
        have g8 := hG2.some_ (i := 8) rfl
        have g9 := hG2.some_ (i := 9) rfl
        have g10 := hG2.some_ (i := 10) rfl
        have g11 := hG2.some_ (i := 11) rfl
        have g12 := hG2.some_ (i := 12) rfl
        have y0 := hR2.some_ (i := 0) rfl
        have y1 := hR2.some_ (i := 1) rfl
        have y2 := hR2.some_ (i := 2) rfl
        have y3 := hR2.some_ (i := 3) rfl
        have y4 := hR2.some_ (i := 4) rfl
        have y5 := hR2.some_ (i := 5) rfl
        have y6 := hR2.some_ (i := 6) rfl
        have y7 := hR2.some_ (i := 7) rfl
        have y8 := hR2.some_ (i := 8) rfl
        have y9 := hR2.some_ (i := 9) rfl
        have y10 := hR2.some_ (i := 10) rfl
        have y11 := hR2.some_ (i := 11) rfl
        have y12 := hR2.some_ (i := 12) rfl
        have z0 := hR2.frozen 0
        have z1 := hR2.frozen 1
        have z2 := hR2.frozen 2
        have z3 := hR2.frozen 3
        have z4 := hR2.frozen 4
        have z5 := hR2.frozen 5
        have z6 := hR2.frozen 6
        have z7 := hR2.frozen 7
        have z8 := hR2.frozen 8
        have z9 := hR2.frozen 9
        have z10 := hR2.frozen 10
        have z11 := hR2.frozen 11
        have z12 := hR2.frozen 12
        have t4 := hG2.frozen 4
        have hR1 := hR2.far (p := ⟨gg, 4, none⟩) hne (.int .i64 2)
        have hC1 := hC2.setCell (p := ⟨gg, 4, none⟩) (.inr hge.2) (.int .i64 2)
        have K1 := hid (And.intro (((((((((((((hR1.set_ 0 (.int .i64 (4 + pa))).set_ 1 (.int .i64 (1 + place b 8))).set_ 2 (.int .i64 2)).set_ 3 (.int .i64 2)).set_ 4 (.int .i64 2)).set_ 5 (.int .i64 0)).set_ 6 (.int .i64 0)).set_ 7 (.int .i64 (1 + place c 6))).set_ 8 (.int .i64 (1 + place (wrap64 (c.tdiv 7)) 8))).set_ 9 (.int .i64 (place d 3))).set_ 10 (.int .i64 (place (wrap64 (d.tdiv 3)) 3))).set_ 11 (.int .i64 (place (wrap64 (e.tdiv 5)) 4))).set_ 12 (.bool false)) (((((((((((((hC1.setCell (p := ⟨gr, 0, none⟩) (.inr hge.1) (.int .i64 (4 + pa))).setCell (p := ⟨gr, 1, none⟩) (.inr hge.1) (.int .i64 (1 + place b 8))).setCell (p := ⟨gr, 2, none⟩) (.inr hge.1) (.int .i64 2)).setCell (p := ⟨gr, 3, none⟩) (.inr hge.1) (.int .i64 2)).setCell (p := ⟨gr, 4, none⟩) (.inr hge.1) (.int .i64 2)).setCell (p := ⟨gr, 5, none⟩) (.inr hge.1) (.int .i64 0)).setCell (p := ⟨gr, 6, none⟩) (.inr hge.1) (.int .i64 0)).setCell (p := ⟨gr, 7, none⟩) (.inr hge.1) (.int .i64 (1 + place c 6))).setCell (p := ⟨gr, 8, none⟩) (.inr hge.1) (.int .i64 (1 + place (wrap64 (c.tdiv 7)) 8))).setCell (p := ⟨gr, 9, none⟩) (.inr hge.1) (.int .i64 (place d 3))).setCell (p := ⟨gr, 10, none⟩) (.inr hge.1) (.int .i64 (place (wrap64 (d.tdiv 3)) 3))).setCell (p := ⟨gr, 11, none⟩) (.inr hge.1) (.int .i64 (place (wrap64 (e.tdiv 5)) 4))).setCell (p := ⟨gr, 12, none⟩) (.inr hge.1) (.bool false)))
        clear hG2 hR2 hC2 hR1 hC1
        go_wp2_with fail
        rw [rounds_succ]
        go_wp2_with fail
        obtain ⟨hR, hC⟩ := K1.out
        generalize hW3 : World.setCell _ _ _ = W3 at hR hC ⊢
        clear hW3 K1 g0 g1 g2 g3 g4 g5 g6 g7 g8 g9 g10 g11 g12 y0 y1 y2 y3 y4 y5 y6 y7 y8 y9 y10 y11 y12 z0 z1 z2 z3 z4 z5 z6 z7 z8 z9 z10 z11 z12 t4
        rw [set13] at hR
        have y0 : W3.cell? ⟨gr, 0, none⟩ = some (.int .i64 (4 + pa)) := hR.some_ rfl
        have y1 : W3.cell? ⟨gr, 1, none⟩ = some (.int .i64 (1 + place b 8)) := hR.some_ rfl
        have y2 : W3.cell? ⟨gr, 2, none⟩ = some (.int .i64 2) := hR.some_ rfl
        have y3 : W3.cell? ⟨gr, 3, none⟩ = some (.int .i64 2) := hR.some_ rfl
        have y4 : W3.cell? ⟨gr, 4, none⟩ = some (.int .i64 2) := hR.some_ rfl
        have y5 : W3.cell? ⟨gr, 5, none⟩ = some (.int .i64 0) := hR.some_ rfl
        have y6 : W3.cell? ⟨gr, 6, none⟩ = some (.int .i64 0) := hR.some_ rfl
        have y7 : W3.cell? ⟨gr, 7, none⟩ = some (.int .i64 (1 + place c 6)) := hR.some_ rfl
        have y8 : W3.cell? ⟨gr, 8, none⟩ = some (.int .i64 (1 + place (wrap64 (c.tdiv 7)) 8)) := hR.some_ rfl
        have y9 : W3.cell? ⟨gr, 9, none⟩ = some (.int .i64 (place d 3)) := hR.some_ rfl
        have y10 : W3.cell? ⟨gr, 10, none⟩ = some (.int .i64 (place (wrap64 (d.tdiv 3)) 3)) := hR.some_ rfl
        have y11 : W3.cell? ⟨gr, 11, none⟩ = some (.int .i64 (place (wrap64 (e.tdiv 5)) 4)) := hR.some_ rfl
        have y12 : W3.cell? ⟨gr, 12, none⟩ = some (.bool false) := hR.some_ rfl
        exact bodyPost_ret (v := .agg #[.int .i64 (4 + pa), .int .i64 (1 + place b 8), .int .i64 2, .int .i64 2, .int .i64 2, .int .i64 0, .int .i64 0, .int .i64 (1 + place c 6), .int .i64 (1 + place (wrap64 (c.tdiv 7)) 8), .int .i64 (place d 3), .int .i64 (place (wrap64 (d.tdiv 3)) 3), .int .i64 (place (wrap64 (e.tdiv 5)) 4), .bool false]) (by simp [results, Try.results73, go_sem, y0, y1, y2, y3, y4, y5, y6, y7, y8, y9, y10, y11, y12]) rfl ⟨rfl, hC⟩
  · have He5 : Hid ((place e 5 == 0) = false) := hid (by simpa using he5)
    rw [if_neg he5]
    have He6 := hid he5
    clear he5
    by_cases h2 : n0 ≤ 2
    · rw [show min n0 2 = n0 by omega] at hn1 b1 ⊢
      have Hn1 := hid hn1
      clear hn1
      by_cases h3 : n1 ≤ 2
      · rw [show min n1 2 = n1 by omega]
        go_enter Try.func73, Try.ntmps73
        obtain ⟨e5, hq5⟩ : ∃ x, x = place e 5 := ⟨_, rfl⟩
        have He5q := hid hq5
        have hb5 := He5.out
        rw [← hq5] at hb5
        clear hq5
        go_wp2_with (go_at_call 16; refine (place_any _ _ _ (by omega) (by omega)).mono ?_; rintro r w' ⟨rfl, rfl⟩; try (first | rw [← Ha.out] | rw [← He5q.out]))
        clear hb5
        refine wp_loop_rounds 3 ?_
        rw [rounds_succ]
        go_wp2_with fail
        go_quiet ((go_at_call 16; exact Calls.quiet_of_same ((place_any _ _ _ (by omega) (by omega)).mono fun r w' h => ⟨h.1, h.2.symm⟩)))
        rw [Hn0.out]
        generalize hW : World.drewN _ _ = W
        have hG : Blk W (w.heap.size + 1) 32 #[.int .i64 (4 + pa), .int .i64 (1 + place b 8), .int .i64 2, .int .i64 0, .int .i64 0, .int .i64 0, .int .i64 0, .int .i64 (1 + place c 6), .int .i64 (1 + place (wrap64 (c.tdiv 7)) 8), .int .i64 (place d 3), .int .i64 (place (wrap64 (d.tdiv 3)) 3), .int .i64 50, .bool false] := by rw [← hW]; exact (by simpa using Blk.new (w.alloc (.cells #[.int .i64 0, .int .i64 0, .int .i64 0, .int .i64 0, .int .i64 0, .int .i64 0, .int .i64 0, .int .i64 0, .int .i64 0, .int .i64 0, .int .i64 0, .int .i64 0, .bool false] 32)) 32 #[.int .i64 (4 + pa), .int .i64 (1 + place b 8), .int .i64 2, .int .i64 0, .int .i64 0, .int .i64 0, .int .i64 0, .int .i64 (1 + place c 6), .int .i64 (1 + place (wrap64 (c.tdiv 7)) 8), .int .i64 (place d 3), .int .i64 (place (wrap64 (d.tdiv 3)) 3), .int .i64 50, .bool false] : Blk _ (w.heap.size + 1) 32 _)
        have hR : Blk W w.heap.size 32 #[.int .i64 0, .int .i64 0, .int .i64 0, .int .i64 0, .int .i64 0, .int .i64 0, .int .i64 0, .int .i64 0, .int .i64 0, .int .i64 0, .int .i64 0, .int .i64 0, .bool false] := by rw [← hW]; exact ((Blk.new w 32 #[.int .i64 0, .int .i64 0, .int .i64 0, .int .i64 0, .int .i64 0, .int .i64 0, .int .i64 0, .int .i64 0, .int .i64 0, .int .i64 0, .int .i64 0, .int .i64 0, .bool false]).alloc _).drewN _
        have hC : Chg [] w W := by rw [← hW]; exact (((Chg.refl [] w).alloc _).alloc _).drewN _
        clear hW
        generalize hgg : w.heap.size + 1 = gg at hG ⊢
        generalize hgr : w.heap.size = gr at hR ⊢
        have hgr2 : gr ∉ ([] : List Nat) := by simp
        have hne : gr ≠ gg := by omega
        have hge : w.heap.size ≤ gr ∧ w.heap.size ≤ gg := by omega
        clear hgg hgr hgr2
        have x3 := hG.some_ (i := 3) rfl
        have z3 := hG.frozen 3
        have x4 := hG.some_ (i := 4) rfl
        have z4 := hG.frozen 4
        have hG1 := hG.set_ 3 (.int .i64 n0)
        have hR1 := hR.far (p := ⟨gg, 3, none⟩) hne (.int .i64 n0)
        have hC1 := hC.setCell (p := ⟨gg, 3, none⟩) (.inr hge.2) (.int .i64 n0)
        have K1 := hid (And.intro hG1 (And.intro hR1 hC1))
        clear hG hR hC hG1 hR1 hC1
        go_wp2_with fail
        rw [rounds_succ]
        go_wp2_with fail
        go_quiet ((go_at_call 16; exact Calls.quiet_of_same ((place_any _ _ _ (by omega) (by omega)).mono fun r w' h => ⟨h.1, h.2.symm⟩)))
        rw [Hn1.out]
        obtain ⟨hG, hR, hC⟩ := K1.out
        clear K1 x3 z3 x4 z4
        generalize hW2 : World.drewN _ _ = W2
        have hG2 := hG.drewN nq
        have hR2 := hR.drewN nq
        have hC2 := hC.drewN nq
        rw [hW2] at hG2 hR2 hC2
        clear hW2 hG hR hC
        have g0 := hG2.some_ (i := 0) rfl
        have g1 := hG2.some_ (i := 1) rfl
        have g2 := hG2.some_ (i := 2) rfl
        have g3 := hG2.some_ (i := 3) rfl
        have g4 := hG2.some_ (i := 4) rfl
        have g5 := hG2.some_ (i := 5) rfl
        have g6 := hG2.some_ (i := 6) rfl
        have g7 := hG2.some_ (i := 7) rfl
        have g8 := hG2.some_ (i := 8) rfl
        have g9 := hG2.some_ (i := 9) rfl
        have g10 := hG2.some_ (i := 10) rfl
        have g11 := hG2.some_ (i := 11) rfl
        have g12 := hG2.some_ (i := 12) rfl
        have y0 := hR2.some_ (i := 0) rfl
        have y1 := hR2.some_ (i := 1) rfl
        have y2 := hR2.some_ (i := 2) rfl
        have y3 := hR2.some_ (i := 3) rfl
        have y4 := hR2.some_ (i := 4) rfl
        have y5 := hR2.some_ (i := 5) rfl
        have y6 := hR2.some_ (i := 6) rfl
        have y7 := hR2.some_ (i := 7) rfl
        have y8 := hR2.some_ (i := 8) rfl
        have y9 := hR2.some_ (i := 9) rfl
        have y10 := hR2.some_ (i := 10) rfl
        have y11 := hR2.some_ (i := 11) rfl
        have y12 := hR2.some_ (i := 12) rfl
        have z0 := hR2.frozen 0
        have z1 := hR2.frozen 1
        have z2 := hR2.frozen 2
        have z3 := hR2.frozen 3
        have z4 := hR2.frozen 4
        have z5 := hR2.frozen 5
        have z6 := hR2.frozen 6
        have z7 := hR2.frozen 7
        have z8 := hR2.frozen 8
        have z9 := hR2.frozen 9
        have z10 := hR2.frozen 10
        have z11 := hR2.frozen 11
        have z12 := hR2.frozen 12
        have t4 := hG2.frozen 4
        have hR1 := hR2.far (p := ⟨gg, 4, none⟩) hne (.int .i64 n1)
        have hC1 := hC2.setCell (p := ⟨gg, 4, none⟩) (.inr hge.2) (.int .i64 n1)
        have K1 := hid (And.intro (((((((((((((hR1.set_ 0 (.int .i64 (4 + pa))).set_ 1 (.int .i64 (1 + place b 8))).set_ 2 (.int .i64 2)).set_ 3 (.int .i64 n0)).set_ 4 (.int .i64 n1)).set_ 5 (.int .i64 0)).set_ 6 (.int .i64 0)).set_ 7 (.int .i64 (1 + place c 6))).set_ 8 (.int .i64 (1 + place (wrap64 (c.tdiv 7)) 8))).set_ 9 (.int .i64 (place d 3))).set_ 10 (.int .i64 (place (wrap64 (d.tdiv 3)) 3))).set_ 11 (.int .i64 50)).set_ 12 (.bool false)) (((((((((((((hC1.setCell (p := ⟨gr, 0, none⟩) (.inr hge.1) (.int .i64 (4 + pa))).setCell (p := ⟨gr, 1, none⟩) (.inr hge.1) (.int .i64 (1 + place b 8))).setCell (p := ⟨gr, 2, none⟩) (.inr hge.1) (.int .i64 2)).setCell (p := ⟨gr, 3, none⟩) (.inr hge.1) (.int .i64 n0)).setCell (p := ⟨gr, 4, none⟩) (.inr hge.1) (.int .i64 n1)).setCell (p := ⟨gr, 5, none⟩) (.inr hge.1) (.int .i64 0)).setCell (p := ⟨gr, 6, none⟩) (.inr hge.1) (.int .i64 0)).setCell (p := ⟨gr, 7, none⟩) (.inr hge.1) (.int .i64 (1 + place c 6))).setCell (p := ⟨gr, 8, none⟩) (.inr hge.1) (.int .i64 (1 + place (wrap64 (c.tdiv 7)) 8))).setCell (p := ⟨gr, 9, none⟩) (.inr hge.1) (.int .i64 (place d 3))).setCell (p := ⟨gr, 10, none⟩) (.inr hge.1) (.int .i64 (place (wrap64 (d.tdiv 3)) 3))).setCell (p := ⟨gr, 11, none⟩) (.inr hge.1) (.int .i64 50)).setCell (p := ⟨gr, 12, none⟩) (.inr hge.1) (.bool false)))
        clear hG2 hR2 hC2 hR1 hC1
        go_wp2_with fail
        rw [rounds_succ]
        go_wp2_with fail
        obtain ⟨hR, hC⟩ := K1.out
        generalize hW3 : World.setCell _ _ _ = W3 at hR hC ⊢
        clear hW3 K1 g0 g1 g2 g3 g4 g5 g6 g7 g8 g9 g10 g11 g12 y0 y1 y2 y3 y4 y5 y6 y7 y8 y9 y10 y11 y12 z0 z1 z2 z3 z4 z5 z6 z7 z8 z9 z10 z11 z12 t4
        rw [set13] at hR
        have y0 : W3.cell? ⟨gr, 0, none⟩ = some (.int .i64 (4 + pa)) := hR.some_ rfl
        have y1 : W3.cell? ⟨gr, 1, none⟩ = some (.int .i64 (1 + place b 8)) := hR.some_ rfl
        have y2 : W3.cell? ⟨gr, 2, none⟩ = some (.int .i64 2) := hR.some_ rfl
        have y3 : W3.cell? ⟨gr, 3, none⟩ = some (.int .i64 n0) := hR.some_ rfl
        have y4 : W3.cell? ⟨gr, 4, none⟩ = some (.int .i64 n1) := hR.some_ rfl
        have y5 : W3.cell? ⟨gr, 5, none⟩ = some (.int .i64 0) := hR.some_ rfl
        have y6 : W3.cell? ⟨gr, 6, none⟩ = some (.int .i64 0) := hR.some_ rfl
        have y7 : W3.cell? ⟨gr, 7, none⟩ = some (.int .i64 (1 + place c 6)) := hR.some_ rfl
        have y8 : W3.cell? ⟨gr, 8, none⟩ = some (.int .i64 (1 + place (wrap64 (c.tdiv 7)) 8)) := hR.some_ rfl
        have y9 : W3.cell? ⟨gr, 9, none⟩ = some (.int .i64 (place d 3)) := hR.some_ rfl
        have y10 : W3.cell? ⟨gr, 10, none⟩ = some (.int .i64 (place (wrap64 (d.tdiv 3)) 3)) := hR.some_ rfl
        have y11 : W3.cell? ⟨gr, 11, none⟩ = some (.int .i64 50) := hR.some_ rfl
        have y12 : W3.cell? ⟨gr, 12, none⟩ = some (.bool false) := hR.some_ rfl
        exact bodyPost_ret (v := .agg #[.int .i64 (4 + pa), .int .i64 (1 + place b 8), .int .i64 2, .int .i64 n0, .int .i64 n1, .int .i64 0, .int .i64 0, .int .i64 (1 + place c 6), .int .i64 (1 + place (wrap64 (c.tdiv 7)) 8), .int .i64 (place d 3), .int .i64 (place (wrap64 (d.tdiv 3)) 3), .int .i64 50, .bool false]) (by simp [results, Try.results73, go_sem, y0, y1, y2, y3, y4, y5, y6, y7, y8, y9, y10, y11, y12]) rfl ⟨rfl, hC⟩
      · rw [show min n1 2 = 2 by omega]
        go_enter Try.func73, Try.ntmps73
        obtain ⟨e5, hq5⟩ : ∃ x, x = place e 5 := ⟨_, rfl⟩
        have He5q := hid hq5
        have hb5 := He5.out
        rw [← hq5] at hb5
        clear hq5
        go_wp2_with (go_at_call 16; refine (place_any _ _ _ (by omega) (by omega)).mono ?_; rintro r w' ⟨rfl, rfl⟩; try (first | rw [← Ha.out] | rw [← He5q.out]))
        clear hb5
        refine wp_loop_rounds 3 ?_
        rw [rounds_succ]
        go_wp2_with fail
        go_quiet ((go_at_call 16; exact Calls.quiet_of_same ((place_any _ _ _ (by omega) (by omega)).mono fun r w' h => ⟨h.1, h.2.symm⟩)))
        rw [Hn0.out]
        generalize hW : World.drewN _ _ = W
        have hG : Blk W (w.heap.size + 1) 32 #[.int .i64 (4 + pa), .int .i64 (1 + place b 8), .int .i64 2, .int .i64 0, .int .i64 0, .int .i64 0, .int .i64 0, .int .i64 (1 + place c 6), .int .i64 (1 + place (wrap64 (c.tdiv 7)) 8), .int .i64 (place d 3), .int .i64 (place (wrap64 (d.tdiv 3)) 3), .int .i64 50, .bool false] := by rw [← hW]; exact (by simpa using Blk.new (w.alloc (.cells #[.int .i64 0, .int .i64 0, .int .i64 0, .int .i64 0, .int .i64 0, .int .i64 0, .int .i64 0, .int .i64 0, .int .i64 0, .int .i64 0, .int .i64 0, .int .i64 0, .bool false] 32)) 32 #[.int .i64 (4 + pa), .int .i64 (1 + place b 8), .int .i64 2, .int .i64 0, .int .i64 0, .int .i64 0, .int .i64 0, .int .i64 (1 + place c 6), .int .i64 (1 + place (wrap64 (c.tdiv 7)) 8), .int .i64 (place d 3), .int .i64 (place (wrap64 (d.tdiv 3)) 3), .int .i64 50, .bool false] : Blk _ (w.heap.size + 1) 32 _)
        have hR : Blk W w.heap.size 32 #[.int .i64 0, .int .i64 0, .int .i64 0, .int .i64 0, .int .i64 0, .int .i64 0, .int .i64 0, .int .i64 0, .int .i64 0, .int .i64 0, .int .i64 0, .int .i64 0, .bool false] := by rw [← hW]; exact ((Blk.new w 32 #[.int .i64 0, .int .i64 0, .int .i64 0, .int .i64 0, .int .i64 0, .int .i64 0, .int .i64 0, .int .i64 0, .int .i64 0, .int .i64 0, .int .i64 0, .int .i64 0, .bool false]).alloc _).drewN _
        have hC : Chg [] w W := by rw [← hW]; exact (((Chg.refl [] w).alloc _).alloc _).drewN _
        clear hW
        generalize hgg : w.heap.size + 1 = gg at hG ⊢
        generalize hgr : w.heap.size = gr at hR ⊢
        have hgr2 : gr ∉ ([] : List Nat) := by simp
        have hne : gr ≠ gg := by omega
        have hge : w.heap.size ≤ gr ∧ w.heap.size ≤ gg := by omega
        clear hgg hgr hgr2
        have x3 := hG.some_ (i := 3) rfl
        have z3 := hG.frozen 3
        have x4 := hG.some_ (i := 4) rfl
        have z4 := hG.frozen 4
        have hG1 := hG.set_ 3 (.int .i64 n0)
        have hR1 := hR.far (p := ⟨gg, 3, none⟩) hne (.int .i64 n0)
        have hC1 := hC.setCell (p := ⟨gg, 3, none⟩) (.inr hge.2) (.int .i64 n0)
        have K1 := hid (And.intro hG1 (And.intro hR1 hC1))
        clear hG hR hC hG1 hR1 hC1
        go_wp2_with fail
        rw [rounds_succ]
        go_wp2_with fail
        go_quiet ((go_at_call 16; exact Calls.quiet_of_same ((place_any _ _ _ (by omega) (by omega)).mono fun r w' h => ⟨h.1, h.2.symm⟩)))
        rw [Hn1.out]
        obtain ⟨hG, hR, hC⟩ := K1.out
        clear K1 x3 z3 x4 z4
        generalize hW2 : World.drewN _ _ = W2
        have hG2 := hG.drewN nq
        have hR2 := hR.drewN nq
        have hC2 := hC.drewN nq
        rw [hW2] at hG2 hR2 hC2
        clear hW2 hG hR hC
        have g0 := hG2.some_ (i := 0) rfl
        have g1 := hG2.some_ (i := 1) rfl
        have g2 := hG2.some_ (i := 2) rfl
        have g3 := hG2.some_ (i := 3) rfl
        have g4 := hG2.some_ (i := 4) rfl
        have g5 := hG2.some_ (i := 5) rfl
        have g6 := hG2.some_ (i := 6) rfl
        have g7 := hG2.some_ (i := 7) rfl
        have g8 := hG2.some_ (i := 8) rfl
        have g9 := hG2.some_ (i := 9) rfl
        have g10 := hG2.some_ (i := 10) rfl
        have g11 := hG2.some_ (i := 11) rfl
        have g12 := hG2.some_ (i := 12) rfl
        have y0 := hR2.some_ (i := 0) rfl
        have y1 := hR2.some_ (i := 1) rfl
        have y2 := hR2.some_ (i := 2) rfl
        have y3 := hR2.some_ (i := 3) rfl
        have y4 := hR2.some_ (i := 4) rfl
        have y5 := hR2.some_ (i := 5) rfl
        have y6 := hR2.some_ (i := 6) rfl
        have y7 := hR2.some_ (i := 7) rfl
        have y8 := hR2.some_ (i := 8) rfl
        have y9 := hR2.some_ (i := 9) rfl
        have y10 := hR2.some_ (i := 10) rfl
        have y11 := hR2.some_ (i := 11) rfl
        have y12 := hR2.some_ (i := 12) rfl
        have z0 := hR2.frozen 0
        have z1 := hR2.frozen 1
        have z2 := hR2.frozen 2
        have z3 := hR2.frozen 3
        have z4 := hR2.frozen 4
        have z5 := hR2.frozen 5
        have z6 := hR2.frozen 6
        have z7 := hR2.frozen 7
        have z8 := hR2.frozen 8
        have z9 := hR2.frozen 9
        have z10 := hR2.frozen 10
        have z11 := hR2.frozen 11
        have z12 := hR2.frozen 12
        have t4 := hG2.frozen 4
        have hR1 := hR2.far (p := ⟨gg, 4, none⟩) hne (.int .i64 2)
        have hC1 := hC2.setCell (p := ⟨gg, 4, none⟩) (.inr hge.2) (.int .i64 2)
        have K1 := hid (And.intro (((((((((((((hR1.set_ 0 (.int .i64 (4 + pa))).set_ 1 (.int .i64 (1 + place b 8))).set_ 2 (.int .i64 2)).set_ 3 (.int .i64 n0)).set_ 4 (.int .i64 2)).set_ 5 (.int .i64 0)).set_ 6 (.int .i64 0)).set_ 7 (.int .i64 (1 + place c 6))).set_ 8 (.int .i64 (1 + place (wrap64 (c.tdiv 7)) 8))).set_ 9 (.int .i64 (place d 3))).set_ 10 (.int .i64 (place (wrap64 (d.tdiv 3)) 3))).set_ 11 (.int .i64 50)).set_ 12 (.bool false)) (((((((((((((hC1.setCell (p := ⟨gr, 0, none⟩) (.inr hge.1) (.int .i64 (4 + pa))).setCell (p := ⟨gr, 1, none⟩) (.inr hge.1) (.int .i64 (1 + place b 8))).setCell (p := ⟨gr, 2, none⟩) (.inr hge.1) (.int .i64 2)).setCell (p := ⟨gr, 3, none⟩) (.inr hge.1) (.int .i64 n0)).setCell (p := ⟨gr, 4, none⟩) (.inr hge.1) (.int .i64 2)).setCell (p := ⟨gr, 5, none⟩) (.inr hge.1) (.int .i64 0)).setCell (p := ⟨gr, 6, none⟩) (.inr hge.1) (.int .i64 0)).setCell (p := ⟨gr, 7, none⟩) (.inr hge.1) (.int .i64 (1 + place c 6))).setCell (p := ⟨gr, 8, none⟩) (.inr hge.1) (.int .i64 (1 + place (wrap64 (c.tdiv 7)) 8))).setCell (p := ⟨gr, 9, none⟩) (.inr hge.1) (.int .i64 (place d 3))).setCell (p := ⟨gr, 10, none⟩) (.inr hge.1) (.int .i64 (place (wrap64 (d.tdiv 3)) 3))).setCell (p := ⟨gr, 11, none⟩) (.inr hge.1) (.int .i64 50)).setCell (p := ⟨gr, 12, none⟩) (.inr hge.1) (.bool false)))
        clear hG2 hR2 hC2 hR1 hC1
        go_wp2_with fail
        rw [rounds_succ]
        go_wp2_with fail
        obtain ⟨hR, hC⟩ := K1.out
        generalize hW3 : World.setCell _ _ _ = W3 at hR hC ⊢
        clear hW3 K1 g0 g1 g2 g3 g4 g5 g6 g7 g8 g9 g10 g11 g12 y0 y1 y2 y3 y4 y5 y6 y7 y8 y9 y10 y11 y12 z0 z1 z2 z3 z4 z5 z6 z7 z8 z9 z10 z11 z12 t4
        rw [set13] at hR
        have y0 : W3.cell? ⟨gr, 0, none⟩ = some (.int .i64 (4 + pa)) := hR.some_ rfl
        have y1 : W3.cell? ⟨gr, 1, none⟩ = some (.int .i64 (1 + place b 8)) := hR.some_ rfl
        have y2 : W3.cell? ⟨gr, 2, none⟩ = some (.int .i64 2) := hR.some_ rfl
        have y3 : W3.cell? ⟨gr, 3, none⟩ = some (.int .i64 n0) := hR.some_ rfl
        have y4 : W3.cell? ⟨gr, 4, none⟩ = some (.int .i64 2) := hR.some_ rfl
        have y5 : W3.cell? ⟨gr, 5, none⟩ = some (.int .i64 0) := hR.some_ rfl
        have y6 : W3.cell? ⟨gr, 6, none⟩ = some (.int .i64 0) := hR.some_ rfl
        have y7 : W3.cell? ⟨gr, 7, none⟩ = some (.int .i64 (1 + place c 6)) := hR.some_ rfl
        have y8 : W3.cell? ⟨gr, 8, none⟩ = some (.int .i64 (1 + place (wrap64 (c.tdiv 7)) 8)) := hR.some_ rfl
        have y9 : W3.cell? ⟨gr, 9, none⟩ = some (.int .i64 (place d 3)) := hR.some_ rfl
        have y10 : W3.cell? ⟨gr, 10, none⟩ = some (.int .i64 (place (wrap64 (d.tdiv 3)) 3)) := hR.some_ rfl
        have y11 : W3.cell? ⟨gr, 11, none⟩ = some (.int .i64 50) := hR.some_ rfl
        have y12 : W3.cell? ⟨gr, 12, none⟩ = some (.bool false) := hR.some_ rfl
        exact bodyPost_ret (v := .agg #[.int .i64 (4 + pa), .int .i64 (1 + place b 8), .int .i64 2, .int .i64 n0, .int .i64 2, .int .i64 0, .int .i64 0, .int .i64 (1 + place c 6), .int .i64 (1 + place (wrap64 (c.tdiv 7)) 8), .int .i64 (place d 3), .int .i64 (place (wrap64 (d.tdiv 3)) 3), .int .i64 50, .bool false]) (by simp [results, Try.results73, go_sem, y0, y1, y2, y3, y4, y5, y6, y7, y8, y9, y10, y11, y12]) rfl ⟨rfl, hC⟩
    · rw [show min n0 2 = 2 by omega] at hn1 b1 ⊢
      have Hn1 := hid hn1
      clear hn1
      by_cases h3 : n1 ≤ 2
      · rw [show min n1 2 = n1 by omega]
        go_enter Try.func73, Try.ntmps73
        obtain ⟨e5, hq5⟩ : ∃ x, x = place e 5 := ⟨_, rfl⟩
        have He5q := hid hq5
        have hb5 := He5.out
        rw [← hq5] at hb5
        clear hq5
        go_wp2_with (go_at_call 16; refine (place_any _ _ _ (by omega) (by omega)).mono ?_; rintro r w' ⟨rfl, rfl⟩; try (first | rw [← Ha.out] | rw [← He5q.out]))
        clear hb5
        refine wp_loop_rounds 3 ?_
        rw [rounds_succ]
        go_wp2_with fail
        go_quiet ((go_at_call 16; exact Calls.quiet_of_same ((place_any _ _ _ (by omega) (by omega)).mono fun r w' h => ⟨h.1, h.2.symm⟩)))
        rw [Hn0.out]
        generalize hW : World.drewN _ _ = W
        have hG : Blk W (w.heap.size + 1) 32 #[.int .i64 (4 + pa), .int .i64 (1 + place b 8), .int .i64 2, .int .i64 0, .int .i64 0, .int .i64 0, .int .i64 0, .int .i64 (1 + place c 6), .int .i64 (1 + place (wrap64 (c.tdiv 7)) 8), .int .i64 (place d 3), .int .i64 (place (wrap64 (d.tdiv 3)) 3), .int .i64 50, .bool false] := by rw [← hW]; exact (by simpa using Blk.new (w.alloc (.cells #[.int .i64 0, .int .i64 0, .int .i64 0, .int .i64 0, .int .i64 0, .int .i64 0, .int .i64 0, .int .i64 0, .int .i64 0, .int .i64 0, .int .i64 0, .int .i64 0, .bool false] 32)) 32 #[.int .i64 (4 + pa), .int .i64 (1 + place b 8), .int .i64 2, .int .i64 0, .int .i64 0, .int .i64 0, .int .i64 0, .int .i64 (1 + place c 6), .int .i64 (1 + place (wrap64 (c.tdiv 7)) 8), .int .i64 (place d 3), .int .i64 (place (wrap64 (d.tdiv 3)) 3), .int .i64 50, .bool false] : Blk _ (w.heap.size + 1) 32 _)
        have hR : Blk W w.heap.size 32 #[.int .i64 0, .int .i64 0, .int .i64 0, .int .i64 0, .int .i64 0, .int .i64 0, .int .i64 0, .int .i64 0, .int .i64 0, .int .i64 0, .int .i64 0, .int .i64 0, .bool false] := by rw [← hW]; exact ((Blk.new w 32 #[.int .i64 0, .int .i64 0, .int .i64 0, .int .i64 0, .int .i64 0, .int .i64 0, .int .i64 0, .int .i64 0, .int .i64 0, .int .i64 0, .int .i64 0, .int .i64 0, .bool false]).alloc _).drewN _
        have hC : Chg [] w W := by rw [← hW]; exact (((Chg.refl [] w).alloc _).alloc _).drewN _
        clear hW
        generalize hgg : w.heap.size + 1 = gg at hG ⊢
        generalize hgr : w.heap.size = gr at hR ⊢
        have hgr2 : gr ∉ ([] : List Nat) := by simp
        have hne : gr ≠ gg := by omega
        have hge : w.heap.size ≤ gr ∧ w.heap.size ≤ gg := by omega
        clear hgg hgr hgr2
        have x3 := hG.some_ (i := 3) rfl
        have z3 := hG.frozen 3
        have x4 := hG.some_ (i := 4) rfl
        have z4 := hG.frozen 4
        have hG1 := hG.set_ 3 (.int .i64 2)
        have hR1 := hR.far (p := ⟨gg, 3, none⟩) hne (.int .i64 2)
        have hC1 := hC.setCell (p := ⟨gg, 3, none⟩) (.inr hge.2) (.int .i64 2)
        have K1 := hid (And.intro hG1 (And.intro hR1 hC1))
        clear hG hR hC hG1 hR1 hC1
        go_wp2_with fail
        rw [rounds_succ]
        go_wp2_with fail
        go_quiet ((go_at_call 16; exact Calls.quiet_of_same ((place_any _ _ _ (by omega) (by omega)).mono fun r w' h => ⟨h.1, h.2.symm⟩)))
        rw [Hn1.out]
        obtain ⟨hG, hR, hC⟩ := K1.out
        clear K1 x3 z3 x4 z4
        generalize hW2 : World.drewN _ _ = W2
        have hG2 := hG.drewN nq
        have hR2 := hR.drewN nq
        have hC2 := hC.drewN nq
        rw [hW2] at hG2 hR2 hC2
        clear hW2 hG hR hC
        have g0 := hG2.some_ (i := 0) rfl
        have g1 := hG2.some_ (i := 1) rfl
        have g2 := hG2.some_ (i := 2) rfl
        have g3 := hG2.some_ (i := 3) rfl
        have g4 := hG2.some_ (i := 4) rfl
        have g5 := hG2.some_ (i := 5) rfl
        have g6 := hG2.some_ (i := 6) rfl
        have g7 := hG2.some_ (i := 7) rfl
        have g8 := hG2.some_ (i := 8) rfl
        have g9 := hG2.some_ (i := 9) rfl
        have g10 := hG2.some_ (i := 10) rfl
        have g11 := hG2.some_ (i := 11) rfl
        have g12 := hG2.some_ (i := 12) rfl
        have y0 := hR2.some_ (i := 0) rfl
        have y1 := hR2.some_ (i := 1) rfl
        have y2 := hR2.some_ (i := 2) rfl
        have y3 := hR2.some_ (i := 3) rfl
        have y4 := hR2.some_ (i := 4) rfl
        have y5 := hR2.some_ (i := 5) rfl
        have y6 := hR2.some_ (i := 6) rfl
        have y7 := hR2.some_ (i := 7) rfl
        have y8 := hR2.some_ (i := 8) rfl
        have y9 := hR2.some_ (i := 9) rfl
        have y10 := hR2.some_ (i := 10) rfl
        have y11 := hR2.some_ (i := 11) rfl
        have y12 := hR2.some_ (i := 12) rfl
        have z0 := hR2.frozen 0
        have z1 := hR2.frozen 1
        have z2 := hR2.frozen 2
        have z3 := hR2.frozen 3
        have z4 := hR2.frozen 4
        have z5 := hR2.frozen 5
        have z6 := hR2.frozen 6
        have z7 := hR2.frozen 7
        have z8 := hR2.frozen 8
        have z9 := hR2.frozen 9
        have z10 := hR2.frozen 10
        have z11 := hR2.frozen 11
        have z12 := hR2.frozen 12
        have t4 := hG2.frozen 4
        have hR1 := hR2.far (p := ⟨gg, 4, none⟩) hne (.int .i64 n1)
        have hC1 := hC2.setCell (p := ⟨gg, 4, none⟩) (.inr hge.2) (.int .i64 n1)
        have K1 := hid (And.intro (((((((((((((hR1.set_ 0 (.int .i64 (4 + pa))).set_ 1 (.int .i64 (1 + place b 8))).set_ 2 (.int .i64 2)).set_ 3 (.int .i64 2)).set_ 4 (.int .i64 n1)).set_ 5 (.int .i64 0)).set_ 6 (.int .i64 0)).set_ 7 (.int .i64 (1 + place c 6))).set_ 8 (.int .i64 (1 + place (wrap64 (c.tdiv 7)) 8))).set_ 9 (.int .i64 (place d 3))).set_ 10 (.int .i64 (place (wrap64 (d.tdiv 3)) 3))).set_ 11 (.int .i64 50)).set_ 12 (.bool false)) (((((((((((((hC1.setCell (p := ⟨gr, 0, none⟩) (.inr hge.1) (.int .i64 (4 + pa))).setCell (p := ⟨gr, 1, none⟩) (.inr hge.1) (.int .i64 (1 + place b 8))).setCell (p := ⟨gr, 2, none⟩) (.inr hge.1) (.int .i64 2)).setCell (p := ⟨gr, 3, none⟩) (.inr hge.1) (.int .i64 2)).setCell (p := ⟨gr, 4, none⟩) (.inr hge.1) (.int .i64 n1)).setCell (p := ⟨gr, 5, none⟩) (.inr hge.1) (.int .i64 0)).setCell (p := ⟨gr, 6, none⟩) (.inr hge.1) (.int .i64 0)).setCell (p := ⟨gr, 7, none⟩) (.inr hge.1) (.int .i64 (1 + place c 6))).setCell (p := ⟨gr, 8, none⟩) (.inr hge.1) (.int .i64 (1 + place (wrap64 (c.tdiv 7)) 8))).setCell (p := ⟨gr, 9, none⟩) (.inr hge.1) (.int .i64 (place d 3))).setCell (p := ⟨gr, 10, none⟩) (.inr hge.1) (.int .i64 (place (wrap64 (d.tdiv 3)) 3))).setCell (p := ⟨gr, 11, none⟩) (.inr hge.1) (.int .i64 50)).setCell (p := ⟨gr, 12, none⟩) (.inr hge.1) (.bool false)))
        clear hG2 hR2 hC2 hR1 hC1
        go_wp2_with fail
        rw [rounds_succ]
        go_wp2_with fail
        obtain ⟨hR, hC⟩ := K1.out
        generalize hW3 : World.setCell _ _ _ = W3 at hR hC ⊢
        clear hW3 K1 g0 g1 g2 g3 g4 g5 g6 g7 g8 g9 g10 g11 g12 y0 y1 y2 y3 y4 y5 y6 y7 y8 y9 y10 y11 y12 z0 z1 z2 z3 z4 z5 z6 z7 z8 z9 z10 z11 z12 t4
        rw [set13] at hR
        have y0 : W3.cell? ⟨gr, 0, none⟩ = some (.int .i64 (4 + pa)) := hR.some_ rfl
        have y1 : W3.cell? ⟨gr, 1, none⟩ = some (.int .i64 (1 + place b 8)) := hR.some_ rfl
        have y2 : W3.cell? ⟨gr, 2, none⟩ = some (.int .i64 2) := hR.some_ rfl
        have y3 : W3.cell? ⟨gr, 3, none⟩ = some (.int .i64 2) := hR.some_ rfl
        have y4 : W3.cell? ⟨gr, 4, none⟩ = some (.int .i64 n1) := hR.some_ rfl
        have y5 : W3.cell? ⟨gr, 5, none⟩ = some (.int .i64 0) := hR.some_ rfl
        have y6 : W3.cell? ⟨gr, 6, none⟩ = some (.int .i64 0) := hR.some_ rfl
        have y7 : W3.cell? ⟨gr, 7, none⟩ = some (.int .i64 (1 + place c 6)) := hR.some_ rfl
        have y8 : W3.cell? ⟨gr, 8, none⟩ = some (.int .i64 (1 + place (wrap64 (c.tdiv 7)) 8)) := hR.some_ rfl
        have y9 : W3.cell? ⟨gr, 9, none⟩ = some (.int .i64 (place d 3)) := hR.some_ rfl
        have y10 : W3.cell? ⟨gr, 10, none⟩ = some (.int .i64 (place (wrap64 (d.tdiv 3)) 3)) := hR.some_ rfl
        have y11 : W3.cell? ⟨gr, 11, none⟩ = some (.int .i64 50) := hR.some_ rfl
        have y12 : W3.cell? ⟨gr, 12, none⟩ = some (.bool false) := hR.some_ rfl
        exact bodyPost_ret (v := .agg #[.int .i64 (4 + pa), .int .i64 (1 + place b 8), .int .i64 2, .int .i64 2, .int .i64 n1, .int .i64 0, .int .i64 0, .int .i64 (1 + place c 6), .int .i64 (1 + place (wrap64 (c.tdiv 7)) 8), .int .i64 (place d 3), .int .i64 (place (wrap64 (d.tdiv 3)) 3), .int .i64 50, .bool false]) (by simp [results, Try.results73, go_sem, y0, y1, y2, y3, y4, y5, y6, y7, y8, y9, y10, y11, y12]) rfl ⟨rfl, hC⟩
      · rw [show min n1 2 = 2 by omega]
        go_enter Try.func73, Try.ntmps73
        obtain ⟨e5, hq5⟩ : ∃ x, x = place e 5 := ⟨_, rfl⟩
        have He5q := hid hq5
        have hb5 := He5.out
        rw [← hq5] at hb5
        clear hq5
        go_wp2_with (go_at_call 16; refine (place_any _ _ _ (by omega) (by omega)).mono ?_; rintro r w' ⟨rfl, rfl⟩; try (first | rw [← Ha.out] | rw [← He5q.out]))
        clear hb5
        refine wp_loop_rounds 3 ?_
        rw [rounds_succ]
        go_wp2_with fail
        go_quiet ((go_at_call 16; exact Calls.quiet_of_same ((place_any _ _ _ (by omega) (by omega)).mono fun r w' h => ⟨h.1, h.2.symm⟩)))
        rw [Hn0.out]
        generalize hW : World.drewN _ _ = W
        have hG : Blk W (w.heap.size + 1) 32 #[.int .i64 (4 + pa), .int .i64 (1 + place b 8), .int .i64 2, .int .i64 0, .int .i64 0, .int .i64 0, .int .i64 0, .int .i64 (1 + place c 6), .int .i64 (1 + place (wrap64 (c.tdiv 7)) 8), .int .i64 (place d 3), .int .i64 (place (wrap64 (d.tdiv 3)) 3), .int .i64 50, .bool false] := by rw [← hW]; exact (by simpa using Blk.new (w.alloc (.cells #[.int .i64 0, .int .i64 0, .int .i64 0, .int .i64 0, .int .i64 0, .int .i64 0, .int .i64 0, .int .i64 0, .int .i64 0, .int .i64 0, .int .i64 0, .int .i64 0, .bool false] 32)) 32 #[.int .i64 (4 + pa), .int .i64 (1 + place b 8), .int .i64 2, .int .i64 0, .int .i64 0, .int .i64 0, .int .i64 0, .int .i64 (1 + place c 6), .int .i64 (1 + place (wrap64 (c.tdiv 7)) 8), .int .i64 (place d 3), .int .i64 (place (wrap64 (d.tdiv 3)) 3), .int .i64 50, .bool false] : Blk _ (w.heap.size + 1) 32 _)
        have hR : Blk W w.heap.size 32 #[.int .i64 0, .int .i64 0, .int .i64 0, .int .i64 0, .int .i64 0, .int .i64 0, .int .i64 0, .int .i64 0, .int .i64 0, .int .i64 0, .int .i64 0, .int .i64 0, .bool false] := by rw [← hW]; exact ((Blk.new w 32 #[.int .i64 0, .int .i64 0, .int .i64 0, .int .i64 0, .int .i64 0, .int .i64 0, .int .i64 0, .int .i64 0, .int .i64 0, .int .i64 0, .int .i64 0, .int .i64 0, .bool false]).alloc _).drewN _
        have hC : Chg [] w W := by rw [← hW]; exact (((Chg.refl [] w).alloc _).alloc _).drewN _
        clear hW
        generalize hgg : w.heap.size + 1 = gg at hG ⊢
        generalize hgr : w.heap.size = gr at hR ⊢
        have hgr2 : gr ∉ ([] : List Nat) := by simp
        have hne : gr ≠ gg := by omega
        have hge : w.heap.size ≤ gr ∧ w.heap.size ≤ gg := by omega
        clear hgg hgr hgr2
        have x3 := hG.some_ (i := 3) rfl
        have z3 := hG.frozen 3
        have x4 := hG.some_ (i := 4) rfl
        have z4 := hG.frozen 4
        have hG1 := hG.set_ 3 (.int .i64 2)
        have hR1 := hR.far (p := ⟨gg, 3, none⟩) hne (.int .i64 2)
        have hC1 := hC.setCell (p := ⟨gg, 3, none⟩) (.inr hge.2) (.int .i64 2)
        have K1 := hid (And.intro hG1 (And.intro hR1 hC1))
        clear hG hR hC hG1 hR1 hC1
        go_wp2_with fail
        rw [rounds_succ]
        go_wp2_with fail
        go_quiet ((go_at_call 16; exact Calls.quiet_of_same ((place_any _ _ _ (by omega) (by omega)).mono fun r w' h => ⟨h.1, h.2.symm⟩)))
        rw [Hn1.out]
        obtain ⟨hG, hR, hC⟩ := K1.out
        clear K1 x3 z3 x4 z4
        generalize hW2 : World.drewN _ _ = W2
        have hG2 := hG.drewN nq
        have hR2 := hR.drewN nq
        have hC2 := hC.drewN nq
        rw [hW2] at hG2 hR2 hC2
        clear hW2 hG hR hC
        have g0 := hG2.some_ (i := 0) rfl
        have g1 := hG2.some_ (i := 1) rfl
        have g2 := hG2.some_ (i := 2) rfl
        have g3 := hG2.some_ (i := 3) rfl
        have g4 := hG2.some_ (i := 4) rfl
        have g5 := hG2.some_ (i := 5) rfl
        have g6 := hG2.some_ (i := 6) rfl
        have g7 := hG2.some_ (i := 7) rfl
        have g8 := hG2.some_ (i := 8) rfl
        have g9 := hG2.some_ (i := 9) rfl
        have g10 := hG2.some_ (i := 10) rfl
        have g11 := hG2.some_ (i := 11) rfl
        have g12 := hG2.some_ (i := 12) rfl
        have y0 := hR2.some_ (i := 0) rfl
        have y1 := hR2.some_ (i := 1) rfl
        have y2 := hR2.some_ (i := 2) rfl
        have y3 := hR2.some_ (i := 3) rfl
        have y4 := hR2.some_ (i := 4) rfl
        have y5 := hR2.some_ (i := 5) rfl
        have y6 := hR2.some_ (i := 6) rfl
        have y7 := hR2.some_ (i := 7) rfl
        have y8 := hR2.some_ (i := 8) rfl
        have y9 := hR2.some_ (i := 9) rfl
        have y10 := hR2.some_ (i := 10) rfl
        have y11 := hR2.some_ (i := 11) rfl
        have y12 := hR2.some_ (i := 12) rfl
        have z0 := hR2.frozen 0
        have z1 := hR2.frozen 1
        have z2 := hR2.frozen 2
        have z3 := hR2.frozen 3
        have z4 := hR2.frozen 4
        have z5 := hR2.frozen 5
        have z6 := hR2.frozen 6
        have z7 := hR2.frozen 7
        have z8 := hR2.frozen 8
        have z9 := hR2.frozen 9
        have z10 := hR2.frozen 10
        have z11 := hR2.frozen 11
        have z12 := hR2.frozen 12
        have t4 := hG2.frozen 4
        have hR1 := hR2.far (p := ⟨gg, 4, none⟩) hne (.int .i64 2)
        have hC1 := hC2.setCell (p := ⟨gg, 4, none⟩) (.inr hge.2) (.int .i64 2)
        have K1 := hid (And.intro (((((((((((((hR1.set_ 0 (.int .i64 (4 + pa))).set_ 1 (.int .i64 (1 + place b 8))).set_ 2 (.int .i64 2)).set_ 3 (.int .i64 2)).set_ 4 (.int .i64 2)).set_ 5 (.int .i64 0)).set_ 6 (.int .i64 0)).set_ 7 (.int .i64 (1 + place c 6))).set_ 8 (.int .i64 (1 + place (wrap64 (c.tdiv 7)) 8))).set_ 9 (.int .i64 (place d 3))).set_ 10 (.int .i64 (place (wrap64 (d.tdiv 3)) 3))).set_ 11 (.int .i64 50)).set_ 12 (.bool false)) (((((((((((((hC1.setCell (p := ⟨gr, 0, none⟩) (.inr hge.1) (.int .i64 (4 + pa))).setCell (p := ⟨gr, 1, none⟩) (.inr hge.1) (.int .i64 (1 + place b 8))).setCell (p := ⟨gr, 2, none⟩) (.inr hge.1) (.int .i64 2)).setCell (p := ⟨gr, 3, none⟩) (.inr hge.1) (.int .i64 2)).setCell (p := ⟨gr, 4, none⟩) (.inr hge.1) (.int .i64 2)).setCell (p := ⟨gr, 5, none⟩) (.inr hge.1) (.int .i64 0)).setCell (p := ⟨gr, 6, none⟩) (.inr hge.1) (.int .i64 0)).setCell (p := ⟨gr, 7, none⟩) (.inr hge.1) (.int .i64 (1 + place c 6))).setCell (p := ⟨gr, 8, none⟩) (.inr hge.1) (.int .i64 (1 + place (wrap64 (c.tdiv 7)) 8))).setCell (p := ⟨gr, 9, none⟩) (.inr hge.1) (.int .i64 (place d 3))).setCell (p := ⟨gr, 10, none⟩) (.inr hge.1) (.int .i64 (place (wrap64 (d.tdiv 3)) 3))).setCell (p := ⟨gr, 11, none⟩) (.inr hge.1) (.int .i64 50)).setCell (p := ⟨gr, 12, none⟩) (.inr hge.1) (.bool false)))
        clear hG2 hR2 hC2 hR1 hC1
        go_wp2_with fail
        rw [rounds_succ]
        go_wp2_with fail
        obtain ⟨hR, hC⟩ := K1.out
        generalize hW3 : World.setCell _ _ _ = W3 at hR hC ⊢
        clear hW3 K1 g0 g1 g2 g3 g4 g5 g6 g7 g8 g9 g10 g11 g12 y0 y1 y2 y3 y4 y5 y6 y7 y8 y9 y10 y11 y12 z0 z1 z2 z3 z4 z5 z6 z7 z8 z9 z10 z11 z12 t4
        rw [set13] at hR
        have y0 : W3.cell? ⟨gr, 0, none⟩ = some (.int .i64 (4 + pa)) := hR.some_ rfl
        have y1 : W3.cell? ⟨gr, 1, none⟩ = some (.int .i64 (1 + place b 8)) := hR.some_ rfl
        have y2 : W3.cell? ⟨gr, 2, none⟩ = some (.int .i64 2) := hR.some_ rfl
        have y3 : W3.cell? ⟨gr, 3, none⟩ = some (.int .i64 2) := hR.some_ rfl
        have y4 : W3.cell? ⟨gr, 4, none⟩ = some (.int .i64 2) := hR.some_ rfl
        have y5 : W3.cell? ⟨gr, 5, none⟩ = some (.int .i64 0) := hR.some_ rfl
        have y6 : W3.cell? ⟨gr, 6, none⟩ = some (.int .i64 0) := hR.some_ rfl
        have y7 : W3.cell? ⟨gr, 7, none⟩ = some (.int .i64 (1 + place c 6)) := hR.some_ rfl
        have y8 : W3.cell? ⟨gr, 8, none⟩ = some (.int .i64 (1 + place (wrap64 (c.tdiv 7)) 8)) := hR.some_ rfl
        have y9 : W3.cell? ⟨gr, 9, none⟩ = some (.int .i64 (place d 3)) := hR.some_ rfl
        have y10 : W3.cell? ⟨gr, 10, none⟩ = some (.int .i64 (place (wrap64 (d.tdiv 3)) 3)) := hR.some_ rfl
        have y11 : W3.cell? ⟨gr, 11, none⟩ = some (.int .i64 50) := hR.some_ rfl
        have y12 : W3.cell? ⟨gr, 12, none⟩ = some (.bool false) := hR.some_ rfl
        exact bodyPost_ret (v := .agg #[.int .i64 (4 + pa), .int .i64 (1 + place b 8), .int .i64 2, .int .i64 2, .int .i64 2, .int .i64 0, .int .i64 0, .int .i64 (1 + place c 6), .int .i64 (1 + place (wrap64 (c.tdiv 7)) 8), .int .i64 (place d 3), .int .i64 (place (wrap64 (d.tdiv 3)) 3), .int .i64 50, .bool false]) (by simp [results, Try.results73, go_sem, y0, y1, y2, y3, y4, y5, y6, y7, y8, y9, y10, y11, y12]) rfl ⟨rfl, hC⟩
end Go.Proofs.Ytigjpfhjddkckaa
