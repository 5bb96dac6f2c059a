/- strongtxlab.Start. -/
import Derived.Test.YtopcnaakdldkpaaLab
namespace Go.Proofs.Ytopcnaakdldkpaa
open Go.RowKit
set_option linter.unusedVariables false

set_option maxRecDepth 8000 in
set_option maxHeartbeats 4000000 in
theorem lab_start (w0 w : World) (R : Asr) (c : Cfg) (th : Nat) (hok : cfgErr c = 0) (ht : 1 ≤ th ∧ th ≤ 16) (hR : Hold w0 w R) :
    Calls Try.prog 7 #[c.val, .int .i64 th] w (LabPost w0 R c th) := by
  obtain ⟨iU, hiU, hzU0, hzU1, hzU2⟩ := info_parts info_u64
  obtain ⟨n, hn⟩ : ∃ n : Nat, c.words = n := ⟨c.words.toNat, by have := (cfgOk_of hok).w; omega⟩
  have n64 : n ≤ 64 := by have := (cfgOk_of hok).w; omega
  have HC := hid hok
  have Hn := hid hn
  have HT := hid ht
  have r2 := ((hR.nilRow 53).newBlk (t := 32) (cs := c.cells)).newBlk (t := 27) (cs := #[.pointer none, .pointer none])
  have H2 := hid r2
  clear hok hn r2 ht hR
  go_enter Try.func7, Try.ntmps7
  go_wp2_with fail
  have r2 := H2.out
  clear H2
  rw [show (w.alloc (.cells c.cells 32)).heap.size = w.heap.size + 1 by simp] at r2
  generalize hW : World.alloc _ _ = W1 at r2 ⊢
  have hgc := r2.drop.blk.lt
  generalize w.heap.size + 1 = gp at r2 ⊢
  generalize w.heap.size = gc at r2 ⊢
  clear hW hgc
  go_loopw [6, 7] (fun s i wr => ∃ (k : Nat) (A : Option Addr) (cp : Nat), k ≤ n ∧ i = .int .i64 k ∧ s = .slice A k cp ∧ Hold w0 wr (blkA 27 gp #[.pointer none, .pointer none] * (blkA 32 gc c.cells * (numA (.slice A k cp) k (initL k) * R)))) (fun _ i _ => n - (intOf i).toNat)
  case atStart => exact ⟨0, none, 0, by omega, rfl, rfl, r2⟩
  case round =>
    clear r2
    obtain ⟨k, A, cp, hk, rfl, rfl, h5⟩ := hrel
    have d0 : wr.cell? ⟨gc, 0, none⟩ = some (.int .i64 n) := by rw [← Hn.out]; exact h5.drop.blk.some_ rfl
    by_cases hlt : k < n
    · have e1 : decide ((k : Int) < n) = true := decide_eq_true (by omega)
      obtain ⟨D, hD⟩ : ∃ D, D = (initL k).map (Value.int .u64) := ⟨_, rfl⟩
      unfold numA at h5
      rw [← hD] at h5
      have hD2 : D ++ [.int .u64 (10 * (k : Int) + 1)] = (initL (k + 1)).map (Value.int .u64) := by rw [hD]; exact initL_succ k
      have HD2 := hid hD2
      clear hD hD2
      have h6 := h5.third
      go_wp2_with (at_builtin; refine wpList_append1 rfl _ _ 70 rfl 53 iU (.int .u64 0) 8 Try.underlying70 hiU hzU0 hzU1 hzU2 rfl (.slice A k cp) k (D) (.int .u64 (10 * (k : Int) + 1)) _ rfl h6.row rfl rfl (by omega) (by decide) ?_)
      intro A2 c2 W2 ho hc hs
      have h7 := (h6.grow ho hc hs).third'
      rw [HD2.out] at h7
      have H7 := hid h7
      clear h5 h6 h7 ho hc hs d0
      go_wp2_with fail
      go_round
      case rel => exact ⟨k + 1, A2, c2, by omega, by go_num, rfl, H7.out⟩
      case measure => simp [intOf]; omega
    · obtain rfl : n = k := by omega
      have e1 : decide ((n : Int) < n) = false := by simp
      clear hk hlt
      have e2 : decide ((n : Int) < c.words) = false := by rw [Hn.out]; simp
      obtain ⟨q0, q1, q2, q3, q4, q5, q6, q7, q8, q9, q10, q11, q12⟩ := blk_cfg h5.drop.blk
      clear d0
      go_wp2_with fail
      have h6 := h5.third
      have hN := cells_new w0 wr _ c th A cp _ (initL n) HC.out HT.out.1 HT.out.2 (by rw [initL_len]; exact Hn.out.symm) h6 (fun w' h => by rw [initL_len]; exact h.rowReads)
      rw [initL_len] at hN
      refine hN.mono ?_
      clear hN h5 h6 q0 q1 q2 q3 q4 q5 q6 q7 q8 q9 q10 q11 q12
      rintro e w4 ⟨g, rfl, h8⟩
      obtain ⟨q0, q1, q2, q3, q4, q5, q6, q7, q8, q9, q10, q11, q12⟩ := blk_cfg h8.drop.drop.drop.blk
      go_wp2_with fail
      have hN := rnew_any w0 w4 _ c th A cp _ (initL n) HC.out HT.out.1 HT.out.2 (by rw [initL_len]; exact Hn.out.symm) h8 (fun w' h => by rw [initL_len]; exact h.drop.rowReads)
      rw [initL_len] at hN
      refine hN.mono ?_
      clear hN h8 q0 q1 q2 q3 q4 q5 q6 q7 q8 q9 q10 q11 q12
      rintro e w5 ⟨r, rfl, h9⟩
      have h10 : Hold w0 w5 (blkA 27 gp #[.pointer none, .pointer none] * (memA g (newC c th (initL c.words.toNat)) * (refA r c (newC c th (initL c.words.toNat)) * R))) := by
        rw [show c.words.toNat = n by rw [Hn.out]; rfl]
        have h11 := (h9.swap.imp (Imp.under _ (Imp.under _ (Imp.drop _ _))))
        exact h11.third.imp (Imp.under _ (Imp.under _ (Imp.under _ (Imp.drop _ _))))
      have s0 := h10.blk.some_ (i := 0) rfl
      have s1 := h10.blk.some_ (i := 1) rfl
      have s2 := h10.blk.frozen 0
      have s3 := h10.blk.frozen 1
      have H10 := hid ((h10.setBlk 0 (.pointer (some ⟨g, 0, none⟩))).setBlk 1 (.pointer (some ⟨r, 0, none⟩)))
      clear h9 h10
      go_wp2_with fail
      have h11 := H10.out
      generalize hW : World.setCell _ _ _ = W3 at h11 ⊢
      clear hW H10 s0 s1 s2 s3
      have y0 := h11.blk.some_ (i := 0) (u := .pointer (some ⟨g, 0, none⟩)) rfl
      have y1 := h11.blk.some_ (i := 1) (u := .pointer (some ⟨r, 0, none⟩)) rfl
      have hfin : Hid (LabPost w0 R c th (.returned (.tuple #[pairV g r, .bool true])) W3) := hid ⟨g, r, rfl, h11.drop⟩
      exact bodyPost_ret (v := .tuple #[pairV g r, .bool true]) (by simp [results, Try.results7, go_sem, y0, y1]) rfl hfin.out
end Go.Proofs.Ytopcnaakdldkpaa
