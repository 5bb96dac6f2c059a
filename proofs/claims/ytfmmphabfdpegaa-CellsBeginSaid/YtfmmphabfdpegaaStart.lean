/- Cells of both kinds, made alike: strongtxlaw08.start. -/
import Derived.Test.YtfmmphabfdpegaaRef08d
import Derived.Test.YtfmmphabfdpegaaNerr
namespace Go.Proofs.Ytfmmphabfdpegaa
open Go.RowKit
set_option linter.unusedVariables false

/-- The first words: 1, 11, 21, .. -/
def initL (n : Nat) : List Int := (List.range n).map fun i : Nat => 10 * (i : Int) + 1
theorem initL_succ (k : Nat) : (initL k).map (Value.int .u64) ++ [.int .u64 (10 * (k : Int) + 1)] = (initL (k + 1)).map (Value.int .u64) := by simp [initL, List.range_succ]
theorem initL_len (n : Nat) : (initL n).length = n := by simp [initL]
def StartPost (w0 : World) (R : Asr) (c : Cfg) (th : Nat) (e : Ending) (w' : World) : Prop :=
  ∃ g r, e = .returned (.tuple #[.pointer (some ⟨g, 0, none⟩), .pointer (some ⟨r, 0, none⟩), .bool true]) ∧ Hold w0 w' (memA g (newC c th (initL c.words.toNat)) * (refA r c (newC c th (initL c.words.toNat)) * R))
set_option maxRecDepth 8000 in
set_option maxHeartbeats 4000000 in
theorem start_gen (w0 w : World) (R : Asr) (c : Cfg) (l0 l1 l2 l3 l4 t : Int) (hcfg : ∀ w, Calls Try.prog 27 #[.int .i64 l0, .int .i64 l1, .int .i64 l2, .int .i64 l3, .int .i64 l4] w (fun e w' => e = .returned c.val ∧ Chg [] w w')) (hok : cfgErr c = 0) (hR : Hold w0 w R) :
    Calls Try.prog 14 #[.agg #[.int .i64 l0, .int .i64 l1, .int .i64 l2, .int .i64 l3, .int .i64 l4], .int .i64 t] w (StartPost w0 R c (1 + (place t 4).toNat)) := by
  obtain ⟨iU, hiU, hzU0, hzU1, hzU2⟩ := info_parts info_u64
  obtain ⟨n, hn⟩ : ∃ n : Nat, c.words = n := ⟨c.words.toNat, by have := (cfgOk_of hok).w; omega⟩
  have n64 : n ≤ 64 := by have := (cfgOk_of hok).w; omega
  have HC := hid hok
  have Hn := hid hn
  have HF := hid hcfg
  have p0 := place_nonneg t 4 (by omega); have p1 := place_lt t 4 (by omega)
  have HP : Hid (1 + place t 4 = ((1 + (place t 4).toNat : Nat) : Int)) := hid (by omega)
  have HT : Hid (1 ≤ 1 + (place t 4).toNat ∧ 1 + (place t 4).toNat ≤ 16) := hid (by omega)
  generalize 1 + (place t 4).toNat = th at HP HT ⊢
  clear hok hn hcfg
  go_enter Try.func14, Try.ntmps14
  go_wp2_with fail
  refine (HF.out _).mono ?_
  rintro e w1 ⟨rfl, hc1⟩
  have r1 := hR.chg0 (((Chg.refl [] w).alloc _).trans hc1 (by simp))
  clear hR hc1
  have r2 := (r1.nilRow 33).newBlk (t := 32) (cs := c.cells)
  go_wp2_with fail
  generalize w1.heap.size = gc at r2 ⊢
  generalize hW : World.alloc _ _ = W1 at r2 ⊢
  clear hW r1
  go_loopw [8, 9] (fun s i wr => ∃ (k : Nat) (A : Option Addr) (cp : Nat), k ≤ n ∧ i = .int .i64 k ∧ s = .slice A k cp ∧ Hold w0 wr (blkA 32 gc c.cells * (numA (.slice A k cp) k (initL k) * R))) (fun _ i _ => n - (intOf i).toNat)
  case atStart => exact ⟨0, none, 0, by omega, rfl, rfl, r2⟩
  case round =>
    clear r2
    obtain ⟨k, A, cp, hk, rfl, rfl, h5⟩ := hrel
    have d0 : wr.cell? ⟨gc, 0, none⟩ = some (.int .i64 n) := by rw [← Hn.out]; exact h5.blk.some_ rfl
    by_cases hlt : k < n
    · have e1 : decide ((k : Int) < n) = true := decide_eq_true (by omega)
      obtain ⟨D, hD⟩ : ∃ D, D = (initL k).map (Value.int .u64) := ⟨_, rfl⟩
      unfold numA at h5
      rw [← hD] at h5
      have hD2 : D ++ [.int .u64 (10 * (k : Int) + 1)] = (initL (k + 1)).map (Value.int .u64) := by rw [hD]; exact initL_succ k
      have HD2 := hid hD2
      clear hD hD2
      have h6 := h5.swap
      go_wp2_with (at_builtin; refine wpList_append1 rfl _ _ 23 rfl 33 iU (.int .u64 0) 8 Try.underlying23 hiU hzU0 hzU1 hzU2 rfl (.slice A k cp) k (D) (.int .u64 (10 * (k : Int) + 1)) _ rfl h6.row rfl rfl (by omega) (by decide) ?_)
      intro A2 c2 W2 ho hc hs
      have h7 := (h6.grow ho hc hs).swap
      rw [HD2.out] at h7
      have H7 := hid h7
      clear h5 h6 h7 ho hc hs d0
      go_wp2_with fail
      go_round
      case rel => exact ⟨k + 1, A2, c2, by omega, by go_num, rfl, H7.out⟩
      case measure => simp [intOf]; omega
    · obtain rfl : n = k := by omega
      have e1 : decide ((n : Int) < n) = false := by simp
      clear hk hlt
      have e2 : decide ((n : Int) < c.words) = false := by rw [Hn.out]; simp
      obtain ⟨q0, q1, q2, q3, q4, q5, q6, q7, q8, q9, q10, q11, q12⟩ := blk_cfg h5.blk
      clear d0
      go_wp2_with (go_at_call 15; refine (place_any _ _ _ (by omega) (by omega)).mono ?_; rintro r w' ⟨rfl, rfl⟩)
      rw [HP.out]
      go_wp2_with fail
      have h6 := h5.swap
      have hN := cells_new w0 wr _ c th A cp _ (initL n) HC.out HT.out.1 HT.out.2 (by rw [initL_len]; exact Hn.out.symm) h6 (fun w' h => by rw [initL_len]; exact h.rowReads)
      rw [initL_len] at hN
      refine hN.mono ?_
      clear hN h5 h6 q0 q1 q2 q3 q4 q5 q6 q7 q8 q9 q10 q11 q12
      rintro e w4 ⟨g, rfl, h8⟩
      obtain ⟨q0, q1, q2, q3, q4, q5, q6, q7, q8, q9, q10, q11, q12⟩ := blk_cfg h8.drop.drop.blk
      go_wp2_with fail
      have hN := rnew_any w0 w4 _ c th A cp _ (initL n) HC.out HT.out.1 HT.out.2 (by rw [initL_len]; exact Hn.out.symm) h8 (fun w' h => by rw [initL_len]; exact h.drop.rowReads)
      rw [initL_len] at hN
      refine hN.mono ?_
      clear hN h8 q0 q1 q2 q3 q4 q5 q6 q7 q8 q9 q10 q11 q12
      rintro e w5 ⟨r, rfl, h9⟩
      have h10 : Hold w0 w5 (memA g (newC c th (initL c.words.toNat)) * (refA r c (newC c th (initL c.words.toNat)) * R)) := by
        rw [show c.words.toNat = n by rw [Hn.out]; rfl]
        exact h9.swap.imp (Imp.under _ (Imp.under _ ((Imp.drop _ _).trans (Imp.drop _ _))))
      have H10 := hid h10
      clear h9 h10
      go_wp2_with fail
      go_ret3
      exact ⟨g, r, rfl, H10.out⟩
end Go.Proofs.Ytfmmphabfdpegaa
