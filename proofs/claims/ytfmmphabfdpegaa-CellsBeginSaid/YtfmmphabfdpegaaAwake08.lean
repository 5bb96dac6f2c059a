/- strongtxlaw08.awake. -/
import Derived.Test.YtfmmphabfdpegaaMemW
import Derived.Test.YtfmmphabfdpegaaCells
namespace Go.Proofs.Ytfmmphabfdpegaa
open Go.RowKit
set_option linter.unusedVariables false

theorem nexts_len (c : Cfg) : (nexts c).length = nbl c := by simp [nexts]
theorem heads_len (c : Cfg) : (heads c).length = 4 := by simp [heads]
theorem newC_len {c : Cfg} {th : Nat} {init : List Int} (hc : cfgErr c = 0) (h2 : th ≤ 16) (hl : (init.length : Int) = c.words) (k : Nat) : (newC c th init k).length ≤ 1000 := by
  have h := cfgOk_of hc
  have hn := nbl_le h
  have := h.w; have := h.o
  unfold newC
  split <;> simp [zerosN, heads_len, nexts_len] <;> omega
def awC : Cfg := { words := 1, orecs := 1, base := 0, c0 := 0, c1 := 0, c2 := 0, c3 := 0, reads := 1, writes := 1, allocs := 0, frees := 0, clock := 0, strong := false }
def awS : Nat → List Int := newC awC 1 [5]
def awS1 : Nat → List Int := opC awS 4 0 (IntKind.u64.wrap (valC awS 4 0 + 1)) true
def awS2 : Nat → List Int := opC awS1 1 0 6 (valC awS1 1 0 == 5)
theorem awake_any (w0 w : World) (R : Asr) (hR : Hold w0 w R) : Calls Try.prog 13 #[] w (fun e w' => e = .returned (.bool true) ∧ Hold w0 w' R) := by
  go_enter Try.func13, Try.ntmps13
  go_wp2_with fail
  generalize hW : World.alloc _ _ = W
  have h0 : ∃ T, Hold w0 W (blkA T w.heap.size #[.int .u64 5] * R) := ⟨_, by rw [← hW]; exact hR.newBlk⟩
  obtain ⟨T, h0⟩ := h0
  clear hW
  generalize w.heap.size = g0 at h0 ⊢
  refine (cells_new w0 W _ awC 1 (some ⟨g0, 0, none⟩) 1 g0 [5] (by decide) (by decide) (by decide) rfl h0 (fun w' h => ⟨rfl, fun k hk => ?_⟩)).mono ?_
  · obtain rfl : k = 0 := by simp at hk; exact hk
    exact ⟨⟨g0, 0, none⟩, .int .u64 5, rfl, rfl, h.blk.lt, rfl, h.blk.some_ rfl⟩
  rintro e w1 ⟨g, rfl, h1⟩
  clear h0
  go_wp2_with fail
  refine (mem_add w0 _ _ g awS 4 0 1 h1 (by omega) (fun k => ?_)).mono ?_
  · exact newC_len (by decide) (by decide) (by decide) k
  rintro e w2 ⟨rfl, h2⟩
  rw [show opA awS 4 4 0 (IntKind.u64.wrap (valC awS 4 0 + 1)) true = ⟨4, 4, 0, 0, 1, true⟩ from rfl, show opE awS 4 0 = 0 from rfl]
  clear h1
  have h3 := (h2.newBlk (t := 39) (cs := #[.int .i64 4, .int .i64 4, .int .i64 0, .int .u64 0, .int .u64 1, .bool true])).swap
  go_wp2_with fail
  generalize w2.heap.size = g1 at h3 ⊢
  refine (mem_swap w0 _ _ g awS1 1 0 5 6 h3 (by omega) (fun k => ?_)).mono ?_
  · unfold awS1; rw [opC_len]; exact newC_len (by decide) (by decide) (by decide) k
  rintro e w3 ⟨rfl, h4⟩
  rw [show opA awS1 3 1 0 6 (valC awS1 1 0 == 5) = ⟨3, 1, 0, 5, 6, true⟩ from rfl, show opE awS1 1 0 = 0 from rfl]
  clear h2 h3
  have h5 := (h4.newBlk (t := 39) (cs := #[.int .i64 3, .int .i64 1, .int .i64 0, .int .u64 5, .int .u64 6, .bool true])).swap
  go_wp2_with fail
  generalize w3.heap.size = g2 at h5 ⊢
  refine (mem_swap w0 _ _ g awS2 1 0 5 7 h5 (by omega) (fun k => ?_)).mono ?_
  · unfold awS2 awS1; rw [opC_len, opC_len]; exact newC_len (by decide) (by decide) (by decide) k
  rintro e w4 ⟨rfl, h6⟩
  rw [show opA awS2 3 1 0 7 (valC awS2 1 0 == 5) = ⟨3, 1, 0, 6, 6, false⟩ from rfl, show opE awS2 1 0 = 0 from rfl]
  have c3 : w4.cell? ⟨g1, 3, none⟩ = some (.int .u64 0) := h6.drop.drop.blk.some_ rfl
  have c4 : w4.cell? ⟨g1, 4, none⟩ = some (.int .u64 1) := h6.drop.drop.blk.some_ rfl
  have c5 : w4.cell? ⟨g2, 5, none⟩ = some (.bool true) := h6.drop.blk.some_ rfl
  clear h4 h5
  have hl : g1 < w4.heap.size ∧ g2 < w4.heap.size := ⟨h6.drop.drop.blk.lt, h6.drop.blk.lt⟩
  have n1 : g1 ≠ w4.heap.size := by omega
  have n2 : g2 ≠ w4.heap.size := by omega
  have H6 := hid (h6.drop.drop.drop.drop.alloc (.cells #[.int .i64 3, .int .i64 1, .int .i64 0, .int .u64 6, .int .u64 6, .bool false] 39))
  clear h6
  go_wp2_with fail
  go_ret
  exact ⟨rfl, H6.out⟩
end Go.Proofs.Ytfmmphabfdpegaa
