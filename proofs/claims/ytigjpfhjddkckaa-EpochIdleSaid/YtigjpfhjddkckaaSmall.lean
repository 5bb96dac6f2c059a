/- strongtxlab.Small. -/
import Derived.Test.YtigjpfhjddkckaaLab2
import Derived.Test.YtigjpfhjddkckaaSl
namespace Go.Proofs.Ytigjpfhjddkckaa
open Go.RowKit
set_option linter.unusedVariables false

set_option maxRecDepth 8000 in
set_option maxHeartbeats 4000000 in
theorem lab_small (w0 w : World) (R : Asr) (c : Cfg) (l0 l1 l2 l3 l4 : Int) (hcfg : ∀ w, Calls Try.prog 73 #[.int .i64 l0, .int .i64 l1, .int .i64 l2, .int .i64 l3, .int .i64 l4] w (fun e w' => e = .returned c.val ∧ Chg [] w w')) (hok : cfgErr c = 0) (hR : Hold w0 w R) :
    Calls Try.prog 37 #[.agg #[.int .i64 l0, .int .i64 l1, .int .i64 l2, .int .i64 l3, .int .i64 l4]] w (LabPost w0 R c 4) := by
  have HC := hid hok
  have HF := hid hcfg
  have h0 := (hR.newBlk (t := 72) (cs := #[.int .i64 l0, .int .i64 l1, .int .i64 l2, .int .i64 l3, .int .i64 l4])).newBlk (t := 27) (cs := #[.pointer none, .pointer none])
  simp only [World.size_alloc] at h0
  have H0 := hid h0
  clear hok hcfg hR h0
  go_enter Try.func37, Try.ntmps37
  go_wp2_with fail
  have h0 := H0.out
  generalize hW : World.alloc _ _ = W at h0 ⊢
  generalize w.heap.size + 1 = gp at h0 ⊢
  clear hW H0
  refine (HF.out _).mono ?_
  rintro e w1 ⟨rfl, hc⟩
  have h1 := h0.chg0 hc
  clear h0 hc
  go_wp2_with fail
  refine (lab_start w0 _ _ c 4 HC.out (by decide) h1).mono ?_
  rintro e w2 ⟨g, r, rfl, h2⟩
  have h3 : Hold w0 w2 (blkA 27 gp #[.pointer none, .pointer none] * (memA g (newC c 4 (initL c.words.toNat)) * (refA r c (newC c 4 (initL c.words.toNat)) * R))) := h2.pk4 [2, 0, 1]
  have s0 := h3.blk.some_ (i := 0) rfl
  have s1 := h3.blk.some_ (i := 1) rfl
  have s2 := h3.blk.frozen 0
  have s3 := h3.blk.frozen 1
  have H3 := hid ((h3.setBlk 0 (.pointer (some ⟨g, 0, none⟩))).setBlk 1 (.pointer (some ⟨r, 0, none⟩)))
  clear h1 h2 h3
  go_wp2_with fail
  have h11 := H3.out
  generalize hW : World.setCell _ _ _ = W3 at h11 ⊢
  clear hW H3 s0 s1 s2 s3
  have y0 := h11.blk.some_ (i := 0) (u := .pointer (some ⟨g, 0, none⟩)) rfl
  have y1 := h11.blk.some_ (i := 1) (u := .pointer (some ⟨r, 0, none⟩)) rfl
  have hfin : Hid (LabPost w0 R c 4 (.returned (.tuple #[pairV g r, .bool true])) W3) := hid ⟨g, r, rfl, h11.drop⟩
  exact bodyPost_ret (v := .tuple #[pairV g r, .bool true]) (by simp [results, Try.results37, go_sem, y0, y1]) rfl hfin.out
end Go.Proofs.Ytigjpfhjddkckaa
