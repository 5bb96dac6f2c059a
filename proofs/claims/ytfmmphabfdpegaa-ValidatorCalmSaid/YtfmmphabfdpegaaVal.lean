/- strongtxlaw16: awake, ValidatorEmpty. -/
import Derived.Test.YtfmmphabfdpegaaChk
import Derived.Test.YtfmmphabfdpegaaLa16
namespace Go.Proofs.Ytfmmphabfdpegaa
open Go.RowKit
set_option linter.unusedVariables false

def vs0 : Nat → List Int := newC cf16 2 (initL 6)
def vs1 : Nat → List Int := opC vs0 2 0 133 true
def vs2 : Nat → List Int := opC vs1 2 2 192 true
theorem vs0_ok : COk vs0 := COk.newC cf16_ok (by decide) (by decide)
theorem vs1_ok : COk vs1 := vs0_ok.opC _ _ _ _
theorem vs2_ok : COk vs2 := vs1_ok.opC _ _ _ _
theorem vs_a0 : opA vs2 1 2 0 (valC vs2 2 0) true = ⟨1, 2, 0, 133, 133, true⟩ := rfl
theorem vs_a1 : opA vs2 1 2 1 (valC vs2 2 1) true = ⟨1, 2, 1, 0, 0, true⟩ := rfl
theorem vs_a2 : opA vs2 1 2 2 (valC vs2 2 2) true = ⟨1, 2, 2, 192, 192, true⟩ := rfl
set_option maxRecDepth 8000 in
set_option maxHeartbeats 4000000 in
theorem awake16_any (w0 w : World) (R : Asr) (h : Hold w0 w R) : Calls Try.prog 41 #[] w (BothPost w0 (.bool true) R) := by
  go_enter Try.func41, Try.ntmps41
  go_wp2_with fail
  refine (config16 w0 _ _ h).mono ?_
  rintro e w1 ⟨rfl, h1⟩
  clear h
  go_wp2_with fail
  refine (lab_start w0 _ _ cf16 2 cf16_ok (by decide) h1).mono ?_
  rintro e w2 ⟨m, r, rfl, h2⟩
  have h3 : Hold w0 w2 (memA m vs0 * (refA r cf16 vs0 * R)) := h2
  have h4 := (h3.newBlk (t := 66) (cs := #[.pointer (some ⟨m, 0, none⟩), .pointer (some ⟨r, 0, none⟩)])).newBlk (t := 3) (cs := #[.int .i64 0, .int .i64 1])
  rw [show (w2.alloc (.cells #[.pointer (some ⟨m, 0, none⟩), .pointer (some ⟨r, 0, none⟩)] 66)).heap.size = w2.heap.size + 1 by simp] at h4
  have H4 := hid h4
  clear h1 h2 h3 h4
  go_wp2_with fail
  have h4 := H4.out
  generalize hW : World.alloc _ _ = W4 at h4 ⊢
  generalize w2.heap.size + 1 = gl at h4 ⊢
  generalize w2.heap.size = gp at h4 ⊢
  clear hW H4
  refine (chk_new w0 _ _ _ 2 2 _ [0, 1] 2 h4 (h4.blk.reads rfl rfl) (by decide)).mono ?_
  rintro e w3 ⟨a, rfl, h5⟩
  have h6 := h5.newBlk (t := 3) (cs := #[.int .i64 2, .int .i64 0])
  have H6 := hid h6
  clear h4 h5 h6
  go_wp2_with fail
  have h6 := H6.out
  generalize hW : World.alloc _ _ = W6 at h6 ⊢
  generalize w3.heap.size = gk at h6 ⊢
  clear hW H6
  refine (chk_new w0 _ _ _ 2 2 _ [2, 0] 2 h6 (h6.blk.reads rfl rfl) (by decide)).mono ?_
  rintro e w5 ⟨b, rfl, h7⟩
  have h8 : Hold w0 w5 (memA m vs0 * (refA r cf16 vs0 * (chkA b [2, 0] 2 false * (chkA a [0, 1] 2 false * (prA gp m r * R))))) := by
    exact h7.pk7 [5, 6, 0, 2, 4]
  have p0 := h8.drop.drop.drop.drop.blk.some_ (i := 0) rfl
  have p1 := h8.drop.drop.drop.drop.blk.some_ (i := 1) rfl
  clear h6 h7
  go_wp2_with fail
  refine (pair_set w0 _ _ m r cf16 vs0 2 0 133 h8 vs0_ok (by decide) (by decide)).mono ?_
  rintro e w6 ⟨rfl, h9⟩
  replace h9 : Hold w0 w6 (memA m vs1 * (refA r cf16 vs1 * (chkA b [2, 0] 2 false * (chkA a [0, 1] 2 false * (prA gp m r * R))))) := h9
  clear h8 p0 p1
  have p0 := h9.drop.drop.drop.drop.blk.some_ (i := 0) rfl
  have p1 := h9.drop.drop.drop.drop.blk.some_ (i := 1) rfl
  go_wp2_with fail
  refine (pair_set w0 _ _ m r cf16 vs1 2 2 192 h9 vs1_ok (by decide) (by decide)).mono ?_
  rintro e w7 ⟨rfl, h10⟩
  replace h10 : Hold w0 w7 (memA m vs2 * (refA r cf16 vs2 * (chkA b [2, 0] 2 false * (chkA a [0, 1] 2 false * (prA gp m r * R))))) := h10
  clear h9 p0 p1
  have p0 := h10.drop.drop.drop.drop.blk.some_ (i := 0) rfl
  go_wp2_with fail
  refine (chk_step w0 _ _ a m vs2 0 [1] 2 (h10.pk4 [3, 0, 1, 2]) vs2_ok (by decide) (by rw [vs_a0]; decide)).mono ?_
  rintro e w8 ⟨rfl, h11⟩
  rw [vs_a0] at h11 ⊢
  replace h11 : Hold w0 w8 (chkA a [1] 2 false * (memA m vs2 * (refA r cf16 vs2 * (chkA b [2, 0] 2 false * (prA gp m r * R))))) := h11
  have p0 := h11.drop.drop.drop.drop.blk.some_ (i := 0) rfl
  clear h10
  go_wp2_with fail
  refine (chk_step w0 _ _ a m vs2 1 [] 2 h11 vs2_ok (by decide) (by rw [vs_a1]; decide)).mono ?_
  rintro e w9 ⟨rfl, h12⟩
  rw [vs_a1] at h12 ⊢
  replace h12 : Hold w0 w9 (chkA a [] 2 false * (memA m vs2 * (refA r cf16 vs2 * (chkA b [2, 0] 2 false * (prA gp m r * R))))) := h12
  clear h11 p0
  have p0 := h12.drop.drop.drop.drop.blk.some_ (i := 0) rfl
  go_wp2_with fail
  refine (chk_step w0 _ _ b m vs2 2 [0] 2 (h12.pk4 [3, 1, 0, 2]) vs2_ok (by decide) (by rw [vs_a2]; decide)).mono ?_
  rintro e w10 ⟨rfl, h13⟩
  rw [vs_a2] at h13 ⊢
  replace h13 : Hold w0 w10 (chkA b [0] 2 true * (memA m vs2 * (chkA a [] 2 false * (refA r cf16 vs2 * (prA gp m r * R))))) := h13
  clear h12 p0
  go_wp2_with fail
  refine (chk_done w0 _ _ a [] 2 false (h13.pk3 [2, 0, 1])).mono ?_
  rintro e w' ⟨rfl, rfl⟩
  go_wp2_with fail
  refine (chk_failed w0 _ _ a [] 2 false (h13.pk3 [2, 0, 1])).mono ?_
  rintro e w' ⟨rfl, rfl⟩
  go_wp2_with fail
  refine (chk_done w0 _ _ b [0] 2 true h13).mono ?_
  rintro e w' ⟨rfl, rfl⟩
  go_wp2_with fail
  refine (chk_failed w0 _ _ b [0] 2 true h13).mono ?_
  rintro e w' ⟨rfl, rfl⟩
  have H14 := hid (h13.pk5 [])
  clear h13
  go_wp2_with fail
  go_ret
  exact ⟨rfl, H14.out⟩
set_option maxRecDepth 8000 in
set_option maxHeartbeats 4000000 in
theorem validatorEmpty_walk (a0 : Int) (w : World) (_ : (Lit.int .i64 a0).wf = true) : Calls Try.prog 10 #[.int .i64 a0] w (fun e w' => e = .returned (.bool true) ∧ Below w.heap.size w w') := by
  go_enter Try.func10, Try.ntmps10
  go_wp2_with fail
  refine (config16 w _ _ (Hold.start w)).mono ?_
  rintro e w1 ⟨rfl, h1⟩
  go_wp2_with fail
  refine (lab_start w _ _ cf16 2 cf16_ok (by decide) h1).mono ?_
  rintro e w2 ⟨m, r, rfl, h2⟩
  have h3 := h2.newBlk (t := 66) (cs := #[.pointer (some ⟨m, 0, none⟩), .pointer (some ⟨r, 0, none⟩)])
  have H3 := hid h3
  clear h1 h2 h3
  go_wp2_with (go_at_call 15; refine (place_any _ _ _ (by omega) (by omega)).mono ?_; rintro e w' ⟨rfl, rfl⟩)
  have h3 := H3.out
  generalize hW : World.alloc _ _ = W at h3 ⊢
  generalize w2.heap.size = gp at h3 ⊢
  clear hW H3
  refine (chk_new w _ _ none 0 0 0 [] _ h3 (Reads.nil _ _) (by decide)).mono ?_
  rintro e w4 ⟨a, rfl, h4⟩
  clear h3
  generalize place a0 100 = rv at h4
  go_wp2_with fail
  refine (chk_done w _ _ a [] rv false h4).mono ?_
  rintro e w' ⟨rfl, rfl⟩
  go_wp2_with fail
  refine (chk_failed w _ _ a [] rv false h4).mono ?_
  rintro e w' ⟨rfl, rfl⟩
  have p0 := h4.drop.blk.some_ (i := 0) rfl
  go_wp2_with fail
  refine (chk_step_done w _ _ a _ [] rv false h4 rfl).mono ?_
  rintro e w5 ⟨rfl, h5⟩
  unfold acc0
  clear h4 p0
  go_wp2_with fail
  refine (awake16_any w _ _ h5).mono ?_
  rintro e w6 ⟨rfl, h6⟩
  have H6 := hid h6.below
  clear h5 h6
  go_wp2_with fail
  go_ret
  exact ⟨rfl, H6.out⟩
end Go.Proofs.Ytfmmphabfdpegaa
