/- strongtxlab: Start, Set, Same. -/
import Derived.Test.YtopcnaakdldkpaaStart
import Derived.Test.YtopcnaakdldkpaaImage
import Derived.Test.YtopcnaakdldkpaaRef08c
import Derived.Test.YtopcnaakdldkpaaAwake08
namespace Go.Proofs.Ytopcnaakdldkpaa
open Go.RowKit
set_option linter.unusedVariables false

theorem opC_len2 (C : Nat → List Int) (cell index v : Int) (d : Bool) (k : Nat) : (opC C cell index v d k).length = (C k).length := by
  unfold opC; split
  · exact setK_len _ _ _ _ _
  · rfl
theorem COk.opC {C : Nat → List Int} (h : COk C) (cell index v : Int) (d : Bool) : COk (opC C cell index v d) :=
  ⟨fun j => by rw [opC_len2]; exact h.len j, by rw [opC_len2]; exact h.l3, by rw [opC_len2]; exact h.l4, by rw [opC_len2]; exact h.l5⟩
theorem COk.newC {c : Cfg} {th : Nat} {init : List Int} (hc : cfgErr c = 0) (h2 : th ≤ 16) (hl : (init.length : Int) = c.words) : COk (newC c th init) := ⟨fun k => newC_len hc h2 hl k, rfl, rfl, rfl⟩
section
variable {w0 w : World} {R : Asr}
theorem Hold.setAcc {t : TypeId} {g : Nat} {a0 a1 a2 a3 a4 a5 : Value} (h : Hold w0 w (blkA t g #[a0, a1, a2, a3, a4, a5] * R)) (u0 u1 u2 u3 u4 u5 : Value) :
    Hold w0 ((((((w.setCell ⟨g, 0, none⟩ u0).setCell ⟨g, 1, none⟩ u1).setCell ⟨g, 2, none⟩ u2).setCell ⟨g, 3, none⟩ u3).setCell ⟨g, 4, none⟩ u4).setCell ⟨g, 5, none⟩ u5) (blkA t g #[u0, u1, u2, u3, u4, u5] * R) :=
  ((((((h.setBlk 0 u0).setBlk 1 u1).setBlk 2 u2).setBlk 3 u3).setBlk 4 u4).setBlk 5 u5)
theorem Imp.outSep (p R : Asr) : ∀ ps : List Asr, Imp (sepR ps (p * R)) (p * sepR ps R)
  | [] => Imp.refl _
  | q :: ps => (Imp.under q (Imp.outSep p R ps)).trans (Imp.swap _ _ _)
theorem Imp.inSep (p R : Asr) : ∀ ps : List Asr, Imp (p * sepR ps R) (sepR ps (p * R))
  | [] => Imp.refl _
  | q :: ps => (Imp.swap _ _ _).trans (Imp.under q (Imp.inSep p R ps))
theorem Hold.refOpen2 {p : Asr} {r : Nat} {c : Cfg} {C : Nat → List Int} (h : Hold w0 w (p * (refA r c C * R))) : ∃ x, Hold w0 w (p * refF r c C x R) := by
  obtain ⟨x, h⟩ := h.swap.refOpen
  exact ⟨x, (h.imp (Imp.under _ (Imp.outSep _ _ _))).swap⟩
theorem Hold.refShut2 {p : Asr} {r : Nat} {c : Cfg} {C : Nat → List Int} {x : Lay} (h : Hold w0 w (p * refF r c C x R)) : Hold w0 w (p * (refA r c C * R)) :=
  (h.swap.imp (Imp.under _ (Imp.inSep _ _ _))).refShut.swap
end
abbrev pairV (g r : Nat) : Value := .agg #[.pointer (some ⟨g, 0, none⟩), .pointer (some ⟨r, 0, none⟩)]
abbrev prA (gp g r : Nat) : Asr := blkA 27 gp #[.pointer (some ⟨g, 0, none⟩), .pointer (some ⟨r, 0, none⟩)]
def BothPost (w0 : World) (v : Value) (R : Asr) (e : Ending) (w' : World) : Prop := e = .returned v ∧ Hold w0 w' R
def LabPost (w0 : World) (R : Asr) (c : Cfg) (th : Nat) (e : Ending) (w' : World) : Prop :=
  ∃ g r, e = .returned (.tuple #[pairV g r, .bool true]) ∧ Hold w0 w' (memA g (newC c th (initL c.words.toNat)) * (refA r c (newC c th (initL c.words.toNat)) * R))

set_option maxRecDepth 8000 in
set_option maxHeartbeats 4000000 in
theorem pair_same (w0 w : World) (R : Asr) (g r : Nat) (c : Cfg) (C : Nat → List Int) (h : Hold w0 w (memA g C * (refA r c C * R))) (hC : COk C) :
    Calls Try.prog 23 #[pairV g r] w (BothPost w0 (.bool true) (memA g C * (refA r c C * R))) := by
  have HC := hid hC
  obtain ⟨x, h1⟩ := h.refOpen2
  have h2 := (h1.newBlk (t := 27) (cs := #[.pointer (some ⟨g, 0, none⟩), .pointer (some ⟨r, 0, none⟩)])).swap
  have H2 := hid h2
  clear h h1 h2 hC
  go_enter Try.func23, Try.ntmps23
  go_wp2_with fail
  have h2 := H2.out
  clear H2
  generalize hgw : World.alloc _ _ = W at h2 ⊢
  generalize w.heap.size = gp at h2 ⊢
  clear hgw
  replace h2 := h2.drew
  refine wp_region_brk [] (by kernel_rfl) ?_
  refine wpAnyB_now (fun w' => Hold w0 w' (memA g C * (blkA 27 gp #[.pointer (some ⟨g, 0, none⟩), .pointer (some ⟨r, 0, none⟩)] * refF r c C x R))) (fun _ _ => trivial) _ _ _ _ ?_
  refine' wpAnyB_bulk [true, true, false, true, true, true, true, true] 12 (listed' := #[true, true, false, true, true, true, true, true, false, false]) rfl (by kernel_rfl) (by kernel_rfl) (by kernel_rfl) (by kernel_rfl) (by kernel_rfl) (by kernel_rfl) (by decide) (fun _ _ _ _ h => h) rfl h2 (fun wq hq => ?_) ?_; rotate_left 1
  · simp only [maskL]
    have q0 := hq.drop.blk.some_ (i := 0) rfl
    have q1 := hq.drop.blk.some_ (i := 1) rfl
    have p0 := hq.drop.drop.blk.some_ (i := 13) rfl
    have p1 := hq.drop.drop.blk.some_ (i := 14) rfl
    have p2 := hq.drop.drop.blk.some_ (i := 15) rfl
    have p3 := hq.drop.drop.blk.some_ (i := 16) rfl
    have p4 := hq.drop.drop.blk.some_ (i := 17) rfl
    have p5 := hq.drop.drop.blk.some_ (i := 18) rfl
    have p6 := hq.drop.drop.blk.some_ (i := 19) rfl
    have p7 := hq.drop.drop.blk.some_ (i := 20) rfl
    repeat (go_big_quiet_step (fail))
    exact wpQuiet_nil rfl
  refine wpAnyB_bar [false, false, true] (fuel := 2) (by rfl) (by rfl) (by kernel_rfl) (fun QB hQB hQX => ?_)
  simp only [maskL]
  go_wp2_with fail
  refine (image_any w0 _ _ g C h2 HC.out).mono ?_
  rintro e w1 ⟨y, rfl, h3⟩
  clear h2
  go_wp2_with fail
  refine hQB.out _ _ h3.rest ?_
  clear hQB hQX QB
  refine wpAnyB_bar [false, false, false, false, false, false, false, false, true] (fuel := 1) (by rfl) (by rfl) (by kernel_rfl) (fun QB hQB hQX => ?_)
  simp only [maskL]
  go_wp2_with fail
  refine (kimage_true _ C y x h3.imgR h3.rest.drop.drop.drop.imgR HC.out).mono ?_
  rintro e w2 ⟨rfl, hc⟩
  have h4 := h3.rest.chg0 hc
  clear h3 hc
  go_wp2_with fail
  refine hQB.out _ _ h4 ?_
  clear hQB hQX QB
  refine' wpAnyB_bulk [false, false, false, false, false, false, false, false, false, true] 12 (listed' := #[true, true, true, true, true, true, true, true, true, true]) rfl (by kernel_rfl) (by kernel_rfl) (by kernel_rfl) (by kernel_rfl) (by kernel_rfl) (by kernel_rfl) (by decide) (fun _ _ _ _ h => h) rfl h4 (fun wq hq => ?_) ?_; rotate_left 1
  · simp only [maskL]
    repeat (go_big_quiet_step (fail))
    exact wpQuiet_nil rfl
  refine wpAnyB_done (by kernel_rfl) ?_ _
  have H4 := hid h4.swap.drop.refShut2
  clear h4
  go_wp2_with fail
  go_ret
  exact ⟨rfl, H4.out⟩
set_option maxRecDepth 8000 in
set_option maxHeartbeats 4000000 in
theorem pair_set (w0 w : World) (R : Asr) (g r : Nat) (c : Cfg) (C : Nat → List Int) (cell index v : Int) (h : Hold w0 w (memA g C * (refA r c C * R))) (hC : COk C) (hh : hasC C cell index) (hx : -9223372036854775808 ≤ index ∧ index ≤ 9223372036854775807) :
    Calls Try.prog 27 #[pairV g r, .int .i64 cell, .int .i64 index, .int .u64 v] w (BothPost w0 (.bool true) (memA g (opC C cell index v true) * (refA r c (opC C cell index v true) * R))) := by
  have HC := hid hC
  have HH := hid hh
  have h2 := (h.newBlk (t := 27) (cs := #[.pointer (some ⟨g, 0, none⟩), .pointer (some ⟨r, 0, none⟩)])).swap
  have H2 := hid h2
  clear h h2 hC hh
  go_enter Try.func27, Try.ntmps27
  go_wp2_with fail
  have h2 := H2.out
  clear H2
  generalize hgw : World.alloc _ _ = W at h2 ⊢
  generalize w.heap.size = gp at h2 ⊢
  clear hgw
  refine (mem_store w0 _ _ g C cell index v h2 hx HC.out.len).mono ?_
  rintro e w1 ⟨rfl, h3⟩
  obtain ⟨k1, k2, k3⟩ := op_yes HH.out 2 v
  rw [k1, k3]
  have K1 := hid k1
  have K2 := hid k2
  clear h2 k1 k2 k3
  have q1 := h3.drop.blk.some_ (i := 1) rfl
  have h4 := h3.newBlk (t := 55) (cs := #[.int .i64 2, .int .i64 cell, .int .i64 index, .int .u64 (valC C cell index), .int .u64 v, .bool true])
  have H4 := hid h4
  clear h3 h4
  go_wp2_with fail
  have h4 := H4.out
  clear H4
  generalize hgw : World.alloc _ _ = W2 at h4 ⊢
  generalize w1.heap.size = ga at h4 ⊢
  clear hgw q1
  replace h4 := h4.drew
  refine wp_region_brk [] (by kernel_rfl) ?_
  refine wpAnyB_now (fun w' => ∃ Z, Hold w0 w' (blkA 55 ga #[.int .i64 2, .int .i64 cell, .int .i64 index, .int .u64 (valC C cell index), .int .u64 v, .bool true] * (memA g (opC C cell index v true) * (blkA 27 gp #[.pointer (some ⟨g, 0, none⟩), .pointer (some ⟨r, 0, none⟩)] * Z)))) (fun _ _ => trivial) _ _ _ _ ?_
  refine' wpAnyB_bulk [true, true, true, true, true, true, true, true, true] 32 (listed' := #[true, true, true, true, true, true, true, true, true, false, false, false, false]) rfl (by kernel_rfl) (by kernel_rfl) (by kernel_rfl) (by kernel_rfl) (by kernel_rfl) (by kernel_rfl) (by decide) (fun _ _ _ _ h => h) rfl ⟨_, h4⟩ (fun wq hq => ?_) ?_; rotate_left 1
  · simp only [maskL]
    obtain ⟨Z, hq⟩ := hq
    have q0 := hq.drop.drop.blk.some_ (i := 0) rfl
    have q1 := hq.drop.drop.blk.some_ (i := 1) rfl
    obtain ⟨⟨x0, x1, x2, x3, x4, x5⟩, _⟩ := blk_acc hq.blk
    repeat (go_big_quiet_step (fail))
    exact wpQuiet_nil rfl
  refine wpAnyB_bar [false, false, false, false, false, false, false, false, false, true] (fuel := 3) (by rfl) (by rfl) (by kernel_rfl) (fun QB hQB hQX => ?_)
  simp only [maskL]
  go_wp2_with fail
  refine (ref_store w0 _ _ r c C cell index v h4.fourth HC.out).mono ?_
  rintro e w2 ⟨rfl, h6⟩
  rw [K1.out]
  replace h6 := h6.fourth'
  clear h4
  go_wp2_with fail
  refine hQB.out _ _ ⟨_, h6⟩ ?_
  clear hQB hQX QB
  refine' wpAnyB_bulk [false, false, false, false, false, false, false, false, false, false, true, true, true] 32 (listed' := #[true, true, true, true, true, true, true, true, true, true, true, true, true]) rfl (by kernel_rfl) (by kernel_rfl) (by kernel_rfl) (by kernel_rfl) (by kernel_rfl) (by kernel_rfl) (by decide) (fun _ _ _ _ h => h) rfl ⟨_, h6⟩ (fun wq hq => ?_) ?_; rotate_left 1
  · simp only [maskL]
    repeat (go_big_quiet_step (fail))
    exact wpQuiet_nil rfl
  refine wpAnyB_done (by kernel_rfl) ?_ _
  have H6 := hid (h6.drop.imp (Imp.under _ (Imp.drop _ _)))
  clear h6
  go_wp2_with fail
  go_ret
  exact ⟨rfl, H6.out⟩
end Go.Proofs.Ytopcnaakdldkpaa
