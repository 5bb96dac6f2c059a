/- The reference's cells: do, Load, Store, Swap, Add. -/
import Derived.Test.YtopcnaakdldkpaaRef08
import Derived.Test.YtopcnaakdldkpaaMemW
namespace Go.Proofs.Ytopcnaakdldkpaa
open Go.RowKit
set_option linter.unusedVariables false

theorem valC_setK {C : Nat → List Int} {cell index v : Int} (hh : hasC C cell index) : valC (setK C cell.toNat index.toNat v) cell index = v ∧ hasC (setK C cell.toNat index.toNat v) cell index := by
  obtain ⟨h0, hi⟩ := hh
  unfold getC at hi
  split at hi
  · rename_i hc
    have e1 : ∀ D, getC D cell = D cell.toNat := fun D => if_pos hc
    refine ⟨?_, h0, ?_⟩
    · unfold valC
      rw [e1, setK_eq]
      have : index.toNat < (C cell.toNat).length := by omega
      simp [List.getD, this]
    · rw [e1, setK_len]; exact hi
  · simp at hi; omega
def RAccPost (w0 : World) (R : Asr) (a : Acc) (e : Ending) (w' : World) : Prop := e = .returned a.val ∧ Hold w0 w' R
theorem RAccPost.mk' {w0 w' : World} {R : Asr} {a b : Acc} (h : b = a) (hH : Hold w0 w' R) : RAccPost w0 R a (.returned b.val) w' := by subst h; exact ⟨rfl, hH⟩
set_option maxHeartbeats 4000000 in
theorem rdo_write (w0 w : World) (R : Asr) (g : Nat) (c : Cfg) (C : Nat → List Int) (kind cell index v : Int) (h : Hold w0 w (refA g c C * R)) (hC : COk C) (hh : hasC C cell index) :
    Calls Try.prog 66 #[.pointer (some ⟨g, 0, none⟩), .int .i64 kind, .int .i64 cell, .int .i64 index, .bool true, .int .u64 v] w (RAccPost w0 (refA g c (setK C cell.toNat index.toNat v) * R) ⟨kind, cell, index, valC C cell index, v, true⟩) := by
  have h1 := h.newBlk (t := 55) (cs := #[.int .i64 0, .int .i64 0, .int .i64 0, .int .u64 0, .int .u64 0, .bool false])
  have HG : ∀ W D R, COk D → hasC D cell index → Hold w0 W (refA g c D * R) → Calls Try.prog 77 #[.pointer (some ⟨g, 0, none⟩), .int .i64 cell, .int .i64 index] W fun e w' => e = .returned (.int .u64 (valC D cell index)) ∧ W = w' := fun W D R hD hhD hW => rget_any w0 W R g c D cell index hW hD hhD
  obtain ⟨y, hy⟩ : ∃ y, y = valC C cell index := ⟨_, rfl⟩
  rw [← hy]
  have Hy := hid hy
  have HGG := hid HG
  clear hy HG
  have h2 := h1.newBlk (t := 55) (cs := #[.int .i64 kind, .int .i64 cell, .int .i64 index, .int .u64 y, .int .u64 0, .bool true])
  rw [show (w.alloc (.cells #[.int .i64 0, .int .i64 0, .int .i64 0, .int .u64 0, .int .u64 0, .bool false] 55)).heap.size = w.heap.size + 1 by simp] at h2
  have h3 := h2.third
  have hs := h1.swap
  go_enter Try.func66, Try.ntmps66
  go_wp2_with fail
  refine (HGG.out _ _ _ hC hh hs).mono ?_
  rintro e w' ⟨rfl, rfl⟩
  rw [← Hy.out]
  clear hs
  go_wp2_with fail
  refine (rset_any w0 _ _ g c C cell index v h3 hC hh).mono ?_
  rintro e w2 ⟨rfl, h4⟩
  obtain ⟨hv, hh2⟩ := valC_setK (v := v) hh
  have h5 := h4.swap
  have hB := h5.blk
  have hB2 := (h4.imp (Imp.under _ (Imp.swap _ _ _))).swap.blk
  have hne : w.heap.size + 1 ≠ w.heap.size := by omega
  have hne2 : w.heap.size ≠ w.heap.size + 1 := by omega
  generalize w.heap.size + 1 = ga at h4 h5 hB hB2 hne hne2 ⊢
  generalize w.heap.size = gr at h4 h5 hB hB2 hne hne2 ⊢
  obtain ⟨⟨x0, x1, x2, x3, x4, x5⟩, z0, z1, z2, z3, z4, z5⟩ := blk_acc hB
  obtain ⟨⟨u0, u1, u2, u3, u4, u5⟩, t0, t1, t2, t3, t4, t5⟩ := blk_acc hB2
  have h6 := (h5.setBlk 4 (.int .u64 v)).imp (Imp.under _ (Imp.swap _ _ _))
  replace h6 := (h5.setBlk 4 (.int .u64 v)).third
  have h7 := ((((((h6.setBlk 0 (.int .i64 kind)).setBlk 1 (.int .i64 cell)).setBlk 2 (.int .i64 index)).setBlk 3 (.int .u64 y)).setBlk 4 (.int .u64 v)).setBlk 5 (.bool true))
  have H7 := hid h7.drop.drop
  have H8 := hid h7.blk
  have Hv := hid hv
  have H4 := hid h4
  clear hB hB2 h3 h2 h1 h hv h5 h6 h7 h4
  go_wp2_with fail
  refine (HGG.out _ _ _ (hC.setK _ _ _) hh2 H4.out).mono ?_
  rintro e w' ⟨rfl, rfl⟩
  rw [Hv.out]
  go_wp2_with fail
  have h3 := H7.out
  have hB := H8.out
  generalize hW : World.setCell _ _ _ = W3 at h3 hB ⊢
  clear hW H7 H8 x0 x1 x2 x3 x4 x5 z0 z1 z2 z3 z4 z5 u0 u1 u2 u3 u4 u5 t0 t1 t2 t3 t4 t5
  obtain ⟨⟨y0, y1, y2, y3, y4, y5⟩, _⟩ := blk_acc hB
  exact bodyPost_ret (v := .agg #[.int .i64 kind, .int .i64 cell, .int .i64 index, .int .u64 y, .int .u64 v, .bool true]) (by simp [results, Try.results66, go_sem, y0, y1, y2, y3, y4, y5]) rfl ⟨rfl, h3⟩
set_option maxHeartbeats 4000000 in
theorem rdo_read (w0 w : World) (R : Asr) (g : Nat) (c : Cfg) (C : Nat → List Int) (kind cell index v : Int) (h : Hold w0 w (refA g c C * R)) (hC : COk C) (hh : hasC C cell index) :
    Calls Try.prog 66 #[.pointer (some ⟨g, 0, none⟩), .int .i64 kind, .int .i64 cell, .int .i64 index, .bool false, .int .u64 v] w (RAccPost w0 (refA g c C * R) ⟨kind, cell, index, valC C cell index, valC C cell index, (kind == 1)⟩) := by
  have h1 := h.newBlk (t := 55) (cs := #[.int .i64 0, .int .i64 0, .int .i64 0, .int .u64 0, .int .u64 0, .bool false])
  have HG : ∀ W D R, COk D → hasC D cell index → Hold w0 W (refA g c D * R) → Calls Try.prog 77 #[.pointer (some ⟨g, 0, none⟩), .int .i64 cell, .int .i64 index] W fun e w' => e = .returned (.int .u64 (valC D cell index)) ∧ W = w' := fun W D R hD hhD hW => rget_any w0 W R g c D cell index hW hD hhD
  obtain ⟨y, hy⟩ : ∃ y, y = valC C cell index := ⟨_, rfl⟩
  rw [← hy]
  have Hy := hid hy
  have HGG := hid HG
  clear hy HG
  have h2 := h1.newBlk (t := 55) (cs := #[.int .i64 kind, .int .i64 cell, .int .i64 index, .int .u64 y, .int .u64 0, .bool true])
  rw [show (w.alloc (.cells #[.int .i64 0, .int .i64 0, .int .i64 0, .int .u64 0, .int .u64 0, .bool false] 55)).heap.size = w.heap.size + 1 by simp] at h2
  have h3 := h2.third
  have hs := h1.swap
  go_enter Try.func66, Try.ntmps66
  go_wp2_with fail
  refine (HGG.out _ _ _ hC hh hs).mono ?_
  rintro e w' ⟨rfl, rfl⟩
  rw [← Hy.out]
  clear hs
  go_wp2_with fail
  have h4 := (h1.newBlk (t := 55) (cs := #[.int .i64 kind, .int .i64 cell, .int .i64 index, .int .u64 y, .int .u64 0, .bool (kind == 1)]))
  rw [show (w.alloc (.cells #[.int .i64 0, .int .i64 0, .int .i64 0, .int .u64 0, .int .u64 0, .bool false] 55)).heap.size = w.heap.size + 1 by simp] at h4
  replace h4 := h4.third
  have hv := Hy.out.symm
  have hh2 := hh
  generalize World.alloc (World.alloc _ _) _ = w2 at h4 ⊢
  have h5 := h4.swap
  have hB := h5.blk
  have hB2 := (h4.imp (Imp.under _ (Imp.swap _ _ _))).swap.blk
  have hne : w.heap.size + 1 ≠ w.heap.size := by omega
  have hne2 : w.heap.size ≠ w.heap.size + 1 := by omega
  generalize w.heap.size + 1 = ga at h4 h5 hB hB2 hne hne2 ⊢
  generalize w.heap.size = gr at h4 h5 hB hB2 hne hne2 ⊢
  obtain ⟨⟨x0, x1, x2, x3, x4, x5⟩, z0, z1, z2, z3, z4, z5⟩ := blk_acc hB
  obtain ⟨⟨u0, u1, u2, u3, u4, u5⟩, t0, t1, t2, t3, t4, t5⟩ := blk_acc hB2
  have h6 := (h5.setBlk 4 (.int .u64 y)).imp (Imp.under _ (Imp.swap _ _ _))
  replace h6 := (h5.setBlk 4 (.int .u64 y)).third
  have h7 := ((((((h6.setBlk 0 (.int .i64 kind)).setBlk 1 (.int .i64 cell)).setBlk 2 (.int .i64 index)).setBlk 3 (.int .u64 y)).setBlk 4 (.int .u64 y)).setBlk 5 (.bool (kind == 1)))
  have H7 := hid h7.drop.drop
  have H8 := hid h7.blk
  have Hv := hid hv
  have H4 := hid h4
  clear hB hB2 h3 h2 h1 h hv h5 h6 h7 h4
  refine (HGG.out _ _ _ hC hh2 H4.out).mono ?_
  rintro e w' ⟨rfl, rfl⟩
  rw [Hv.out]
  go_wp2_with fail
  have h3 := H7.out
  have hB := H8.out
  generalize hW : World.setCell _ _ _ = W3 at h3 hB ⊢
  clear hW H7 H8 x0 x1 x2 x3 x4 x5 z0 z1 z2 z3 z4 z5 u0 u1 u2 u3 u4 u5 t0 t1 t2 t3 t4 t5
  obtain ⟨⟨y0, y1, y2, y3, y4, y5⟩, _⟩ := blk_acc hB
  exact bodyPost_ret (v := .agg #[.int .i64 kind, .int .i64 cell, .int .i64 index, .int .u64 y, .int .u64 y, .bool (kind == 1)]) (by simp [results, Try.results66, go_sem, y0, y1, y2, y3, y4, y5]) rfl ⟨rfl, h3⟩
end Go.Proofs.Ytopcnaakdldkpaa
