/- strongtxlaw08.does. -/
import Derived.Test.YtfmmphabfdpegaaLab
namespace Go.Proofs.Ytfmmphabfdpegaa
open Go.RowKit
set_option linter.unusedVariables false

/-- The cells behind an operation of the kind p. -/
def doC (C : Nat → List Int) (p cell index old v : Int) : Nat → List Int :=
  if p = 0 then C else if p = 1 then opC C cell index v true else if p = 2 then opC C cell index v (valC C cell index == old) else opC C cell index (IntKind.u64.wrap (valC C cell index + v)) true
theorem doC_len (C : Nat → List Int) (p cell index old v : Int) (k : Nat) : (doC C p cell index old v k).length = (C k).length := by
  unfold doC; split
  · rfl
  · split
    · exact opC_len2 _ _ _ _ _ _
    · split <;> exact opC_len2 _ _ _ _ _ _
theorem COk.doC {C : Nat → List Int} (h : COk C) (p cell index old v : Int) : COk (doC C p cell index old v) :=
  ⟨fun j => by rw [doC_len]; exact h.len j, by rw [doC_len]; exact h.l3, by rw [doC_len]; exact h.l4, by rw [doC_len]; exact h.l5⟩
/-- An access and its error. -/
def accFits (a : Acc) (e : Int) : Prop := (a = acc0 ∧ e = 60) ∨ (1 ≤ a.kind ∧ e = 0)
theorem opA_fits (C : Nat → List Int) (kind cell index v : Int) (d : Bool) (hk : 1 ≤ kind) : accFits (opA C kind cell index v d) (opE C cell index) := by
  unfold opA opE
  by_cases h : hasC C cell index
  · rw [if_pos h, if_pos h]; exact .inr ⟨hk, rfl⟩
  · rw [if_neg h, if_neg h]; exact .inl ⟨rfl, rfl⟩
theorem blk_op {w : World} {g : Nat} {t : TypeId} {a b c d e : Value} (h : Blk w g t #[a, b, c, d, e]) :
    w.cell? ⟨g, 0, none⟩ = some a ∧ w.cell? ⟨g, 1, none⟩ = some b ∧ w.cell? ⟨g, 2, none⟩ = some c ∧ w.cell? ⟨g, 3, none⟩ = some d ∧ w.cell? ⟨g, 4, none⟩ = some e :=
  ⟨h.some_ rfl, h.some_ rfl, h.some_ rfl, h.some_ rfl, h.some_ rfl⟩
set_option maxRecDepth 8000 in
set_option maxHeartbeats 8000000 in
theorem does_any (w0 w : World) (R : Asr) (g r : Nat) (c : Cfg) (C : Nat → List Int) (kind cell index old v : Int) (h : Hold w0 w (memA g C * (refA r c C * R))) (hC : COk C) (hx : -9223372036854775808 ≤ index ∧ index ≤ 9223372036854775807) :
    Calls Try.prog 26 #[.pointer (some ⟨g, 0, none⟩), .pointer (some ⟨r, 0, none⟩), .agg #[.int .i64 kind, .int .i64 cell, .int .i64 index, .int .u64 old, .int .u64 v]] w (BothPost w0 (.bool true) (memA g (doC C (place kind 4) cell index old v) * (refA r c (doC C (place kind 4) cell index old v) * R))) := by
  have HC := hid hC
  have h2 := ((h.newBlk (t := 46) (cs := #[.int .i64 kind, .int .i64 cell, .int .i64 index, .int .u64 old, .int .u64 v])).newBlk (t := 39) (cs := #[.int .i64 0, .int .i64 0, .int .i64 0, .int .u64 0, .int .u64 0, .bool false])).newBlk (t := 39) (cs := #[.int .i64 0, .int .i64 0, .int .i64 0, .int .u64 0, .int .u64 0, .bool false])
  have H2 := hid h2
  have k0 := place_nonneg kind 4 (by omega)
  have k1 := place_lt kind 4 (by omega)
  obtain ⟨p, hp⟩ : ∃ p, p = place kind 4 := ⟨_, rfl⟩
  have HP := hid hp
  rw [← hp] at k0 k1 ⊢
  clear h h2 hC hp
  go_enter Try.func26, Try.ntmps26
  go_wp2_with fail
  have h2 := H2.out
  clear H2
  simp only [World.size_alloc, Nat.add_assoc, Nat.reduceAdd] at h2
  generalize hW : World.alloc _ _ = W at h2 ⊢
  have l1 := h2.drop.blk.lt
  have n1 : w.heap.size ≠ w.heap.size + 1 := by omega
  have n2 : w.heap.size ≠ w.heap.size + 2 := by omega
  have n3 : w.heap.size + 1 ≠ w.heap.size + 2 := by omega
  generalize w.heap.size + 2 = gb at h2 n1 n2 n3 ⊢
  generalize w.heap.size + 1 = ga at h2 n1 n2 n3 l1 ⊢
  generalize w.heap.size = go at h2 n1 n2 n3 ⊢
  clear hW l1
  refine (place_any _ _ _ (by omega) (by omega)).mono ?_
  rintro e w' ⟨rfl, rfl⟩
  rw [← HP.out]
  have hp4 : p = 0 ∨ p = 1 ∨ p = 2 ∨ p = 3 := by omega
  clear k0 k1 HP
  rcases hp4 with rfl | rfl | rfl | rfl
  · have hD : doC C 0 cell index old v = C := if_pos rfl
    rw [hD]
    clear hD
    obtain ⟨q0, q1, q2, q3, q4⟩ := blk_op h2.drop.drop.blk
    go_wp2_with fail
    refine (mem_load w0 _ _ g C cell index (h2.imp (Imp.fourth _ _ _ _ _)) hx HC.out.len).mono ?_
    rintro e w1 ⟨rfl, h3⟩
    have hfit := opA_fits C 1 cell index (valC C cell index) true (by decide)
    generalize hA : opA C 1 cell index (valC C cell index) true = a at hfit ⊢
    generalize opE C cell index = er at hfit ⊢
    have HA := hid hA
    have HF := hid hfit
    clear h2 hA hfit q0 q1 q2 q3 q4
    replace h3 := h3.fourth'
    obtain ⟨q0, q1, q2, q3, q4⟩ := blk_op h3.drop.drop.blk
    obtain ⟨⟨x0, x1, x2, x3, x4, x5⟩, z0, z1, z2, z3, z4, z5⟩ := blk_acc h3.drop.blk
    have H4 := hid (h3.swap.setAcc (.int .i64 a.kind) (.int .i64 a.cell) (.int .i64 a.index) (.int .u64 a.got) (.int .u64 a.put) (.bool a.done))
    clear h3
    go_wp2_with fail
    have h4 := H4.out
    generalize hW : World.setCell _ _ _ = W4 at h4 ⊢
    clear hW H4 x0 x1 x2 x3 x4 x5 z0 z1 z2 z3 z4 z5 q0 q1 q2 q3 q4
    have h5 := (h4.imp (Imp.under _ (Imp.fourth _ _ _ _ _))).swap
    refine (ref_load w0 _ _ r c C cell index h5 HC.out).mono ?_
    rintro e w5 ⟨rfl, h6⟩
    rw [HA.out]
    clear h4 h5 HA
    obtain ⟨⟨x0, x1, x2, x3, x4, x5⟩, z0, z1, z2, z3, z4, z5⟩ := blk_acc h6.drop.drop.blk
    obtain ⟨⟨y0, y1, y2, y3, y4, y5⟩, _⟩ := blk_acc h6.drop.blk
    have H8 := hid (h6.third.setAcc (.int .i64 a.kind) (.int .i64 a.cell) (.int .i64 a.index) (.int .u64 a.got) (.int .u64 a.put) (.bool a.done))
    clear h6
    have hf := HF.out
    clear HF
    have hfin : Hid (∀ W, Hold w0 W (blkA 39 gb #[.int .i64 a.kind, .int .i64 a.cell, .int .i64 a.index, .int .u64 a.got, .int .u64 a.put, .bool a.done] * (refA r c C * (blkA 39 ga #[.int .i64 a.kind, .int .i64 a.cell, .int .i64 a.index, .int .u64 a.got, .int .u64 a.put, .bool a.done] * (blkA 46 go #[.int .i64 kind, .int .i64 cell, .int .i64 index, .int .u64 old, .int .u64 v] * (memA g C * R))))) → BothPost w0 (.bool true) (memA g C * (refA r c C * R)) (.returned (.bool true)) W) := hid fun W hW =>
      ⟨rfl, (hW.drop.imp (Imp.under _ ((Imp.drop _ _).trans (Imp.drop _ _)))).swap⟩
    rcases hf with ⟨rfl, rfl⟩ | ⟨hk, rfl⟩
    · unfold acc0 at *
      go_wp2_with fail
      go_ret
      exact hfin.out _ H8.out
    · have e1 : (a.kind == 0) = false := by simp; omega
      go_wp2_with fail
      go_ret
      exact hfin.out _ H8.out
  · have hD : doC C 1 cell index old v = (opC C cell index v true) := by unfold doC; rw [if_neg (by decide), if_pos rfl]
    rw [hD]
    clear hD
    obtain ⟨q0, q1, q2, q3, q4⟩ := blk_op h2.drop.drop.blk
    go_wp2_with fail
    refine (mem_store w0 _ _ g C cell index v (h2.imp (Imp.fourth _ _ _ _ _)) hx HC.out.len).mono ?_
    rintro e w1 ⟨rfl, h3⟩
    have hfit := opA_fits C 2 cell index v true (by decide)
    generalize hA : opA C 2 cell index v true = a at hfit ⊢
    generalize opE C cell index = er at hfit ⊢
    have HA := hid hA
    have HF := hid hfit
    clear h2 hA hfit q0 q1 q2 q3 q4
    replace h3 := h3.fourth'
    obtain ⟨q0, q1, q2, q3, q4⟩ := blk_op h3.drop.drop.blk
    obtain ⟨⟨x0, x1, x2, x3, x4, x5⟩, z0, z1, z2, z3, z4, z5⟩ := blk_acc h3.drop.blk
    have H4 := hid (h3.swap.setAcc (.int .i64 a.kind) (.int .i64 a.cell) (.int .i64 a.index) (.int .u64 a.got) (.int .u64 a.put) (.bool a.done))
    clear h3
    go_wp2_with fail
    have h4 := H4.out
    generalize hW : World.setCell _ _ _ = W4 at h4 ⊢
    clear hW H4 x0 x1 x2 x3 x4 x5 z0 z1 z2 z3 z4 z5 q0 q1 q2 q3 q4
    have h5 := (h4.imp (Imp.under _ (Imp.fourth _ _ _ _ _))).swap
    refine (ref_store w0 _ _ r c C cell index v h5 HC.out).mono ?_
    rintro e w5 ⟨rfl, h6⟩
    rw [HA.out]
    clear h4 h5 HA
    obtain ⟨⟨x0, x1, x2, x3, x4, x5⟩, z0, z1, z2, z3, z4, z5⟩ := blk_acc h6.drop.drop.blk
    obtain ⟨⟨y0, y1, y2, y3, y4, y5⟩, _⟩ := blk_acc h6.drop.blk
    have H8 := hid (h6.third.setAcc (.int .i64 a.kind) (.int .i64 a.cell) (.int .i64 a.index) (.int .u64 a.got) (.int .u64 a.put) (.bool a.done))
    clear h6
    have hf := HF.out
    clear HF
    have hfin : Hid (∀ W, Hold w0 W (blkA 39 gb #[.int .i64 a.kind, .int .i64 a.cell, .int .i64 a.index, .int .u64 a.got, .int .u64 a.put, .bool a.done] * (refA r c (opC C cell index v true) * (blkA 39 ga #[.int .i64 a.kind, .int .i64 a.cell, .int .i64 a.index, .int .u64 a.got, .int .u64 a.put, .bool a.done] * (blkA 46 go #[.int .i64 kind, .int .i64 cell, .int .i64 index, .int .u64 old, .int .u64 v] * (memA g (opC C cell index v true) * R))))) → BothPost w0 (.bool true) (memA g (opC C cell index v true) * (refA r c (opC C cell index v true) * R)) (.returned (.bool true)) W) := hid fun W hW =>
      ⟨rfl, (hW.drop.imp (Imp.under _ ((Imp.drop _ _).trans (Imp.drop _ _)))).swap⟩
    rcases hf with ⟨rfl, rfl⟩ | ⟨hk, rfl⟩
    · unfold acc0 at *
      go_wp2_with fail
      go_ret
      exact hfin.out _ H8.out
    · have e1 : (a.kind == 0) = false := by simp; omega
      go_wp2_with fail
      go_ret
      exact hfin.out _ H8.out
  · have hD : doC C 2 cell index old v = (opC C cell index v (valC C cell index == old)) := by unfold doC; rw [if_neg (by decide), if_neg (by decide), if_pos rfl]
    rw [hD]
    clear hD
    obtain ⟨q0, q1, q2, q3, q4⟩ := blk_op h2.drop.drop.blk
    go_wp2_with fail
    refine (mem_swap w0 _ _ g C cell index old v (h2.imp (Imp.fourth _ _ _ _ _)) hx HC.out.len).mono ?_
    rintro e w1 ⟨rfl, h3⟩
    have hfit := opA_fits C 3 cell index v (valC C cell index == old) (by decide)
    generalize hA : opA C 3 cell index v (valC C cell index == old) = a at hfit ⊢
    generalize opE C cell index = er at hfit ⊢
    have HA := hid hA
    have HF := hid hfit
    clear h2 hA hfit q0 q1 q2 q3 q4
    replace h3 := h3.fourth'
    obtain ⟨q0, q1, q2, q3, q4⟩ := blk_op h3.drop.drop.blk
    obtain ⟨⟨x0, x1, x2, x3, x4, x5⟩, z0, z1, z2, z3, z4, z5⟩ := blk_acc h3.drop.blk
    have H4 := hid (h3.swap.setAcc (.int .i64 a.kind) (.int .i64 a.cell) (.int .i64 a.index) (.int .u64 a.got) (.int .u64 a.put) (.bool a.done))
    clear h3
    go_wp2_with fail
    have h4 := H4.out
    generalize hW : World.setCell _ _ _ = W4 at h4 ⊢
    clear hW H4 x0 x1 x2 x3 x4 x5 z0 z1 z2 z3 z4 z5 q0 q1 q2 q3 q4
    have h5 := (h4.imp (Imp.under _ (Imp.fourth _ _ _ _ _))).swap
    refine (ref_swap w0 _ _ r c C cell index old v h5 HC.out).mono ?_
    rintro e w5 ⟨rfl, h6⟩
    rw [HA.out]
    clear h4 h5 HA
    obtain ⟨⟨x0, x1, x2, x3, x4, x5⟩, z0, z1, z2, z3, z4, z5⟩ := blk_acc h6.drop.drop.blk
    obtain ⟨⟨y0, y1, y2, y3, y4, y5⟩, _⟩ := blk_acc h6.drop.blk
    have H8 := hid (h6.third.setAcc (.int .i64 a.kind) (.int .i64 a.cell) (.int .i64 a.index) (.int .u64 a.got) (.int .u64 a.put) (.bool a.done))
    clear h6
    have hf := HF.out
    clear HF
    have hfin : Hid (∀ W, Hold w0 W (blkA 39 gb #[.int .i64 a.kind, .int .i64 a.cell, .int .i64 a.index, .int .u64 a.got, .int .u64 a.put, .bool a.done] * (refA r c (opC C cell index v (valC C cell index == old)) * (blkA 39 ga #[.int .i64 a.kind, .int .i64 a.cell, .int .i64 a.index, .int .u64 a.got, .int .u64 a.put, .bool a.done] * (blkA 46 go #[.int .i64 kind, .int .i64 cell, .int .i64 index, .int .u64 old, .int .u64 v] * (memA g (opC C cell index v (valC C cell index == old)) * R))))) → BothPost w0 (.bool true) (memA g (opC C cell index v (valC C cell index == old)) * (refA r c (opC C cell index v (valC C cell index == old)) * R)) (.returned (.bool true)) W) := hid fun W hW =>
      ⟨rfl, (hW.drop.imp (Imp.under _ ((Imp.drop _ _).trans (Imp.drop _ _)))).swap⟩
    rcases hf with ⟨rfl, rfl⟩ | ⟨hk, rfl⟩
    · unfold acc0 at *
      go_wp2_with fail
      go_ret
      exact hfin.out _ H8.out
    · have e1 : (a.kind == 0) = false := by simp; omega
      go_wp2_with fail
      go_ret
      exact hfin.out _ H8.out
  · have hD : doC C 3 cell index old v = (opC C cell index (IntKind.u64.wrap (valC C cell index + v)) true) := by unfold doC; rw [if_neg (by decide), if_neg (by decide), if_neg (by decide)]
    rw [hD]
    clear hD
    obtain ⟨q0, q1, q2, q3, q4⟩ := blk_op h2.drop.drop.blk
    go_wp2_with fail
    refine (mem_add w0 _ _ g C cell index v (h2.imp (Imp.fourth _ _ _ _ _)) hx HC.out.len).mono ?_
    rintro e w1 ⟨rfl, h3⟩
    have hfit := opA_fits C 4 cell index (IntKind.u64.wrap (valC C cell index + v)) true (by decide)
    generalize hA : opA C 4 cell index (IntKind.u64.wrap (valC C cell index + v)) true = a at hfit ⊢
    generalize opE C cell index = er at hfit ⊢
    have HA := hid hA
    have HF := hid hfit
    clear h2 hA hfit q0 q1 q2 q3 q4
    replace h3 := h3.fourth'
    obtain ⟨q0, q1, q2, q3, q4⟩ := blk_op h3.drop.drop.blk
    obtain ⟨⟨x0, x1, x2, x3, x4, x5⟩, z0, z1, z2, z3, z4, z5⟩ := blk_acc h3.drop.blk
    have H4 := hid (h3.swap.setAcc (.int .i64 a.kind) (.int .i64 a.cell) (.int .i64 a.index) (.int .u64 a.got) (.int .u64 a.put) (.bool a.done))
    clear h3
    go_wp2_with fail
    have h4 := H4.out
    generalize hW : World.setCell _ _ _ = W4 at h4 ⊢
    clear hW H4 x0 x1 x2 x3 x4 x5 z0 z1 z2 z3 z4 z5 q0 q1 q2 q3 q4
    have h5 := (h4.imp (Imp.under _ (Imp.fourth _ _ _ _ _))).swap
    refine (ref_add w0 _ _ r c C cell index v h5 HC.out).mono ?_
    rintro e w5 ⟨rfl, h6⟩
    rw [HA.out]
    clear h4 h5 HA
    obtain ⟨⟨x0, x1, x2, x3, x4, x5⟩, z0, z1, z2, z3, z4, z5⟩ := blk_acc h6.drop.drop.blk
    obtain ⟨⟨y0, y1, y2, y3, y4, y5⟩, _⟩ := blk_acc h6.drop.blk
    have H8 := hid (h6.third.setAcc (.int .i64 a.kind) (.int .i64 a.cell) (.int .i64 a.index) (.int .u64 a.got) (.int .u64 a.put) (.bool a.done))
    clear h6
    have hf := HF.out
    clear HF
    have hfin : Hid (∀ W, Hold w0 W (blkA 39 gb #[.int .i64 a.kind, .int .i64 a.cell, .int .i64 a.index, .int .u64 a.got, .int .u64 a.put, .bool a.done] * (refA r c (opC C cell index (IntKind.u64.wrap (valC C cell index + v)) true) * (blkA 39 ga #[.int .i64 a.kind, .int .i64 a.cell, .int .i64 a.index, .int .u64 a.got, .int .u64 a.put, .bool a.done] * (blkA 46 go #[.int .i64 kind, .int .i64 cell, .int .i64 index, .int .u64 old, .int .u64 v] * (memA g (opC C cell index (IntKind.u64.wrap (valC C cell index + v)) true) * R))))) → BothPost w0 (.bool true) (memA g (opC C cell index (IntKind.u64.wrap (valC C cell index + v)) true) * (refA r c (opC C cell index (IntKind.u64.wrap (valC C cell index + v)) true) * R)) (.returned (.bool true)) W) := hid fun W hW =>
      ⟨rfl, (hW.drop.imp (Imp.under _ ((Imp.drop _ _).trans (Imp.drop _ _)))).swap⟩
    rcases hf with ⟨rfl, rfl⟩ | ⟨hk, rfl⟩
    · unfold acc0 at *
      go_wp2_with fail
      go_ret
      exact hfin.out _ H8.out
    · have e1 : (a.kind == 0) = false := by simp; omega
      go_wp2_with fail
      go_ret
      exact hfin.out _ H8.out
end Go.Proofs.Ytfmmphabfdpegaa
