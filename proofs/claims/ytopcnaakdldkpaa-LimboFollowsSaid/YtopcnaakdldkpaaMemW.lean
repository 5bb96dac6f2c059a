/- The program's cells: Load, Store, Swap, Add. -/
import Derived.Test.YtopcnaakdldkpaaMemOps
namespace Go.Proofs.Ytopcnaakdldkpaa
open Go.RowKit
set_option linter.unusedVariables false

theorem opC_self (C : Nat → List Int) (cell index : Int) : opC C cell index (valC C cell index) true = C := by
  unfold opC
  split
  · rename_i h
    have hc := h.1.2
    unfold valC
    unfold getC at hc ⊢
    split at hc
    · rename_i h1
      rw [if_pos h1]
      exact setK_self C _ _
    · simp at hc; have := h.1.1; omega
  · rfl
theorem opC_len (C : Nat → List Int) (cell index v : Int) (d : Bool) (k : Nat) : (opC C cell index v d k).length = (C k).length := by
  unfold opC
  split
  · exact setK_len _ _ _ _ _
  · rfl
def AccPost (w0 : World) (R : Asr) (a : Acc) (er : Int) (e : Ending) (w' : World) : Prop := e = .returned (.tuple #[a.val, .int .i64 er]) ∧ Hold w0 w' R

set_option maxHeartbeats 2000000 in
theorem mem_load (w0 w : World) (R : Asr) (g : Nat) (C : Nat → List Int) (cell index : Int) (h : Hold w0 w (memA g C * R)) (hx : -9223372036854775808 ≤ index ∧ index ≤ 9223372036854775807) (hlen : ∀ k, (C k).length ≤ 1000) :
    Calls Try.prog 51 #[.pointer (some ⟨g, 0, none⟩), .int .i64 cell, .int .i64 index] w (AccPost w0 (memA g C * R) (opA C 1 cell index ((valC C cell index)) (true)) (opE C cell index)) := by
  have h1 := (h.newBlk (t := 55) (cs := #[.int .i64 0, .int .i64 0, .int .i64 0, .int .u64 0, .int .u64 0, .bool false])).swap
  go_enter Try.func51, Try.ntmps51
  go_wp2_with fail
  refine (operate_load w0 _ _ g C cell index hx h1 hlen).mono ?_
  rintro e w1 ⟨rfl, h2⟩
  rw [opC_self] at h2
  replace h2 := h2
  obtain ⟨a, ha⟩ : ∃ a, a = opA C 1 cell index ((valC C cell index)) (true) := ⟨_, rfl⟩
  obtain ⟨er, her⟩ : ∃ er, er = opE C cell index := ⟨_, rfl⟩
  rw [← ha, ← her]
  have hB := h2.swap.blk
  generalize hgr : w.heap.size = gr at h2 hB ⊢
  obtain ⟨⟨x0, x1, x2, x3, x4, x5⟩, z0, z1, z2, z3, z4, z5⟩ := blk_acc hB
  have H3 := hid ((((((h2.swap.setBlk 0 (.int .i64 a.kind)).setBlk 1 (.int .i64 a.cell)).setBlk 2 (.int .i64 a.index)).setBlk 3 (.int .u64 a.got)).setBlk 4 (.int .u64 a.put)).setBlk 5 (.bool a.done))
  have Ha := hid ha
  have Her := hid her
  clear hB h2 h1 h ha her hgr
  go_wp2_with fail
  have h3 := H3.out
  generalize hW : World.setCell _ _ _ = W3 at h3 ⊢
  clear hW H3 x0 x1 x2 x3 x4 x5 z0 z1 z2 z3 z4 z5
  have hB := h3.blk
  obtain ⟨⟨y0, y1, y2, y3, y4, y5⟩, _⟩ := blk_acc hB
  exact bodyPost_ret (v := .tuple #[a.val, .int .i64 er]) (by simp [results, Try.results51, go_sem, y0, y1, y2, y3, y4, y5]) rfl ⟨by rw [Ha.out, Her.out], h3.drop⟩

set_option maxHeartbeats 2000000 in
theorem mem_store (w0 w : World) (R : Asr) (g : Nat) (C : Nat → List Int) (cell index nv : Int) (h : Hold w0 w (memA g C * R)) (hx : -9223372036854775808 ≤ index ∧ index ≤ 9223372036854775807) (hlen : ∀ k, (C k).length ≤ 1000) :
    Calls Try.prog 46 #[.pointer (some ⟨g, 0, none⟩), .int .i64 cell, .int .i64 index, .int .u64 nv] w (AccPost w0 (memA g (opC C cell index (nv) (true)) * R) (opA C 2 cell index (nv) (true)) (opE C cell index)) := by
  have h1 := (((h.newBlk (t := 53) (cs := #[.int .u64 nv])).newBlk (t := 55) (cs := #[.int .i64 0, .int .i64 0, .int .i64 0, .int .u64 0, .int .u64 0, .bool false])).third).imp (Imp.under _ (Imp.swap _ _ _))
  rw [show (w.alloc (.cells #[.int .u64 nv] 53)).heap.size = w.heap.size + 1 by simp] at h1
  go_enter Try.func46, Try.ntmps46
  go_wp2_with fail
  refine (operate_store w0 _ _ g _ C cell index nv hx h1 hlen).mono ?_
  rintro e w1 ⟨rfl, h2⟩
  replace h2 := h2.imp (Imp.under _ (Imp.drop _ _))
  obtain ⟨a, ha⟩ : ∃ a, a = opA C 2 cell index (nv) (true) := ⟨_, rfl⟩
  obtain ⟨er, her⟩ : ∃ er, er = opE C cell index := ⟨_, rfl⟩
  rw [← ha, ← her]
  have hB := h2.swap.blk
  generalize hgr : w.heap.size + 1 = gr at h2 hB ⊢
  obtain ⟨⟨x0, x1, x2, x3, x4, x5⟩, z0, z1, z2, z3, z4, z5⟩ := blk_acc hB
  have H3 := hid ((((((h2.swap.setBlk 0 (.int .i64 a.kind)).setBlk 1 (.int .i64 a.cell)).setBlk 2 (.int .i64 a.index)).setBlk 3 (.int .u64 a.got)).setBlk 4 (.int .u64 a.put)).setBlk 5 (.bool a.done))
  have Ha := hid ha
  have Her := hid her
  clear hB h2 h1 h ha her hgr
  go_wp2_with fail
  have h3 := H3.out
  generalize hW : World.setCell _ _ _ = W3 at h3 ⊢
  clear hW H3 x0 x1 x2 x3 x4 x5 z0 z1 z2 z3 z4 z5
  have hB := h3.blk
  obtain ⟨⟨y0, y1, y2, y3, y4, y5⟩, _⟩ := blk_acc hB
  exact bodyPost_ret (v := .tuple #[a.val, .int .i64 er]) (by simp [results, Try.results46, go_sem, y0, y1, y2, y3, y4, y5]) rfl ⟨by rw [Ha.out, Her.out], h3.drop⟩


set_option maxHeartbeats 2000000 in
theorem mem_swap (w0 w : World) (R : Asr) (g : Nat) (C : Nat → List Int) (cell index old nv : Int) (h : Hold w0 w (memA g C * R)) (hx : -9223372036854775808 ≤ index ∧ index ≤ 9223372036854775807) (hlen : ∀ k, (C k).length ≤ 1000) :
    Calls Try.prog 53 #[.pointer (some ⟨g, 0, none⟩), .int .i64 cell, .int .i64 index, .int .u64 old, .int .u64 nv] w (AccPost w0 (memA g (opC C cell index (nv) (((valC C cell index) == old))) * R) (opA C 3 cell index (nv) (((valC C cell index) == old))) (opE C cell index)) := by
  have h1 := ((((h.newBlk (t := 53) (cs := #[.int .u64 old])).newBlk (t := 53) (cs := #[.int .u64 nv])).newBlk (t := 55) (cs := #[.int .i64 0, .int .i64 0, .int .i64 0, .int .u64 0, .int .u64 0, .bool false])).fourth).imp (Imp.under _ (Imp.swap _ _ _))
  replace h1 := h1.imp (Imp.under _ (Imp.under _ (Imp.swap _ _ _)))
  rw [show ((w.alloc (.cells #[.int .u64 old] 53)).alloc (.cells #[.int .u64 nv] 53)).heap.size = w.heap.size + 2 by simp, show (w.alloc (.cells #[.int .u64 old] 53)).heap.size = w.heap.size + 1 by simp] at h1
  go_enter Try.func53, Try.ntmps53
  go_wp2_with fail
  refine (operate_swap w0 _ _ g _ _ C cell index nv old hx h1 hlen).mono ?_
  rintro e w1 ⟨rfl, h2⟩
  replace h2 := h2.imp (Imp.under _ ((Imp.drop _ _).trans (Imp.drop _ _)))
  obtain ⟨a, ha⟩ : ∃ a, a = opA C 3 cell index (nv) (((valC C cell index) == old)) := ⟨_, rfl⟩
  obtain ⟨er, her⟩ : ∃ er, er = opE C cell index := ⟨_, rfl⟩
  rw [← ha, ← her]
  have hB := h2.swap.blk
  generalize hgr : w.heap.size + 2 = gr at h2 hB ⊢
  obtain ⟨⟨x0, x1, x2, x3, x4, x5⟩, z0, z1, z2, z3, z4, z5⟩ := blk_acc hB
  have H3 := hid ((((((h2.swap.setBlk 0 (.int .i64 a.kind)).setBlk 1 (.int .i64 a.cell)).setBlk 2 (.int .i64 a.index)).setBlk 3 (.int .u64 a.got)).setBlk 4 (.int .u64 a.put)).setBlk 5 (.bool a.done))
  have Ha := hid ha
  have Her := hid her
  clear hB h2 h1 h ha her hgr
  go_wp2_with fail
  have h3 := H3.out
  generalize hW : World.setCell _ _ _ = W3 at h3 ⊢
  clear hW H3 x0 x1 x2 x3 x4 x5 z0 z1 z2 z3 z4 z5
  have hB := h3.blk
  obtain ⟨⟨y0, y1, y2, y3, y4, y5⟩, _⟩ := blk_acc hB
  exact bodyPost_ret (v := .tuple #[a.val, .int .i64 er]) (by simp [results, Try.results53, go_sem, y0, y1, y2, y3, y4, y5]) rfl ⟨by rw [Ha.out, Her.out], h3.drop⟩
end Go.Proofs.Ytopcnaakdldkpaa
