/- The reference's cells: Load, Store, Swap, Add. -/
import Derived.Test.YtopcnaakdldkpaaRef08b
namespace Go.Proofs.Ytopcnaakdldkpaa
open Go.RowKit
set_option linter.unusedVariables false

theorem op_yes {C : Nat → List Int} {cell index : Int} (hh : hasC C cell index) (kind v : Int) : opA C kind cell index v true = ⟨kind, cell, index, valC C cell index, v, true⟩ ∧ opC C cell index v true = setK C cell.toNat index.toNat v ∧ opE C cell index = 0 :=
  ⟨if_pos hh, if_pos ⟨hh, rfl⟩, if_pos hh⟩
theorem op_off {C : Nat → List Int} {cell index : Int} (hh : hasC C cell index) (kind v : Int) : opA C kind cell index v false = ⟨kind, cell, index, valC C cell index, valC C cell index, false⟩ ∧ opC C cell index v false = C :=
  ⟨if_pos hh, if_neg (by simp)⟩
theorem op_no {C : Nat → List Int} {cell index : Int} (hh : ¬ hasC C cell index) (kind v : Int) (d : Bool) : opA C kind cell index v d = acc0 ∧ opC C cell index v d = C ∧ opE C cell index = 60 :=
  ⟨if_neg hh, if_neg (fun h => hh h.1), if_neg hh⟩
set_option maxHeartbeats 4000000 in
theorem ref_load (w0 w : World) (R : Asr) (g : Nat) (c : Cfg) (C : Nat → List Int) (cell index : Int) (h : Hold w0 w (refA g c C * R)) (hC : COk C) :
    Calls Try.prog 58 #[.pointer (some ⟨g, 0, none⟩), .int .i64 cell, .int .i64 index] w (RAccPost w0 (refA g c C * R) (opA C 1 cell index (valC C cell index) (true))) := by
  have h1 := (h.newBlk (t := 55) (cs := #[.int .i64 0, .int .i64 0, .int .i64 0, .int .u64 0, .int .u64 0, .bool false])).swap
  have HR := hid (rhas_any w0 _ _ g c C cell index h1 hC)
  by_cases hh : hasC C cell index
  · go_enter Try.func58, Try.ntmps58
    go_wp2_with fail
    refine HR.out.mono ?_
    rintro e w' ⟨rfl, rfl⟩
    rw [decide_eq_true hh]
    clear HR
    go_wp2_with fail
    generalize hgw : World.alloc _ _ = W at h1 ⊢
    generalize w.heap.size = gr at h1 ⊢
    clear hgw
    refine (rdo_read w0 _ _ g c C 1 cell index 0 h1 hC hh).mono ?_
    rintro e w2 ⟨rfl, h2⟩
    obtain ⟨⟨x0, x1, x2, x3, x4, x5⟩, z0, z1, z2, z3, z4, z5⟩ := blk_acc h2.swap.blk
    have H3 := hid ((((((h2.swap.setBlk 0 (.int .i64 1)).setBlk 1 (.int .i64 cell)).setBlk 2 (.int .i64 index)).setBlk 3 (.int .u64 (valC C cell index))).setBlk 4 (.int .u64 (valC C cell index))).setBlk 5 (.bool true))
    clear h2 h1 h
    go_wp2_with fail
    have h3 := H3.out
    generalize hW : World.setCell _ _ _ = W3 at h3 ⊢
    clear hW H3 x0 x1 x2 x3 x4 x5 z0 z1 z2 z3 z4 z5
    obtain ⟨⟨y0, y1, y2, y3, y4, y5⟩, _⟩ := blk_acc h3.blk
    have hfin : Hid (RAccPost w0 (refA g c C * R) (opA C 1 cell index (valC C cell index) (true)) (.returned (.agg #[.int .i64 1, .int .i64 cell, .int .i64 index, .int .u64 (valC C cell index), .int .u64 (valC C cell index), .bool true])) W3) := hid (by
      rw [(op_yes hh _ _).1]
      exact ⟨rfl, h3.drop⟩)
    exact bodyPost_ret (v := .agg #[.int .i64 1, .int .i64 cell, .int .i64 index, .int .u64 (valC C cell index), .int .u64 (valC C cell index), .bool true]) (by simp [results, Try.results58, go_sem, y0, y1, y2, y3, y4, y5]) rfl hfin.out
  · go_enter Try.func58, Try.ntmps58
    go_wp2_with fail
    refine HR.out.mono ?_
    rintro e w' ⟨rfl, rfl⟩
    rw [decide_eq_false hh]
    have hfin : Hid (∀ W, Hold w0 W (refA g c C * R) → RAccPost w0 (refA g c C * R) (opA C 1 cell index (valC C cell index) (true)) (.returned acc0.val) W) := hid fun W hW => by
      rw [(op_no hh _ _ _).1]
      exact ⟨rfl, hW⟩
    clear HR h1
    go_wp2_with fail
    exact bodyPost_ret (v := acc0.val) (by simp [results, Try.results58, acc0, go_sem]) rfl (hfin.out _ (h.alloc _))
set_option maxHeartbeats 4000000 in
theorem ref_store (w0 w : World) (R : Asr) (g : Nat) (c : Cfg) (C : Nat → List Int) (cell index v : Int) (h : Hold w0 w (refA g c C * R)) (hC : COk C) :
    Calls Try.prog 47 #[.pointer (some ⟨g, 0, none⟩), .int .i64 cell, .int .i64 index, .int .u64 v] w (RAccPost w0 (refA g c (opC C cell index (v) (true)) * R) (opA C 2 cell index (v) (true))) := by
  have h1 := (h.newBlk (t := 55) (cs := #[.int .i64 0, .int .i64 0, .int .i64 0, .int .u64 0, .int .u64 0, .bool false])).swap
  have HR := hid (rhas_any w0 _ _ g c C cell index h1 hC)
  by_cases hh : hasC C cell index
  · go_enter Try.func47, Try.ntmps47
    go_wp2_with fail
    refine HR.out.mono ?_
    rintro e w' ⟨rfl, rfl⟩
    rw [decide_eq_true hh]
    clear HR
    go_wp2_with fail
    generalize hgw : World.alloc _ _ = W at h1 ⊢
    generalize w.heap.size = gr at h1 ⊢
    clear hgw
    refine (rdo_write w0 _ _ g c C 2 cell index v h1 hC hh).mono ?_
    rintro e w2 ⟨rfl, h2⟩
    obtain ⟨⟨x0, x1, x2, x3, x4, x5⟩, z0, z1, z2, z3, z4, z5⟩ := blk_acc h2.swap.blk
    have H3 := hid ((((((h2.swap.setBlk 0 (.int .i64 2)).setBlk 1 (.int .i64 cell)).setBlk 2 (.int .i64 index)).setBlk 3 (.int .u64 (valC C cell index))).setBlk 4 (.int .u64 v)).setBlk 5 (.bool true))
    clear h2 h1 h
    go_wp2_with fail
    have h3 := H3.out
    generalize hW : World.setCell _ _ _ = W3 at h3 ⊢
    clear hW H3 x0 x1 x2 x3 x4 x5 z0 z1 z2 z3 z4 z5
    obtain ⟨⟨y0, y1, y2, y3, y4, y5⟩, _⟩ := blk_acc h3.blk
    have hfin : Hid (RAccPost w0 (refA g c (opC C cell index (v) (true)) * R) (opA C 2 cell index (v) (true)) (.returned (.agg #[.int .i64 2, .int .i64 cell, .int .i64 index, .int .u64 (valC C cell index), .int .u64 v, .bool true])) W3) := hid (by
      rw [(op_yes hh _ _).1, (op_yes hh 2 _).2.1]
      exact ⟨rfl, h3.drop⟩)
    exact bodyPost_ret (v := .agg #[.int .i64 2, .int .i64 cell, .int .i64 index, .int .u64 (valC C cell index), .int .u64 v, .bool true]) (by simp [results, Try.results47, go_sem, y0, y1, y2, y3, y4, y5]) rfl hfin.out
  · go_enter Try.func47, Try.ntmps47
    go_wp2_with fail
    refine HR.out.mono ?_
    rintro e w' ⟨rfl, rfl⟩
    rw [decide_eq_false hh]
    have hfin : Hid (∀ W, Hold w0 W (refA g c C * R) → RAccPost w0 (refA g c (opC C cell index (v) (true)) * R) (opA C 2 cell index (v) (true)) (.returned acc0.val) W) := hid fun W hW => by
      rw [(op_no hh _ _ _).1, (op_no hh 2 _ _).2.1]
      exact ⟨rfl, hW⟩
    clear HR h1
    go_wp2_with fail
    exact bodyPost_ret (v := acc0.val) (by simp [results, Try.results47, acc0, go_sem]) rfl (hfin.out _ (h.alloc _))
set_option maxHeartbeats 4000000 in
theorem ref_swap (w0 w : World) (R : Asr) (g : Nat) (c : Cfg) (C : Nat → List Int) (cell index old v : Int) (h : Hold w0 w (refA g c C * R)) (hC : COk C) :
    Calls Try.prog 61 #[.pointer (some ⟨g, 0, none⟩), .int .i64 cell, .int .i64 index, .int .u64 old, .int .u64 v] w (RAccPost w0 (refA g c (opC C cell index (v) (valC C cell index == old)) * R) (opA C 3 cell index (v) (valC C cell index == old))) := by
  have h1 := (h.newBlk (t := 55) (cs := #[.int .i64 0, .int .i64 0, .int .i64 0, .int .u64 0, .int .u64 0, .bool false])).swap
  have HR := hid (rhas_any w0 _ _ g c C cell index h1 hC)
  by_cases hh : hasC C cell index
  · by_cases hvo : valC C cell index = old
    · have hb : (valC C cell index == old) = true := by simpa using hvo
      clear hvo
      go_enter Try.func61, Try.ntmps61
      go_wp2_with fail
      refine HR.out.mono ?_
      rintro e w' ⟨rfl, rfl⟩
      rw [decide_eq_true hh]
      clear HR
      go_wp2_with fail
      refine (rget_any w0 _ _ g c C cell index h1 hC hh).mono ?_
      rintro e w' ⟨rfl, rfl⟩
      go_wp2_with fail
      generalize hgw : World.alloc _ _ = W at h1 ⊢
      generalize w.heap.size = gr at h1 ⊢
      clear hgw
      refine (rdo_write w0 _ _ g c C 3 cell index v h1 hC hh).mono ?_
      rintro e w2 ⟨rfl, h2⟩
      obtain ⟨⟨x0, x1, x2, x3, x4, x5⟩, z0, z1, z2, z3, z4, z5⟩ := blk_acc h2.swap.blk
      have H3 := hid ((((((h2.swap.setBlk 0 (.int .i64 3)).setBlk 1 (.int .i64 cell)).setBlk 2 (.int .i64 index)).setBlk 3 (.int .u64 (valC C cell index))).setBlk 4 (.int .u64 v)).setBlk 5 (.bool true))
      clear h2 h1 h
      go_wp2_with fail
      have h3 := H3.out
      generalize hW : World.setCell _ _ _ = W3 at h3 ⊢
      clear hW H3 x0 x1 x2 x3 x4 x5 z0 z1 z2 z3 z4 z5
      obtain ⟨⟨y0, y1, y2, y3, y4, y5⟩, _⟩ := blk_acc h3.blk
      have hfin : Hid (RAccPost w0 (refA g c (opC C cell index (v) (valC C cell index == old)) * R) (opA C 3 cell index (v) (valC C cell index == old)) (.returned (.agg #[.int .i64 3, .int .i64 cell, .int .i64 index, .int .u64 (valC C cell index), .int .u64 v, .bool true])) W3) := hid (by
        rw [hb, (op_yes hh _ _).1, (op_yes hh 3 _).2.1]
        exact ⟨rfl, h3.drop⟩)
      exact bodyPost_ret (v := .agg #[.int .i64 3, .int .i64 cell, .int .i64 index, .int .u64 (valC C cell index), .int .u64 v, .bool true]) (by simp [results, Try.results61, go_sem, y0, y1, y2, y3, y4, y5]) rfl hfin.out
    · have hb : (valC C cell index == old) = false := by simpa using hvo
      go_enter Try.func61, Try.ntmps61
      go_wp2_with fail
      refine HR.out.mono ?_
      rintro e w' ⟨rfl, rfl⟩
      rw [decide_eq_true hh]
      clear HR
      go_wp2_with fail
      refine (rget_any w0 _ _ g c C cell index h1 hC hh).mono ?_
      rintro e w' ⟨rfl, rfl⟩
      go_wp2_with fail
      generalize hgw : World.alloc _ _ = W at h1 ⊢
      generalize w.heap.size = gr at h1 ⊢
      clear hgw
      refine (rdo_read w0 _ _ g c C 3 cell index v h1 hC hh).mono ?_
      rintro e w2 ⟨rfl, h2⟩
      obtain ⟨⟨x0, x1, x2, x3, x4, x5⟩, z0, z1, z2, z3, z4, z5⟩ := blk_acc h2.swap.blk
      have H3 := hid ((((((h2.swap.setBlk 0 (.int .i64 3)).setBlk 1 (.int .i64 cell)).setBlk 2 (.int .i64 index)).setBlk 3 (.int .u64 (valC C cell index))).setBlk 4 (.int .u64 (valC C cell index))).setBlk 5 (.bool false))
      clear h2 h1 h
      go_wp2_with fail
      have h3 := H3.out
      generalize hW : World.setCell _ _ _ = W3 at h3 ⊢
      clear hW H3 x0 x1 x2 x3 x4 x5 z0 z1 z2 z3 z4 z5
      obtain ⟨⟨y0, y1, y2, y3, y4, y5⟩, _⟩ := blk_acc h3.blk
      have hfin : Hid (RAccPost w0 (refA g c (opC C cell index (v) (valC C cell index == old)) * R) (opA C 3 cell index (v) (valC C cell index == old)) (.returned (.agg #[.int .i64 3, .int .i64 cell, .int .i64 index, .int .u64 (valC C cell index), .int .u64 (valC C cell index), .bool false])) W3) := hid (by
        rw [hb, (op_off hh _ _).1, (op_off hh 3 _).2]
        exact ⟨rfl, h3.drop⟩)
      exact bodyPost_ret (v := .agg #[.int .i64 3, .int .i64 cell, .int .i64 index, .int .u64 (valC C cell index), .int .u64 (valC C cell index), .bool false]) (by simp [results, Try.results61, go_sem, y0, y1, y2, y3, y4, y5]) rfl hfin.out
  · go_enter Try.func61, Try.ntmps61
    go_wp2_with fail
    refine HR.out.mono ?_
    rintro e w' ⟨rfl, rfl⟩
    rw [decide_eq_false hh]
    have hfin : Hid (∀ W, Hold w0 W (refA g c C * R) → RAccPost w0 (refA g c (opC C cell index (v) (valC C cell index == old)) * R) (opA C 3 cell index (v) (valC C cell index == old)) (.returned acc0.val) W) := hid fun W hW => by
      rw [(op_no hh _ _ _).1, (op_no hh 3 _ _).2.1]
      exact ⟨rfl, hW⟩
    clear HR h1
    go_wp2_with fail
    exact bodyPost_ret (v := acc0.val) (by simp [results, Try.results61, acc0, go_sem]) rfl (hfin.out _ (h.alloc _))
end Go.Proofs.Ytopcnaakdldkpaa
