/- Image of the program's cells. -/
import Derived.Test.YtopcnaakdldkpaaRef08
import Derived.Test.YtopcnaakdldkpaaMemW
import Derived.Test.YtopcnaakdldkpaaKit2
namespace Go.Proofs.Ytopcnaakdldkpaa
open Go.RowKit
set_option linter.unusedVariables false

/-- An image's value, laid out as y says. -/
abbrev imgV (C : Nat → List Int) (y : Lay) : Value := .agg #[slV C y 1, slV C y 2, .int .u64 (w1 C 3), .int .u64 (w1 C 4), .int .u64 (w1 C 5), slV C y 6, slV C y 7, slV C y 8]
def ImgPost (w0 : World) (R : Asr) (g : Nat) (C : Nat → List Int) (e : Ending) (w' : World) : Prop := ∃ y : Lay, e = .returned (imgV C y) ∧ Hold w0 w' (sepR (refL C y) (memA g C * R))
theorem blk8 {w : World} {g : Nat} {t : TypeId} {v0 v1 v2 v3 v4 v5 v6 v7 : Value} (h : Blk w g t #[v0, v1, v2, v3, v4, v5, v6, v7]) :
    (w.cell? ⟨g, 0, none⟩ = some v0 ∧ w.cell? ⟨g, 1, none⟩ = some v1 ∧ w.cell? ⟨g, 2, none⟩ = some v2 ∧ w.cell? ⟨g, 3, none⟩ = some v3 ∧ w.cell? ⟨g, 4, none⟩ = some v4 ∧ w.cell? ⟨g, 5, none⟩ = some v5 ∧ w.cell? ⟨g, 6, none⟩ = some v6 ∧ w.cell? ⟨g, 7, none⟩ = some v7) ∧
    w.frozen? ⟨g, 0, none⟩ = false ∧ w.frozen? ⟨g, 1, none⟩ = false ∧ w.frozen? ⟨g, 2, none⟩ = false ∧ w.frozen? ⟨g, 3, none⟩ = false ∧ w.frozen? ⟨g, 4, none⟩ = false ∧ w.frozen? ⟨g, 5, none⟩ = false ∧ w.frozen? ⟨g, 6, none⟩ = false ∧ w.frozen? ⟨g, 7, none⟩ = false :=
  ⟨⟨h.some_ rfl, h.some_ rfl, h.some_ rfl, h.some_ rfl, h.some_ rfl, h.some_ rfl, h.some_ rfl, h.some_ rfl⟩, h.frozen 0, h.frozen 1, h.frozen 2, h.frozen 3, h.frozen 4, h.frozen 5, h.frozen 6, h.frozen 7⟩
theorem Imp.rev5 (p q r t u s : Asr) : Imp (p * (q * (r * (t * (u * s))))) (u * (t * (r * (q * (p * s))))) :=
  ((Imp.under p (Imp.fourth q r t u s)).trans (Imp.swap p u _)).trans (Imp.under u ((Imp.fourth p q r t s).trans (Imp.under t ((Imp.third p q r s).trans (Imp.under r (Imp.swap p q s))))))
theorem Imp.exI {α : Type} {p : α → Asr} (x : α) : Imp (p x) (Asr.ex p) := fun w fp h => ⟨fp, ⟨x, h⟩, fun _ hb => hb⟩
section
variable {w0 w : World} {R : Asr} {g : Nat} {C : Nat → List Int} {x : Lay}
abbrev memF (g : Nat) (C : Nat → List Int) (x : Lay) (R : Asr) : Asr := blkA 107 g #[.map (some x.m)] * sepR (memL C x) R
theorem Imp.memShut : Imp (memF g C x R) (memA g C * R) := ((Imp.under _ (Imp.fold R (memL C x))).trans (Imp.assoc' _ _ _)).trans (Imp.on R (Imp.exI (p := memX g C) x))
theorem Hold.kindReads (h : Hold w0 w (memF g C x R)) {k : Nat} (hk : 1 ≤ k ∧ k ≤ 8) : Reads w ((x.A k).elim 0 (·.block)) (x.A k) (C k).length ((C k).map (Value.int .u64)) := by
  obtain ⟨R', hR, _⟩ := h.memRow hk
  exact hR.rowReads
theorem Hold.kindWord (h : Hold w0 w (memF g C x R)) {k : Nat} (hk : 1 ≤ k ∧ k ≤ 8) (hl : (C k).length = 1) : ∃ gk, x.A k = some ⟨gk, 0, none⟩ ∧ ∀ w', Hold w0 w' (memF g C x R) → w'.cell? ⟨gk, 0, none⟩ = some (.int .u64 (w1 C k)) := by
  obtain ⟨R', hR, _⟩ := h.memRow hk
  obtain ⟨gk, hg, _⟩ := set_at (zs := C k) (k := .u64) (A := x.A k) (cp := x.c k) (n := (C k).length) (e := 53) hR (i := 0) (by omega)
  refine ⟨gk, hg, fun w' hw => ?_⟩
  obtain ⟨R2, hR2, _⟩ := hw.memRow hk
  obtain ⟨g2, hg2, hc2, _⟩ := set_at (zs := C k) (k := .u64) (A := x.A k) (cp := x.c k) (n := (C k).length) (e := 53) hR2 (i := 0) (by omega)
  rw [hg] at hg2
  injection hg2 with hg2
  injection hg2 with hg2
  subst hg2
  exact hc2
theorem Hold.kindLook (h : Hold w0 w (memF g C x R)) {k : Nat} (hk : 1 ≤ k ∧ k ≤ 8) {v : Value} (hv : slV C x k = v) : (Instr.lookup 105 (.map (some x.m)) (.int .i64 (k : Int)) false).run Try.prog w = .ok v w := by
  have h1 := h.memMap.mapLook (P := Try.prog) Try.underlying105 Try.underlying3 (.slice none 0 0) zero_slice (k : Int)
  rw [look_mem, if_pos (by omega)] at h1
  simpa [hv] using h1
end

set_option maxRecDepth 8000 in
set_option maxHeartbeats 4000000 in
theorem image_any (w0 w : World) (R : Asr) (g : Nat) (C : Nat → List Int) (h : Hold w0 w (memA g C * R)) (hC : COk C) :
    Calls Try.prog 30 #[.pointer (some ⟨g, 0, none⟩)] w (ImgPost w0 R g C) := by
  obtain ⟨x, hX⟩ := h.memOpen
  have hlen := hC.len
  obtain ⟨g3, s3, hw3⟩ := Hold.kindWord (k := 3) hX (by decide) hC.l3
  obtain ⟨g4, s4, hw4⟩ := Hold.kindWord (k := 4) hX (by decide) hC.l4
  obtain ⟨g5, s5, hw5⟩ := Hold.kindWord (k := 5) hX (by decide) hC.l5
  have s3 : slV C x 3 = .slice (some ⟨g3, 0, none⟩) 1 (x.c 3) := by unfold slV; rw [s3, hC.l3]
  have s4 : slV C x 4 = .slice (some ⟨g4, 0, none⟩) 1 (x.c 4) := by unfold slV; rw [s4, hC.l4]
  have s5 : slV C x 5 = .slice (some ⟨g5, 0, none⟩) 1 (x.c 5) := by unfold slV; rw [s5, hC.l5]
  have h1 : Hold w0 _ (blkA 72 w.heap.size #[.slice none 0 0, .slice none 0 0, .int .u64 0, .int .u64 0, .int .u64 0, .slice none 0 0, .slice none 0 0, .slice none 0 0] * memF g C x R) := hX.newBlk
  have HS1 := hid (And.intro s3 (And.intro s4 s5))
  have HW := hid (And.intro hw3 (And.intro hw4 hw5))
  have HL := hid hlen
  clear s3 s4 s5 hw3 hw4 hw5 hlen hX h
  go_enter Try.func30, Try.ntmps30
  go_wp2_with fail
  generalize w.heap.size = gr at h1 ⊢
  obtain ⟨s3, s4, s5⟩ := HS1.out
  obtain ⟨hw3, hw4, hw5⟩ := HW.out
  have hlen := HL.out
  have HS := hid h1.drew
  have HC := hid h1.drew
  have HB := hid h1.drop.drew
  clear h1
  refine wp_region_brk [52] (by kernel_rfl) ?_
  refine wpAnyB_now (fun w' => Hold w0 w' (blkA 72 gr #[.slice none 0 0, .slice none 0 0, .int .u64 0, .int .u64 0, .int .u64 0, .slice none 0 0, .slice none 0 0, .slice none 0 0] * memF g C x R)) (fun _ _ => trivial) _ _ _ _ ?_
  refine' wpAnyB_bulk [true, true, true, true, true, false, true, true, true, true, true, false, true, true, true, true, true, true, true, true, true, true, true, true, true, true, true, true, true, true, true, true, true, true, true, true, true, true, false, true, true, true, true, true, false, true, true, true, true, true] 58 (listed' := #[true, true, true, true, true, false, true, true, true, true, true, false, true, true, true, true, true, true, true, true, true, true, true, true, true, true, true, true, true, true, true, true, true, true, true, true, true, true, false, true, true, true, true, true, false, true, true, true, true, true, false, false, false]) rfl (by kernel_rfl) (by kernel_rfl) (by kernel_rfl) (by kernel_rfl) (by kernel_rfl) (by kernel_rfl) (by decide) (fun _ _ _ _ h => h) rfl HS.out (fun wq hq => ?_) ?_; rotate_left 1
  · simp only [maskL]
    have c0 : wq.cell? ⟨g, 0, none⟩ = some (.map (some x.m)) := hq.drop.blk.some_ rfl
    have d3 := hw3 wq hq.drop
    have d4 := hw4 wq hq.drop
    have d5 := hw5 wq hq.drop
    have l1 : (Instr.lookup 105 (.map (some x.m)) (.int .i64 1) false).run Try.prog wq = .ok (.slice (x.A 1) (C 1).length (x.c 1)) wq := hq.drop.kindLook (k := 1) (by decide) rfl
    have l2 : (Instr.lookup 105 (.map (some x.m)) (.int .i64 2) false).run Try.prog wq = .ok (.slice (x.A 2) (C 2).length (x.c 2)) wq := hq.drop.kindLook (k := 2) (by decide) rfl
    have l3 : (Instr.lookup 105 (.map (some x.m)) (.int .i64 3) false).run Try.prog wq = .ok (.slice (some ⟨g3, 0, none⟩) 1 (x.c 3)) wq := hq.drop.kindLook (k := 3) (by decide) s3
    have l4 : (Instr.lookup 105 (.map (some x.m)) (.int .i64 4) false).run Try.prog wq = .ok (.slice (some ⟨g4, 0, none⟩) 1 (x.c 4)) wq := hq.drop.kindLook (k := 4) (by decide) s4
    have l5 : (Instr.lookup 105 (.map (some x.m)) (.int .i64 5) false).run Try.prog wq = .ok (.slice (some ⟨g5, 0, none⟩) 1 (x.c 5)) wq := hq.drop.kindLook (k := 5) (by decide) s5
    have l6 : (Instr.lookup 105 (.map (some x.m)) (.int .i64 6) false).run Try.prog wq = .ok (.slice (x.A 6) (C 6).length (x.c 6)) wq := hq.drop.kindLook (k := 6) (by decide) rfl
    have l7 : (Instr.lookup 105 (.map (some x.m)) (.int .i64 7) false).run Try.prog wq = .ok (.slice (x.A 7) (C 7).length (x.c 7)) wq := hq.drop.kindLook (k := 7) (by decide) rfl
    have l8 : (Instr.lookup 105 (.map (some x.m)) (.int .i64 8) false).run Try.prog wq = .ok (.slice (x.A 8) (C 8).length (x.c 8)) wq := hq.drop.kindLook (k := 8) (by decide) rfl
    repeat (go_big_quiet_step (fail))
    exact wpQuiet_nil rfl
  refine wpAnyB_bar [false, false, false, false, false, true] (fuel := 6) (by rfl) (by rfl) (by kernel_rfl) (fun QB hQB hQX => ?_)
  simp only [maskL]
  go_wp2_with fail
  have hr := HB.out.kindReads (k := 1) (by decide)
  refine (clone_uint64 _ _ _ _ _ _ hr (by have := hlen 1; omega)).mono ?_
  rintro e u1 ⟨A1, c1, rfl, ho, hc⟩
  replace HC := hid (HC.out.newRow hc ho (Nat.le_refl _))
  replace HB := hid (HB.out.chg0 hc)
  replace HS := hid (HS.out.chg0 hc)
  clear hr ho hc
  go_wp2_with fail
  refine hQB.out _ _ HS.out ?_
  clear hQB hQX QB
  refine wpAnyB_bar [false, false, false, false, false, false, false, false, false, false, false, true] (fuel := 5) (by rfl) (by rfl) (by kernel_rfl) (fun QB hQB hQX => ?_)
  simp only [maskL]
  go_wp2_with fail
  have hr := HB.out.kindReads (k := 2) (by decide)
  refine (clone_uint64 _ _ _ _ _ _ hr (by have := hlen 2; omega)).mono ?_
  rintro e u2 ⟨A2, c2, rfl, ho, hc⟩
  replace HC := hid (HC.out.newRow hc ho (Nat.le_refl _))
  replace HB := hid (HB.out.chg0 hc)
  replace HS := hid (HS.out.chg0 hc)
  clear hr ho hc
  go_wp2_with fail
  refine hQB.out _ _ HS.out ?_
  clear hQB hQX QB
  refine wpAnyB_bar [false, false, false, false, false, false, false, false, false, false, false, false, false, false, false, false, false, false, false, false, false, false, false, false, false, false, false, false, false, false, false, false, false, false, false, false, false, false, true] (fuel := 4) (by rfl) (by rfl) (by kernel_rfl) (fun QB hQB hQX => ?_)
  simp only [maskL]
  go_wp2_with fail
  have hr := HB.out.kindReads (k := 6) (by decide)
  refine (clone_uint64 _ _ _ _ _ _ hr (by have := hlen 6; omega)).mono ?_
  rintro e u6 ⟨A6, c6, rfl, ho, hc⟩
  replace HC := hid (HC.out.newRow hc ho (Nat.le_refl _))
  replace HB := hid (HB.out.chg0 hc)
  replace HS := hid (HS.out.chg0 hc)
  clear hr ho hc
  go_wp2_with fail
  refine hQB.out _ _ HS.out ?_
  clear hQB hQX QB
  refine wpAnyB_bar [false, false, false, false, false, false, false, false, false, false, false, false, false, false, false, false, false, false, false, false, false, false, false, false, false, false, false, false, false, false, false, false, false, false, false, false, false, false, false, false, false, false, false, false, true] (fuel := 3) (by rfl) (by rfl) (by kernel_rfl) (fun QB hQB hQX => ?_)
  simp only [maskL]
  go_wp2_with fail
  have hr := HB.out.kindReads (k := 7) (by decide)
  refine (clone_uint64 _ _ _ _ _ _ hr (by have := hlen 7; omega)).mono ?_
  rintro e u7 ⟨A7, c7, rfl, ho, hc⟩
  replace HC := hid (HC.out.newRow hc ho (Nat.le_refl _))
  replace HB := hid (HB.out.chg0 hc)
  replace HS := hid (HS.out.chg0 hc)
  clear hr ho hc
  go_wp2_with fail
  refine hQB.out _ _ HS.out ?_
  clear hQB hQX QB
  refine wpAnyB_bar [false, false, false, false, false, false, false, false, false, false, false, false, false, false, false, false, false, false, false, false, false, false, false, false, false, false, false, false, false, false, false, false, false, false, false, false, false, false, false, false, false, false, false, false, false, false, false, false, false, false, true] (fuel := 2) (by rfl) (by rfl) (by kernel_rfl) (fun QB hQB hQX => ?_)
  simp only [maskL]
  go_wp2_with fail
  have hr := HB.out.kindReads (k := 8) (by decide)
  refine (clone_uint64 _ _ _ _ _ _ hr (by have := hlen 8; omega)).mono ?_
  rintro e u8 ⟨A8, c8, rfl, ho, hc⟩
  replace HC := hid (HC.out.newRow hc ho (Nat.le_refl _))
  replace HB := hid (HB.out.chg0 hc)
  replace HS := hid (HS.out.chg0 hc)
  clear hr ho hc
  go_wp2_with fail
  refine hQB.out _ _ HS.out ?_
  clear hQB hQX QB
  have HF := hid ((show Hold w0 _ (sepR [numA (.slice A8 (C 8).length c8) (C 8).length (C 8), numA (.slice A7 (C 7).length c7) (C 7).length (C 7), numA (.slice A6 (C 6).length c6) (C 6).length (C 6), numA (.slice A2 (C 2).length c2) (C 2).length (C 2), numA (.slice A1 (C 1).length c1) (C 1).length (C 1), blkA 72 gr #[.slice none 0 0, .slice none 0 0, .int .u64 0, .int .u64 0, .int .u64 0, .slice none 0 0, .slice none 0 0, .slice none 0 0]] (memF g C x R)) from HC.out).nth 5 rfl)
  have hB := HF.out.blk
  obtain ⟨⟨x0, x1, x2, x3, x4, x5, x6, x7⟩, z0, z1, z2, z3, z4, z5, z6, z7⟩ := blk8 hB
  have h9 := ((((((((HF.out.setBlk 0 (.slice A1 (C 1).length c1)).setBlk 1 (.slice A2 (C 2).length c2)).setBlk 2 (.int .u64 (w1 C 3))).setBlk 3 (.int .u64 (w1 C 4))).setBlk 4 (.int .u64 (w1 C 5))).setBlk 5 (.slice A6 (C 6).length c6)).setBlk 6 (.slice A7 (C 7).length c7)).setBlk 7 (.slice A8 (C 8).length c8))
  have H9 := hid h9
  clear hB h9
  refine' wpAnyB_bulk [false, false, false, false, false, false, false, false, false, false, false, false, false, false, false, false, false, false, false, false, false, false, false, false, false, false, false, false, false, false, false, false, false, false, false, false, false, false, false, false, false, false, false, false, false, false, false, false, false, false, false, true] 58 (listed' := #[true, true, true, true, true, true, true, true, true, true, true, true, true, true, true, true, true, true, true, true, true, true, true, true, true, true, true, true, true, true, true, true, true, true, true, true, true, true, true, true, true, true, true, true, true, true, true, true, true, true, true, true, false]) rfl (by kernel_rfl) (by kernel_rfl) (by kernel_rfl) (by kernel_rfl) (by kernel_rfl) (by kernel_rfl) (by decide) (fun _ _ _ _ h => h) rfl HS.out (fun wq hq => ?_) ?_; rotate_left 1
  · simp only [maskL]
    repeat (go_big_quiet_step (fail))
    exact wpQuiet_nil rfl
  refine wpAnyB_brk [false, false, false, false, false, false, false, false, false, false, false, false, false, false, false, false, false, false, false, false, false, false, false, false, false, false, false, false, false, false, false, false, false, false, false, false, false, false, false, false, false, false, false, false, false, false, false, false, false, false, false, false, true] (fuel := 0) (by rfl) (by rfl) (by kernel_rfl) (by kernel_rfl) (fun QB hQB hQX => ?_)
  simp only [maskL]
  go_wp2_with fail
  have h9 := H9.out
  generalize hW : World.setCell _ _ _ = W9 at h9 ⊢
  have H9b := hid h9
  clear hW H9 h9 x0 x1 x2 x3 x4 x5 x6 x7 z0 z1 z2 z3 z4 z5 z6 z7
  refine hQB.out _ _ ?_
  refine wpAnyB_forget (by kernel_rfl) ?_
  refine wpAnyB_done (by kernel_rfl) ?_ _
  -- END
  go_wp2_with fail
  obtain ⟨⟨y0, y1, y2, y3, y4, y5, y6, y7⟩, _⟩ := blk8 H9b.out.blk
  have hfin : Hid (ImgPost w0 R g C (.returned (.agg #[.slice A1 (C 1).length c1, .slice A2 (C 2).length c2, .int .u64 (w1 C 3), .int .u64 (w1 C 4), .int .u64 (w1 C 5), .slice A6 (C 6).length c6, .slice A7 (C 7).length c7, .slice A8 (C 8).length c8])) W9) :=
    hid ⟨⟨0, fun k => match k with | 1 => A1 | 2 => A2 | 6 => A6 | 7 => A7 | _ => A8, fun k => match k with | 1 => c1 | 2 => c2 | 6 => c6 | 7 => c7 | _ => c8⟩, rfl, (H9b.out.drop.imp (Imp.rev5 _ _ _ _ _ _)).imp (Imp.under _ (Imp.under _ (Imp.under _ (Imp.under _ (Imp.under _ ((Imp.drop _ _).trans Imp.memShut))))))⟩
  exact bodyPost_ret (v := .agg #[.slice A1 (C 1).length c1, .slice A2 (C 2).length c2, .int .u64 (w1 C 3), .int .u64 (w1 C 4), .int .u64 (w1 C 5), .slice A6 (C 6).length c6, .slice A7 (C 7).length c7, .slice A8 (C 8).length c8]) (by simp [results, Try.results30, go_sem, y0, y1, y2, y3, y4, y5, y6, y7]) rfl hfin.out

/-! ## Equal images -/
structure ImgR (w : World) (C : Nat → List Int) (x : Lay) : Prop where
  r1 : Reads w ((x.A 1).elim 0 (·.block)) (x.A 1) (C 1).length ((C 1).map (Value.int .u64))
  r2 : Reads w ((x.A 2).elim 0 (·.block)) (x.A 2) (C 2).length ((C 2).map (Value.int .u64))
  r6 : Reads w ((x.A 6).elim 0 (·.block)) (x.A 6) (C 6).length ((C 6).map (Value.int .u64))
  r7 : Reads w ((x.A 7).elim 0 (·.block)) (x.A 7) (C 7).length ((C 7).map (Value.int .u64))
  r8 : Reads w ((x.A 8).elim 0 (·.block)) (x.A 8) (C 8).length ((C 8).map (Value.int .u64))
theorem ImgR.chg {w w' : World} {C : Nat → List Int} {x : Lay} (h : ImgR w C x) (hc : Chg [] w w') : ImgR w' C x := ⟨h.r1.chg hc (by simp), h.r2.chg hc (by simp), h.r6.chg hc (by simp), h.r7.chg hc (by simp), h.r8.chg hc (by simp)⟩
theorem Hold.imgR {w0 w : World} {R : Asr} {C : Nat → List Int} {x : Lay} (h : Hold w0 w (sepR (refL C x) R)) : ImgR w C x :=
  ⟨h.rowReads, h.drop.rowReads, h.drop.drop.rowReads, h.drop.drop.drop.rowReads, h.drop.drop.drop.drop.rowReads⟩
set_option maxRecDepth 8000 in
set_option maxHeartbeats 4000000 in
theorem kimage_true (w : World) (C : Nat → List Int) (x y : Lay) (hx : ImgR w C x) (hy : ImgR w C y) (hC : COk C) :
    Calls Try.prog 42 #[imgV C x, imgV C y] w fun e w' => e = .returned (.bool true) ∧ Chg [] w w' := by
  have hX := hid hx
  have hY := hid hy
  have HL := hid hC.len
  have HW : ∀ W k, (Reads W ((x.A k).elim 0 (·.block)) (x.A k) (C k).length ((C k).map (Value.int .u64))) → (Reads W ((y.A k).elim 0 (·.block)) (y.A k) (C k).length ((C k).map (Value.int .u64))) →
      Calls Try.prog 62 #[.slice (x.A k) (C k).length (x.c k), .slice (y.A k) (C k).length (y.c k)] W fun e w' => e = .returned (.bool true) ∧ ∃ q, w' = W.drewN q := fun W k h1 h2 =>
    (words_any W _ _ _ _ _ _ _ _ (C k) (C k) h1 h2 (by have := HL.out k; omega)).mono fun e w' ⟨he, q, hq⟩ => ⟨by rw [he, decide_eq_true rfl], q, hq⟩
  have HWW := hid HW
  have h0 : Hid (Chg [] w ((w.alloc (.cells #[slV C x 1, slV C x 2, .int .u64 (w1 C 3), .int .u64 (w1 C 4), .int .u64 (w1 C 5), slV C x 6, slV C x 7, slV C x 8] 72)).alloc (.cells #[slV C y 1, slV C y 2, .int .u64 (w1 C 3), .int .u64 (w1 C 4), .int .u64 (w1 C 5), slV C y 6, slV C y 7, slV C y 8] 72))) := hid (((Chg.refl _ _).alloc _).alloc _)
  clear hx hy hC HW
  go_enter Try.func42, Try.ntmps42
  go_wp2_with fail
  refine (HWW.out _ 1 (hX.out.r1.chg (by repeat (first | exact h0.out | apply Chg.drewN)) (by simp)) (hY.out.r1.chg (by repeat (first | exact h0.out | apply Chg.drewN)) (by simp))).mono ?_
  rintro e v1 ⟨rfl, k1, rfl⟩
  go_wp2_with fail
  refine (HWW.out _ 2 (hX.out.r2.chg (by repeat (first | exact h0.out | apply Chg.drewN)) (by simp)) (hY.out.r2.chg (by repeat (first | exact h0.out | apply Chg.drewN)) (by simp))).mono ?_
  rintro e v2 ⟨rfl, k2, rfl⟩
  go_wp2_with fail
  refine (HWW.out _ 6 (hX.out.r6.chg (by repeat (first | exact h0.out | apply Chg.drewN)) (by simp)) (hY.out.r6.chg (by repeat (first | exact h0.out | apply Chg.drewN)) (by simp))).mono ?_
  rintro e v6 ⟨rfl, k6, rfl⟩
  go_wp2_with fail
  refine (HWW.out _ 7 (hX.out.r7.chg (by repeat (first | exact h0.out | apply Chg.drewN)) (by simp)) (hY.out.r7.chg (by repeat (first | exact h0.out | apply Chg.drewN)) (by simp))).mono ?_
  rintro e v7 ⟨rfl, k7, rfl⟩
  go_wp2_with fail
  refine (HWW.out _ 8 (hX.out.r8.chg (by repeat (first | exact h0.out | apply Chg.drewN)) (by simp)) (hY.out.r8.chg (by repeat (first | exact h0.out | apply Chg.drewN)) (by simp))).mono ?_
  rintro e v8 ⟨rfl, k8, rfl⟩
  go_wp2_with fail
  go_ret
  exact ⟨rfl, (by repeat (first | exact h0.out | apply Chg.drewN))⟩
end Go.Proofs.Ytopcnaakdldkpaa
