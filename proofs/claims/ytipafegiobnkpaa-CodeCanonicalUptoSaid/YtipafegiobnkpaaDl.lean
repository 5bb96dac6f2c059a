/- The end of Decode. -/
import Derived.Test.YtipafegiobnkpaaDk
namespace Go.Proofs.Ytipafegiobnkpaa
open Go.RowKit
set_option linter.unusedVariables false
set_option maxRecDepth 8000
theorem Hold.set13of16 {w0 w : World} {R : Asr} {g : Nat} {t : TypeId} {a0 a1 a2 a3 a4 a5 a6 a7 a8 a9 a10 a11 a12 a13 a14 a15 b0 b1 b2 b3 b4 b5 b6 b7 b8 b9 b10 b11 b12 : Value} (h : Hold w0 w (blkA t g #[a0, a1, a2, a3, a4, a5, a6, a7, a8, a9, a10, a11, a12, a13, a14, a15] * R)) : Hold w0 (((((((((((((w.setCell ⟨g, 0, none⟩ b0).setCell ⟨g, 1, none⟩ b1).setCell ⟨g, 2, none⟩ b2).setCell ⟨g, 3, none⟩ b3).setCell ⟨g, 4, none⟩ b4).setCell ⟨g, 5, none⟩ b5).setCell ⟨g, 6, none⟩ b6).setCell ⟨g, 7, none⟩ b7).setCell ⟨g, 8, none⟩ b8).setCell ⟨g, 9, none⟩ b9).setCell ⟨g, 10, none⟩ b10).setCell ⟨g, 11, none⟩ b11).setCell ⟨g, 12, none⟩ b12) (blkA t g #[b0, b1, b2, b3, b4, b5, b6, b7, b8, b9, b10, b11, b12, a13, a14, a15] * R) := by
  have h0 : Hold w0 _ (blkA t g #[b0, a1, a2, a3, a4, a5, a6, a7, a8, a9, a10, a11, a12, a13, a14, a15] * R) := h.setBlk 0 b0
  have h1 : Hold w0 _ (blkA t g #[b0, b1, a2, a3, a4, a5, a6, a7, a8, a9, a10, a11, a12, a13, a14, a15] * R) := h0.setBlk 1 b1
  have h2 : Hold w0 _ (blkA t g #[b0, b1, b2, a3, a4, a5, a6, a7, a8, a9, a10, a11, a12, a13, a14, a15] * R) := h1.setBlk 2 b2
  have h3 : Hold w0 _ (blkA t g #[b0, b1, b2, b3, a4, a5, a6, a7, a8, a9, a10, a11, a12, a13, a14, a15] * R) := h2.setBlk 3 b3
  have h4 : Hold w0 _ (blkA t g #[b0, b1, b2, b3, b4, a5, a6, a7, a8, a9, a10, a11, a12, a13, a14, a15] * R) := h3.setBlk 4 b4
  have h5 : Hold w0 _ (blkA t g #[b0, b1, b2, b3, b4, b5, a6, a7, a8, a9, a10, a11, a12, a13, a14, a15] * R) := h4.setBlk 5 b5
  have h6 : Hold w0 _ (blkA t g #[b0, b1, b2, b3, b4, b5, b6, a7, a8, a9, a10, a11, a12, a13, a14, a15] * R) := h5.setBlk 6 b6
  have h7 : Hold w0 _ (blkA t g #[b0, b1, b2, b3, b4, b5, b6, b7, a8, a9, a10, a11, a12, a13, a14, a15] * R) := h6.setBlk 7 b7
  have h8 : Hold w0 _ (blkA t g #[b0, b1, b2, b3, b4, b5, b6, b7, b8, a9, a10, a11, a12, a13, a14, a15] * R) := h7.setBlk 8 b8
  have h9 : Hold w0 _ (blkA t g #[b0, b1, b2, b3, b4, b5, b6, b7, b8, b9, a10, a11, a12, a13, a14, a15] * R) := h8.setBlk 9 b9
  have h10 : Hold w0 _ (blkA t g #[b0, b1, b2, b3, b4, b5, b6, b7, b8, b9, b10, a11, a12, a13, a14, a15] * R) := h9.setBlk 10 b10
  have h11 : Hold w0 _ (blkA t g #[b0, b1, b2, b3, b4, b5, b6, b7, b8, b9, b10, b11, a12, a13, a14, a15] * R) := h10.setBlk 11 b11
  have h12 : Hold w0 _ (blkA t g #[b0, b1, b2, b3, b4, b5, b6, b7, b8, b9, b10, b11, b12, a13, a14, a15] * R) := h11.setBlk 12 b12
  exact h12
/-- The panic of broken bytes is recovered. -/
theorem dec_thrown (w0 w : World) (R : Asr) (gs ge : Nat) (a0 a1 a2 a3 a4 a5 a6 a7 a8 a9 a10 a11 a12 a13 a14 a15 e0 t0 t1 : Value) (rest : List Value) (bs : List Nat) (h : Hold w0 w (blkA 29 gs #[a0, a1, a2, a3, a4, a5, a6, a7, a8, a9, a10, a11, a12, a13, a14, a15] * (blkA 32 ge #[e0] * R))) (hd : decode5 bs = (.zero, 30)) :
    bodyPostD Try.prog Try.f13 (DecPost w0 R (decode5 bs)) (Exit.panic [{ v := .iface 65 (.agg #[]), recovered := false }]) { tmps := (t0 :: t1 :: .pointer (some ⟨gs, 0, none⟩) :: .pointer (some ⟨ge, 0, none⟩) :: rest).toArray, defers := [{ target := .fn (.func 28) #[.pointer (some ⟨gs, 0, none⟩), .pointer (some ⟨ge, 0, none⟩)], args := #[] }] } w := by
  refine leaves_cons (f := 28) (args := #[.pointer (some ⟨gs, 0, none⟩), .pointer (some ⟨ge, 0, none⟩)]) (by simp) (by simp [go_sem]) ?_
  refine (catch_brk w0 w R gs ge a0 a1 a2 a3 a4 a5 a6 a7 a8 a9 a10 a11 a12 a13 a14 a15 e0 h).mono ?_
  rintro e u' w2 ⟨rfl, rfl, h2⟩
  unfold z16 at h2
  obtain ⟨⟨x0, x1, x2, x3, x4, x5, x6, x7, x8, x9, x10, x11, x12, x13, x14, x15⟩, _⟩ := blk_16 h2.blk
  have u0 := h2.drop.blk.some_ (i := 0) rfl
  rw [hd]
  show Leaves _ _ _ _ [] .returning w2
  exact ⟨.tuple #[scrV .zero (.slice none 0 0) (.slice none 0 0) (.slice none 0 0), .int .i64 30], by simp [results, Try.results13, go_sem, x0, x1, x2, x3, x4, x5, x6, x7, x8, x9, x10, x11, x12, x13, x14, x15, u0, scrV, Scr.zero, List.replicate], _, _, _, rfl, h2.drop.drop.zeroScr⟩
theorem dec_left (w0 w : World) (R : Asr) (gs ge : Nat) (c0 c1 c2 c3 c4 c5 c6 c7 c8 c9 c10 c11 : Int) (b : Bool) (vI vP vQ t0 t1 : Value) (rest : List Value) (bs : List Nat) (i : List Nat) (p : List (List (List Int))) (q : List Int) (h : Hold w0 w (blkA 29 gs #[.int .i64 c0, .int .i64 c1, .int .i64 c2, .int .i64 c3, .int .i64 c4, .int .i64 c5, .int .i64 c6, .int .i64 c7, .int .i64 c8, .int .i64 c9, .int .i64 c10, .int .i64 c11, .bool b, vI, vP, vQ] * (blkA 32 ge #[.int .i64 0] * (uvA vI i * (progA vP p * (ivA vQ q * R)))))) (hd : decode5 bs = (⟨[c0, c1, c2, c3, c4, c5, c6, c7, c8, c9, c10, c11], b, i, p, q⟩, 0)) :
    bodyPostD Try.prog Try.f13 (DecPost w0 R (decode5 bs)) Exit.ret { tmps := (t0 :: t1 :: .pointer (some ⟨gs, 0, none⟩) :: .pointer (some ⟨ge, 0, none⟩) :: rest).toArray, defers := [{ target := .fn (.func 28) #[.pointer (some ⟨gs, 0, none⟩), .pointer (some ⟨ge, 0, none⟩)], args := #[] }] } w := by
  refine leaves_cons (f := 28) (args := #[.pointer (some ⟨gs, 0, none⟩), .pointer (some ⟨ge, 0, none⟩)]) (by simp) (by simp [go_sem]) ?_
  refine (catch_idle w ⟨gs, 0, none⟩ ⟨ge, 0, none⟩).mono ?_
  rintro e u' w2 ⟨rfl, rfl, rfl⟩
  obtain ⟨⟨x0, x1, x2, x3, x4, x5, x6, x7, x8, x9, x10, x11, x12, x13, x14, x15⟩, _⟩ := blk_16 h.blk
  have u0 := h.drop.blk.some_ (i := 0) rfl
  rw [hd]
  show Leaves _ _ _ _ [] .returning w2
  obtain ⟨AI, cI, rfl⟩ := h.drop.drop.rowSForm
  obtain ⟨vs, hv⟩ := progOpen h.drop.drop.drop
  obtain ⟨AP, cP, rfl⟩ := hv.rowSForm
  obtain ⟨AQ, cQ, rfl⟩ := h.drop.drop.drop.drop.rowSForm
  exact ⟨.tuple #[scrV ⟨[c0, c1, c2, c3, c4, c5, c6, c7, c8, c9, c10, c11], b, i, p, q⟩ (.slice AI i.length cI) (.slice AP p.length cP) (.slice AQ q.length cQ), .int .i64 0], by simp [results, Try.results13, go_sem, x0, x1, x2, x3, x4, x5, x6, x7, x8, x9, x10, x11, x12, x13, x14, x15, u0, scrV], _, _, _, rfl, h.drop.drop⟩
end Go.Proofs.Ytipafegiobnkpaa
