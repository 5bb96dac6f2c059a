/- The deferred function of Decode. -/
import Derived.Test.YtipafegiobnkpaaRl
import Derived.Test.YtipafegiobnkpaaSt
import Derived.Recover
import Derived.Defers
import Derived.Deep.DeepCutAuto
import Derived.Deep.CutBlock
namespace Go.Proofs.Ytipafegiobnkpaa
open Go.RowKit
set_option linter.unusedVariables false

def z16 : Array Value := #[.int .i64 0, .int .i64 0, .int .i64 0, .int .i64 0, .int .i64 0, .int .i64 0, .int .i64 0, .int .i64 0, .int .i64 0, .int .i64 0, .int .i64 0, .int .i64 0, .bool false, .slice none 0 0, .slice none 0 0, .slice none 0 0]
theorem blk_16 {w : World} {g : Nat} {t : TypeId} {a0 a1 a2 a3 a4 a5 a6 a7 a8 a9 a10 a11 a12 a13 a14 a15 : Value} (h : Blk w g t #[a0, a1, a2, a3, a4, a5, a6, a7, a8, a9, a10, a11, a12, a13, a14, a15]) : (w.cell? ⟨g, 0, none⟩ = some a0 ∧ w.cell? ⟨g, 1, none⟩ = some a1 ∧ w.cell? ⟨g, 2, none⟩ = some a2 ∧ w.cell? ⟨g, 3, none⟩ = some a3 ∧ w.cell? ⟨g, 4, none⟩ = some a4 ∧ w.cell? ⟨g, 5, none⟩ = some a5 ∧ w.cell? ⟨g, 6, none⟩ = some a6 ∧ w.cell? ⟨g, 7, none⟩ = some a7 ∧ w.cell? ⟨g, 8, none⟩ = some a8 ∧ w.cell? ⟨g, 9, none⟩ = some a9 ∧ w.cell? ⟨g, 10, none⟩ = some a10 ∧ w.cell? ⟨g, 11, none⟩ = some a11 ∧ w.cell? ⟨g, 12, none⟩ = some a12 ∧ w.cell? ⟨g, 13, none⟩ = some a13 ∧ w.cell? ⟨g, 14, none⟩ = some a14 ∧ w.cell? ⟨g, 15, none⟩ = some a15) ∧ w.frozen? ⟨g, 0, none⟩ = false ∧ w.frozen? ⟨g, 1, none⟩ = false ∧ w.frozen? ⟨g, 2, none⟩ = false ∧ w.frozen? ⟨g, 3, none⟩ = false ∧ w.frozen? ⟨g, 4, none⟩ = false ∧ w.frozen? ⟨g, 5, none⟩ = false ∧ w.frozen? ⟨g, 6, none⟩ = false ∧ w.frozen? ⟨g, 7, none⟩ = false ∧ w.frozen? ⟨g, 8, none⟩ = false ∧ w.frozen? ⟨g, 9, none⟩ = false ∧ w.frozen? ⟨g, 10, none⟩ = false ∧ w.frozen? ⟨g, 11, none⟩ = false ∧ w.frozen? ⟨g, 12, none⟩ = false ∧ w.frozen? ⟨g, 13, none⟩ = false ∧ w.frozen? ⟨g, 14, none⟩ = false ∧ w.frozen? ⟨g, 15, none⟩ = false :=
  ⟨⟨h.some_ rfl, h.some_ rfl, h.some_ rfl, h.some_ rfl, h.some_ rfl, h.some_ rfl, h.some_ rfl, h.some_ rfl, h.some_ rfl, h.some_ rfl, h.some_ rfl, h.some_ rfl, h.some_ rfl, h.some_ rfl, h.some_ rfl, h.some_ rfl⟩, h.frozen 0, h.frozen 1, h.frozen 2, h.frozen 3, h.frozen 4, h.frozen 5, h.frozen 6, h.frozen 7, h.frozen 8, h.frozen 9, h.frozen 10, h.frozen 11, h.frozen 12, h.frozen 13, h.frozen 14, h.frozen 15⟩
theorem Hold.set16 {w0 w : World} {R : Asr} {g : Nat} {t : TypeId} {a0 a1 a2 a3 a4 a5 a6 a7 a8 a9 a10 a11 a12 a13 a14 a15 b0 b1 b2 b3 b4 b5 b6 b7 b8 b9 b10 b11 b12 b13 b14 b15 : Value} (h : Hold w0 w (blkA t g #[a0, a1, a2, a3, a4, a5, a6, a7, a8, a9, a10, a11, a12, a13, a14, a15] * R)) : Hold w0 ((((((((((((((((w.setCell ⟨g, 0, none⟩ b0).setCell ⟨g, 1, none⟩ b1).setCell ⟨g, 2, none⟩ b2).setCell ⟨g, 3, none⟩ b3).setCell ⟨g, 4, none⟩ b4).setCell ⟨g, 5, none⟩ b5).setCell ⟨g, 6, none⟩ b6).setCell ⟨g, 7, none⟩ b7).setCell ⟨g, 8, none⟩ b8).setCell ⟨g, 9, none⟩ b9).setCell ⟨g, 10, none⟩ b10).setCell ⟨g, 11, none⟩ b11).setCell ⟨g, 12, none⟩ b12).setCell ⟨g, 13, none⟩ b13).setCell ⟨g, 14, none⟩ b14).setCell ⟨g, 15, none⟩ b15) (blkA t g #[b0, b1, b2, b3, b4, b5, b6, b7, b8, b9, b10, b11, b12, b13, b14, b15] * R) := by
  have h0 : Hold w0 _ (blkA t g #[b0, a1, a2, a3, a4, a5, a6, a7, a8, a9, a10, a11, a12, a13, a14, a15] * R) := h.setBlk 0 b0
  have h1 : Hold w0 _ (blkA t g #[b0, b1, a2, a3, a4, a5, a6, a7, a8, a9, a10, a11, a12, a13, a14, a15] * R) := h0.setBlk 1 b1
  have h2 : Hold w0 _ (blkA t g #[b0, b1, b2, a3, a4, a5, a6, a7, a8, a9, a10, a11, a12, a13, a14, a15] * R) := h1.setBlk 2 b2
  have h3 : Hold w0 _ (blkA t g #[b0, b1, b2, b3, a4, a5, a6, a7, a8, a9, a10, a11, a12, a13, a14, a15] * R) := h2.setBlk 3 b3
  have h4 : Hold w0 _ (blkA t g #[b0, b1, b2, b3, b4, a5, a6, a7, a8, a9, a10, a11, a12, a13, a14, a15] * R) := h3.setBlk 4 b4
  have h5 : Hold w0 _ (blkA t g #[b0, b1, b2, b3, b4, b5, a6, a7, a8, a9, a10, a11, a12, a13, a14, a15] * R) := h4.setBlk 5 b5
  have h6 : Hold w0 _ (blkA t g #[b0, b1, b2, b3, b4, b5, b6, a7, a8, a9, a10, a11, a12, a13, a14, a15] * R) := h5.setBlk 6 b6
  have h7 : Hold w0 _ (blkA t g #[b0, b1, b2, b3, b4, b5, b6, b7, a8, a9, a10, a11, a12, a13, a14, a15] * R) := h6.setBlk 7 b7
  have h8 : Hold w0 _ (blkA t g #[b0, b1, b2, b3, b4, b5, b6, b7, b8, a9, a10, a11, a12, a13, a14, a15] * R) := h7.setBlk 8 b8
  have h9 : Hold w0 _ (blkA t g #[b0, b1, b2, b3, b4, b5, b6, b7, b8, b9, a10, a11, a12, a13, a14, a15] * R) := h8.setBlk 9 b9
  have h10 : Hold w0 _ (blkA t g #[b0, b1, b2, b3, b4, b5, b6, b7, b8, b9, b10, a11, a12, a13, a14, a15] * R) := h9.setBlk 10 b10
  have h11 : Hold w0 _ (blkA t g #[b0, b1, b2, b3, b4, b5, b6, b7, b8, b9, b10, b11, a12, a13, a14, a15] * R) := h10.setBlk 11 b11
  have h12 : Hold w0 _ (blkA t g #[b0, b1, b2, b3, b4, b5, b6, b7, b8, b9, b10, b11, b12, a13, a14, a15] * R) := h11.setBlk 12 b12
  have h13 : Hold w0 _ (blkA t g #[b0, b1, b2, b3, b4, b5, b6, b7, b8, b9, b10, b11, b12, b13, a14, a15] * R) := h12.setBlk 13 b13
  have h14 : Hold w0 _ (blkA t g #[b0, b1, b2, b3, b4, b5, b6, b7, b8, b9, b10, b11, b12, b13, b14, a15] * R) := h13.setBlk 14 b14
  have h15 : Hold w0 _ (blkA t g #[b0, b1, b2, b3, b4, b5, b6, b7, b8, b9, b10, b11, b12, b13, b14, b15] * R) := h14.setBlk 15 b15
  exact h15
theorem Hold.blkNe {w0 w : World} {R : Asr} {g k : Nat} {t u : TypeId} {a b : Array Value} (h : Hold w0 w (blkA t g a * (blkA u k b * R))) : g ≠ k := by
  obtain ⟨f, k, hf, hg, hd⟩ := h.apart
  obtain ⟨_, rfl⟩ := hf
  obtain ⟨_, rfl⟩ := hg
  have := hd g (by simp)
  simpa using this
set_option maxRecDepth 8000 in
set_option maxHeartbeats 4000000 in
theorem catch_brk (w0 w : World) (R : Asr) (gs ge : Nat) (a0 a1 a2 a3 a4 a5 a6 a7 a8 a9 a10 a11 a12 a13 a14 a15 e0 : Value) (h : Hold w0 w (blkA 29 gs #[a0, a1, a2, a3, a4, a5, a6, a7, a8, a9, a10, a11, a12, a13, a14, a15] * (blkA 32 ge #[e0] * R))) :
    CallsD Try.prog 28 #[.pointer (some ⟨gs, 0, none⟩), .pointer (some ⟨ge, 0, none⟩)] (.panicking [{ v := .iface 65 (.agg #[]), recovered := false }]) w fun e u' w' =>
      e = .returned (.tuple #[]) ∧ u' = .panicking [{ v := .iface 65 (.agg #[]), recovered := true }] ∧ Hold w0 w' (blkA 29 gs z16 * (blkA 32 ge #[.int .i64 30] * R)) := by
  refine callsD_of_wpS Try.func28 rfl fun c₀ cs hu => ?_
  apply wpS_seq
  apply wpS_region
  simp [wpOpsS, go_sem, recoverD, hu, Try.ntmps28, Exit.thenS]
  refine wpS_of_wp ?_
  change Code.wp _ _ _ { tmps := #[.pointer (some ⟨gs, 0, none⟩), .pointer (some ⟨ge, 0, none⟩), .iface 65 (.agg #[]), .iface 65 (.agg #[]), undef, undef, undef, undef, undef], defers := [] } w
  obtain ⟨⟨x0, x1, x2, x3, x4, x5, x6, x7, x8, x9, x10, x11, x12, x13, x14, x15⟩, y0, y1, y2, y3, y4, y5, y6, y7, y8, y9, y10, y11, y12, y13, y14, y15⟩ := blk_16 h.blk
  have u0 := h.drop.blk.some_ (i := 0) rfl
  have v0 := h.drop.blk.frozen 0
  have hne := Hold.blkNe h
  have H1 := hid ((h.set16 (b0 := .int .i64 0) (b1 := .int .i64 0) (b2 := .int .i64 0) (b3 := .int .i64 0) (b4 := .int .i64 0) (b5 := .int .i64 0) (b6 := .int .i64 0) (b7 := .int .i64 0) (b8 := .int .i64 0) (b9 := .int .i64 0) (b10 := .int .i64 0) (b11 := .int .i64 0) (b12 := .bool false) (b13 := .slice none 0 0) (b14 := .slice none 0 0) (b15 := .slice none 0 0)).swap.setBlk 0 (.int .i64 30)).swap
  clear h
  have ht : ∀ w : World, (Instr.typeAssert (Value.iface 65 (.agg #[])) 20 65 false).run Try.prog w = .ok (.agg #[]) w := fun _ => rfl
  go_wp2_with fail
  have h2 := H1.out
  generalize hW : World.setCell _ _ _ = W2 at h2 ⊢
  refine ⟨rfl, .panicking [{ v := .iface 65 (.agg #[]), recovered := true }], rfl, .tuple #[], results_none rfl _ _ _, rfl, rfl, h2⟩
theorem catch_idle (w : World) (p q : Addr) :
    CallsD Try.prog 28 #[.pointer (some p), .pointer (some q)] .returning w fun e u' w' => e = .returned (.tuple #[]) ∧ u' = .returning ∧ w' = w := by
  refine callsD_of_wpS Try.func28 rfl fun c₀ cs hu => ?_
  apply wpS_seq
  apply wpS_region
  simp [wpOpsS, go_sem, recoverD, hu, Try.ntmps28, Exit.thenS]
  refine wpS_of_wp ?_
  change Code.wp _ _ _ { tmps := #[.pointer (some p), .pointer (some q), .nilIface, .nilIface, undef, undef, undef, undef, undef], defers := [] } w
  go_wp2_with fail
  refine ⟨rfl, .returning, ?_, .tuple #[], results_none rfl _ _ _, rfl, rfl, rfl⟩
  cases c₀
  simp at hu
  subst hu
  rfl
/-- A script's value: its config and where its lists lie. -/
def scrV (s : Scr) (vI vP vQ : Value) : Value := .agg (s.cf.map (Value.int .i64) ++ [.bool s.strong, vI, vP, vQ]).toArray
theorem slice_dropP {P : Program} (T : TypeId) (hT : P.underlying T = some (.slice (P.elem T))) (hs : ∀ w, (sizeOf (P.elem T)).run P w = .ok 1 w) (w : World) (ad : Addr) (n c k : Nat) (hk : k ≤ n) (hc : n ≤ c) :
    (Instr.slice T (.slice (some ad) n c) (some (.int .i64 (k : Int))) none none).run P w = .ok (.slice (if c = k then some ad else some (ad.add k)) (n - k) (c - k)) w := by
  rw [run_slice_l w T (some ad) n c hT .i64 (k : Int) (by omega) (by omega), hs]
  simp [Result.andThen, sliced]
def DecPost (w0 : World) (R : Asr) (o : Scr × Int) (e : Ending) (w' : World) : Prop := ∃ vI vP vQ, e = .returned (.tuple #[scrV o.1 vI vP vQ, .int .i64 o.2]) ∧ Hold w0 w' (uvA vI o.1.init * (progA vP o.1.progs * (ivA vQ o.1.picks * R)))
theorem Hold.zeroScr {w0 w : World} {R : Asr} (h : Hold w0 w R) : Hold w0 w (uvA (.slice none 0 0) [] * (progA (.slice none 0 0) [] * (ivA (.slice none 0 0) [] * R))) := ((h.nilRowS 3 1).nilProg).nilRowS 46 1
end Go.Proofs.Ytipafegiobnkpaa
