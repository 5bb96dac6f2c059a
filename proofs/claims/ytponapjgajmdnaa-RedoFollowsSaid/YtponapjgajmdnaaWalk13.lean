/- The laws of package redo: what the log's contracts say to a law, and the example. -/
import Derived.Test.YtponapjgajmdnaaRedo5
import Derived.Test.YtponapjgajmdnaaArg
namespace Go.Proofs.Ytponapjgajmdnaa
open Go.RowKit
set_option linter.unusedVariables false

/-- A log that a law made: behind the law's world w0. -/
structure LI (w0 w : World) (fp : List Nat) (g : Nat) (L : PL) : Prop where
  inv : Inv L
  at_ : LogAt 71 w fp g L
  own : Own w0.heap.size fp
  below : Below w0.heap.size w0 w

section
variable {w0 w w' : World} {fp S : List Nat} {g : Nat} {L : PL}
theorem LI.chg (h : LI w0 w fp g L) (hc : Chg S w w') (hS : Own w0.heap.size S) (hd : ∀ b ∈ fp, b ∉ S) : LI w0 w' fp g L := ⟨h.inv, h.at_.chg hc hd, h.own, chg_below h.below hc hS⟩
theorem LI.chg0 (h : LI w0 w fp g L) (hc : Chg [] w w') : LI w0 w' fp g L := h.chg hc (Own.nil _) (by simp)
theorem LI.drewN (h : LI w0 w fp g L) (n : Nat) : LI w0 (w.drewN n) fp g L := h.chg0 ((Chg.refl _ _).drewN n)
theorem LI.alloc (h : LI w0 w fp g L) (o : Obj) : LI w0 (w.alloc o) fp g L := h.chg0 ((Chg.refl _ _).alloc o)
theorem LI.size (h : LI w0 w fp g L) : w0.heap.size ≤ w.heap.size := h.below.size
theorem LI.idx (h : LI w0 w fp g L) : 0 < L.idx.length ∧ L.idx.length ≤ 64 := ⟨h.inv.pos, h.inv.p64⟩
theorem LI.len (h : LI w0 w fp g L) : L.addrs.length ≤ 32 := by have := h.inv.le; have := h.inv.cap32; omega
end

theorem li_new (w0 w : World) (c : Int) (hb : Below w0.heap.size w0 w) :
    Calls Try.prog 35 #[.int .i64 c] w fun e w' => ∃ g fp, e = .returned (.pointer (some ⟨g, 0, none⟩)) ∧ LI w0 w' fp g (newL c) :=
  (redo_new w c).mono fun e w' ⟨g, fp, he, hL, hc, hf⟩ => ⟨g, fp, he, newL_inv c, hL, fun b hb' => Nat.le_trans hb.size (hf b hb'), chg_below hb hc (Own.nil _)⟩
theorem li_put (w0 w : World) (fp : List Nat) (g : Nat) (L : PL) (a v : Int) (h : LI w0 w fp g L) :
    Calls Try.prog 36 #[.pointer (some ⟨g, 0, none⟩), .int .i64 a, .int .u64 v] w fun e w' => e = .returned (.bool (putOk L a)) ∧ ∃ fp', LI w0 w' fp' g (putL L a v) ∧ Chg fp w w' ∧ ∀ b ∈ fp', b ∈ fp ∨ w.heap.size ≤ b :=
  (log_put w fp g L a v h.at_ h.inv).mono fun e w' ⟨he, fp', hL, hc, hf⟩ => ⟨he, fp', ⟨h.inv.put a v, hL, h.own.step hf h.size, chg_below h.below hc h.own⟩, hc, hf⟩

theorem aw_1 : putOk (newL 2) 1 = true ∧ putL (newL 2) 1 7 = ⟨2, [1], [7], [-1, 0, -1, -1]⟩ := ⟨by decide, by rfl⟩
theorem aw_2 : putOk ⟨2, [1], [7], [-1, 0, -1, -1]⟩ 5 = true ∧ putL ⟨2, [1], [7], [-1, 0, -1, -1]⟩ 5 8 = ⟨2, [1, 5], [7, 8], [-1, 0, 1, -1]⟩ := ⟨by decide, by rfl⟩
theorem aw_3 : putOk ⟨2, [1, 5], [7, 8], [-1, 0, 1, -1]⟩ 9 = false ∧ putL ⟨2, [1, 5], [7, 8], [-1, 0, 1, -1]⟩ 9 9 = ⟨2, [1, 5], [7, 8], [-1, 0, 1, -1]⟩ := ⟨by decide, by rfl⟩
theorem aw_4 : getOk ⟨2, [1, 5], [7, 8], [-1, 0, 1, -1]⟩ 5 = true ∧ getV ⟨2, [1, 5], [7, 8], [-1, 0, 1, -1]⟩ 5 = 8 := ⟨by decide, by rfl⟩

set_option maxHeartbeats 1000000 in
theorem awake13 (w : World) : Calls Try.prog 34 #[] w fun e w' => e = .returned (.bool true) ∧ Below w.heap.size w w' := by
  go_enter Try.func34, Try.ntmps34
  go_wp2_with fail
  refine (li_new w _ 2 (Below.refl _ _)).mono ?_
  rintro e w1 ⟨g, fp, rfl, h1⟩
  go_wp2_with fail
  refine (li_put w _ _ _ _ 1 7 h1).mono ?_
  rintro e w2 ⟨rfl, fp2, h2, _⟩
  rw [aw_1.1]
  rw [aw_1.2] at h2
  clear h1
  go_wp2_with fail
  refine (li_put w _ _ _ _ 5 8 h2).mono ?_
  rintro e w3 ⟨rfl, fp3, h3, _⟩
  rw [aw_2.1]
  rw [aw_2.2] at h3
  clear h2
  go_wp2_with fail
  refine (li_put w _ _ _ _ 9 9 h3).mono ?_
  rintro e w4 ⟨rfl, fp4, h4, _⟩
  rw [aw_3.1]
  rw [aw_3.2] at h4
  clear h3
  go_wp2_with fail
  refine (log_get _ _ _ _ 5 h4.at_ h4.inv).mono ?_
  rintro e w5 ⟨rfl, q, rfl⟩
  rw [aw_4.1, aw_4.2]
  have h5 := h4.drewN q
  clear h4
  go_wp2_with fail
  refine (log_len _ _ _ _ h5.at_).mono ?_
  rintro e w6 ⟨rfl, rfl⟩
  rw [show (([1, 5] : List Int).length : Int) = 2 from rfl]
  go_wp2_with fail
  refine (log_index _ _ _ _ h5.at_ h5.inv).mono ?_
  rintro e w7 ⟨A, c, rfl, ho, hc⟩
  have h7 := h5.chg0 hc
  have hR := row_reads ho
  clear h5 hc
  rw [show ([-1, 0, 1, -1] : List Int).length = 4 from rfl] at hR ⊢
  go_wp2_with fail
  refine (ints_any _ _ _ _ _ _ _ _ _ [-1, 0, 1, -1] [-1, 0, 1, -1] (hR.chg ((Chg.refl [] _).alloc _) (by simp)) (Reads.lit _ _ _ _ rfl _ rfl) (by decide)).mono ?_
  rintro e w8 ⟨rfl, q2, rfl⟩
  rw [show decide (([-1, 0, 1, -1] : List Int) = [-1, 0, 1, -1]) = true from rfl]
  have hb := ((h7.alloc (.cells #[.int .i64 (-1), .int .i64 0, .int .i64 1, .int .i64 (-1)] 3)).drewN q2).below
  go_wp2_with fail
  go_ret
  exact ⟨rfl, hb⟩
end Go.Proofs.Ytponapjgajmdnaa
