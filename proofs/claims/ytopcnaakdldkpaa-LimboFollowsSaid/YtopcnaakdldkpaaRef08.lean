/- The reference's cells: Size, Get, set, has. -/
import Derived.Test.YtopcnaakdldkpaaMemP
namespace Go.Proofs.Ytopcnaakdldkpaa
open Go.RowKit
set_option linter.unusedVariables false

def w1 (C : Nat → List Int) (k : Nat) : Int := (C k).getD 0 0
/-- What is asked of the words of the cells. -/
structure COk (C : Nat → List Int) : Prop where
  len : ∀ k, (C k).length ≤ 1000
  l3 : (C 3).length = 1
  l4 : (C 4).length = 1
  l5 : (C 5).length = 1
theorem COk.setK {C : Nat → List Int} (h : COk C) (k i : Nat) (v : Int) : COk (setK C k i v) := ⟨fun j => by rw [setK_len]; exact h.len j, by rw [setK_len]; exact h.l3, by rw [setK_len]; exact h.l4, by rw [setK_len]; exact h.l5⟩
abbrev refB (c : Cfg) (C : Nat → List Int) (x : Lay) : Array Value := #[.int .i64 c.words, .int .i64 c.orecs, .int .i64 c.base, .int .i64 c.c0, .int .i64 c.c1, .int .i64 c.c2, .int .i64 c.c3, .int .i64 c.reads, .int .i64 c.writes, .int .i64 c.allocs, .int .i64 c.frees, .int .i64 c.clock, .bool c.strong,
  slV C x 1, slV C x 2, .int .u64 (w1 C 3), .int .u64 (w1 C 4), .int .u64 (w1 C 5), slV C x 6, slV C x 7, slV C x 8]
abbrev refL (C : Nat → List Int) (x : Lay) : List Asr := [cellK C x 1, cellK C x 2, cellK C x 6, cellK C x 7, cellK C x 8]
def refX (g : Nat) (c : Cfg) (C : Nat → List Int) (x : Lay) : Asr := blkA 95 g (refB c C x) * sepR (refL C x) Asr.emp
def refA (g : Nat) (c : Cfg) (C : Nat → List Int) : Asr := Asr.ex (refX g c C)
abbrev refF (g : Nat) (c : Cfg) (C : Nat → List Int) (x : Lay) (R : Asr) : Asr := blkA 95 g (refB c C x) * sepR (refL C x) R

section
variable {w0 w : World} {R : Asr} {g : Nat} {c : Cfg} {C : Nat → List Int} {x : Lay}
theorem Hold.refOpen (h : Hold w0 w (refA g c C * R)) : ∃ x, Hold w0 w (refF g c C x R) := by
  obtain ⟨x, h⟩ := h.exOpen
  exact ⟨x, h.part.imp (Imp.under _ (Imp.flat R _))⟩
theorem Hold.refShut (h : Hold w0 w (refF g c C x R)) : Hold w0 w (refA g c C * R) := Hold.exClose (x := x) (h.imp (Imp.under _ (Imp.fold R _))).join
theorem w1_ne {k i j : Nat} {v : Int} (h : j ≠ k) : w1 (setK C k i v) j = w1 C j := by unfold w1; rw [setK_ne h]
theorem Hold.refRow1 (h : Hold w0 w (refF g c C x R)) : ∃ R', Hold w0 w (cellK C x 1 * R') ∧ ∀ w' i v, Hold w0 w' (numA (slV C x 1) (C 1).length ((C 1).set i v) * R') → Hold w0 w' (refF g c (setK C 1 i v) x R) := by
  refine ⟨_, (h.imp (Imp.under _ (Imp.nth (cellK C x 1) R (refL C x) 0 rfl))).swap, fun w' i v h' => ?_⟩
  have h2 := h'.swap.imp (Imp.under _ (Imp.putAt _ R ((refL C x).set 0 Asr.emp) 0 rfl))
  unfold refF refB refL
  simp only [slV_set]
  rw [cellK_eq, cellK_ne (by decide), cellK_ne (by decide), cellK_ne (by decide), cellK_ne (by decide)]
  rw [w1_ne (by decide), w1_ne (by decide), w1_ne (by decide)]
  exact h2
theorem Hold.refRow2 (h : Hold w0 w (refF g c C x R)) : ∃ R', Hold w0 w (cellK C x 2 * R') ∧ ∀ w' i v, Hold w0 w' (numA (slV C x 2) (C 2).length ((C 2).set i v) * R') → Hold w0 w' (refF g c (setK C 2 i v) x R) := by
  refine ⟨_, (h.imp (Imp.under _ (Imp.nth (cellK C x 2) R (refL C x) 1 rfl))).swap, fun w' i v h' => ?_⟩
  have h2 := h'.swap.imp (Imp.under _ (Imp.putAt _ R ((refL C x).set 1 Asr.emp) 1 rfl))
  unfold refF refB refL
  simp only [slV_set]
  rw [cellK_eq, cellK_ne (by decide), cellK_ne (by decide), cellK_ne (by decide), cellK_ne (by decide)]
  rw [w1_ne (by decide), w1_ne (by decide), w1_ne (by decide)]
  exact h2
theorem Hold.refRow6 (h : Hold w0 w (refF g c C x R)) : ∃ R', Hold w0 w (cellK C x 6 * R') ∧ ∀ w' i v, Hold w0 w' (numA (slV C x 6) (C 6).length ((C 6).set i v) * R') → Hold w0 w' (refF g c (setK C 6 i v) x R) := by
  refine ⟨_, (h.imp (Imp.under _ (Imp.nth (cellK C x 6) R (refL C x) 2 rfl))).swap, fun w' i v h' => ?_⟩
  have h2 := h'.swap.imp (Imp.under _ (Imp.putAt _ R ((refL C x).set 2 Asr.emp) 2 rfl))
  unfold refF refB refL
  simp only [slV_set]
  rw [cellK_eq, cellK_ne (by decide), cellK_ne (by decide), cellK_ne (by decide), cellK_ne (by decide)]
  rw [w1_ne (by decide), w1_ne (by decide), w1_ne (by decide)]
  exact h2
theorem Hold.refRow7 (h : Hold w0 w (refF g c C x R)) : ∃ R', Hold w0 w (cellK C x 7 * R') ∧ ∀ w' i v, Hold w0 w' (numA (slV C x 7) (C 7).length ((C 7).set i v) * R') → Hold w0 w' (refF g c (setK C 7 i v) x R) := by
  refine ⟨_, (h.imp (Imp.under _ (Imp.nth (cellK C x 7) R (refL C x) 3 rfl))).swap, fun w' i v h' => ?_⟩
  have h2 := h'.swap.imp (Imp.under _ (Imp.putAt _ R ((refL C x).set 3 Asr.emp) 3 rfl))
  unfold refF refB refL
  simp only [slV_set]
  rw [cellK_eq, cellK_ne (by decide), cellK_ne (by decide), cellK_ne (by decide), cellK_ne (by decide)]
  rw [w1_ne (by decide), w1_ne (by decide), w1_ne (by decide)]
  exact h2
theorem Hold.refRow8 (h : Hold w0 w (refF g c C x R)) : ∃ R', Hold w0 w (cellK C x 8 * R') ∧ ∀ w' i v, Hold w0 w' (numA (slV C x 8) (C 8).length ((C 8).set i v) * R') → Hold w0 w' (refF g c (setK C 8 i v) x R) := by
  refine ⟨_, (h.imp (Imp.under _ (Imp.nth (cellK C x 8) R (refL C x) 4 rfl))).swap, fun w' i v h' => ?_⟩
  have h2 := h'.swap.imp (Imp.under _ (Imp.putAt _ R ((refL C x).set 4 Asr.emp) 4 rfl))
  unfold refF refB refL
  simp only [slV_set]
  rw [cellK_eq, cellK_ne (by decide), cellK_ne (by decide), cellK_ne (by decide), cellK_ne (by decide)]
  rw [w1_ne (by decide), w1_ne (by decide), w1_ne (by decide)]
  exact h2
theorem Hold.refWord3 (h : Hold w0 w (refF g c C x R)) (hl : (C 3).length = 1) (v : Int) : Hold w0 (w.setCell ⟨g, 15, none⟩ (.int .u64 v)) (refF g c (setK C 3 0 v) x R) := by
  have h2 := h.setBlk 15 (.int .u64 v)
  have e1 : w1 (setK C 3 0 v) 3 = v := by
    unfold w1
    rw [setK_eq]
    cases hc : C 3 with
    | nil => rw [hc] at hl; cases hl
    | cons a l => rfl
  unfold refF refB refL
  simp only [slV_set]
  rw [cellK_ne (by decide), cellK_ne (by decide), cellK_ne (by decide), cellK_ne (by decide), cellK_ne (by decide)]
  rw [e1, w1_ne (by decide), w1_ne (by decide)]
  exact h2
theorem Hold.refWord4 (h : Hold w0 w (refF g c C x R)) (hl : (C 4).length = 1) (v : Int) : Hold w0 (w.setCell ⟨g, 16, none⟩ (.int .u64 v)) (refF g c (setK C 4 0 v) x R) := by
  have h2 := h.setBlk 16 (.int .u64 v)
  have e1 : w1 (setK C 4 0 v) 4 = v := by
    unfold w1
    rw [setK_eq]
    cases hc : C 4 with
    | nil => rw [hc] at hl; cases hl
    | cons a l => rfl
  unfold refF refB refL
  simp only [slV_set]
  rw [cellK_ne (by decide), cellK_ne (by decide), cellK_ne (by decide), cellK_ne (by decide), cellK_ne (by decide)]
  rw [e1, w1_ne (by decide), w1_ne (by decide)]
  exact h2
theorem Hold.refWord5 (h : Hold w0 w (refF g c C x R)) (hl : (C 5).length = 1) (v : Int) : Hold w0 (w.setCell ⟨g, 17, none⟩ (.int .u64 v)) (refF g c (setK C 5 0 v) x R) := by
  have h2 := h.setBlk 17 (.int .u64 v)
  have e1 : w1 (setK C 5 0 v) 5 = v := by
    unfold w1
    rw [setK_eq]
    cases hc : C 5 with
    | nil => rw [hc] at hl; cases hl
    | cons a l => rfl
  unfold refF refB refL
  simp only [slV_set]
  rw [cellK_ne (by decide), cellK_ne (by decide), cellK_ne (by decide), cellK_ne (by decide), cellK_ne (by decide)]
  rw [e1, w1_ne (by decide), w1_ne (by decide)]
  exact h2
end
theorem getC_at {C : Nat → List Int} {k : Nat} (h1 : 1 ≤ k) (h8 : k ≤ 8) : getC C (k : Int) = C k := by unfold getC; rw [if_pos (by omega)]; simp
theorem getC_out {C : Nat → List Int} {cell : Int} (h : ¬ (1 ≤ cell ∧ cell ≤ 8)) : getC C cell = [] := if_neg h
set_option maxHeartbeats 4000000 in
theorem rsize_any (w0 w : World) (R : Asr) (g : Nat) (c : Cfg) (C : Nat → List Int) (cell : Int) (h : Hold w0 w (refA g c C * R)) (hC : COk C) :
    Calls Try.prog 78 #[.pointer (some ⟨g, 0, none⟩), .int .i64 cell] w fun e w' => e = .returned (.int .i64 (getC C cell).length) ∧ w = w' := by
  obtain ⟨x, h⟩ := h.refOpen
  have hb := h.blk
  have q1 : w.cell? ⟨g, 13, none⟩ = some (slV C x 1) := hb.some_ rfl
  have q2 : w.cell? ⟨g, 14, none⟩ = some (slV C x 2) := hb.some_ rfl
  have q6 : w.cell? ⟨g, 18, none⟩ = some (slV C x 6) := hb.some_ rfl
  have q7 : w.cell? ⟨g, 19, none⟩ = some (slV C x 7) := hb.some_ rfl
  have q8 : w.cell? ⟨g, 20, none⟩ = some (slV C x 8) := hb.some_ rfl
  have hl := hC.len (cell.toNat)
  have l3 := hC.l3; have l4 := hC.l4; have l5 := hC.l5
  have HL := hid (And.intro l3 (And.intro l4 l5))
  clear l3 l4 l5
  clear h hb hC
  by_cases h1 : cell = 1
  · subst h1
    rw [show getC C 1 = C 1 from getC_at (k := 1) (by decide) (by decide)]
    go_enter Try.func78, Try.ntmps78
    go_wp2
    go_ret
    exact ⟨rfl, rfl⟩
  by_cases h2 : cell = 2
  · subst h2
    rw [show getC C 2 = C 2 from getC_at (k := 2) (by decide) (by decide)]
    go_enter Try.func78, Try.ntmps78
    go_wp2
    go_ret
    exact ⟨rfl, rfl⟩
  by_cases h3 : cell = 3
  · subst h3
    rw [show getC C 3 = C 3 from getC_at (k := 3) (by decide) (by decide)]
    rw [HL.out.1]
    go_enter Try.func78, Try.ntmps78
    go_wp2
    go_ret
    exact ⟨rfl, rfl⟩
  by_cases h4 : cell = 4
  · subst h4
    rw [show getC C 4 = C 4 from getC_at (k := 4) (by decide) (by decide)]
    rw [HL.out.2.1]
    go_enter Try.func78, Try.ntmps78
    go_wp2
    go_ret
    exact ⟨rfl, rfl⟩
  by_cases h5 : cell = 5
  · subst h5
    rw [show getC C 5 = C 5 from getC_at (k := 5) (by decide) (by decide)]
    rw [HL.out.2.2]
    go_enter Try.func78, Try.ntmps78
    go_wp2
    go_ret
    exact ⟨rfl, rfl⟩
  by_cases h6 : cell = 6
  · subst h6
    rw [show getC C 6 = C 6 from getC_at (k := 6) (by decide) (by decide)]
    go_enter Try.func78, Try.ntmps78
    go_wp2
    go_ret
    exact ⟨rfl, rfl⟩
  by_cases h7 : cell = 7
  · subst h7
    rw [show getC C 7 = C 7 from getC_at (k := 7) (by decide) (by decide)]
    go_enter Try.func78, Try.ntmps78
    go_wp2
    go_ret
    exact ⟨rfl, rfl⟩
  by_cases h8 : cell = 8
  · subst h8
    rw [show getC C 8 = C 8 from getC_at (k := 8) (by decide) (by decide)]
    go_enter Try.func78, Try.ntmps78
    go_wp2
    go_ret
    exact ⟨rfl, rfl⟩
  rw [getC_out (by omega)]
  have e1 : (cell == 1) = false := beq_eq_false_iff_ne.2 h1
  have e2 : (cell == 2) = false := beq_eq_false_iff_ne.2 h2
  have e3 : (cell == 3) = false := beq_eq_false_iff_ne.2 h3
  have e4 : (cell == 4) = false := beq_eq_false_iff_ne.2 h4
  have e5 : (cell == 5) = false := beq_eq_false_iff_ne.2 h5
  have e6 : (cell == 6) = false := beq_eq_false_iff_ne.2 h6
  have e7 : (cell == 7) = false := beq_eq_false_iff_ne.2 h7
  have e8 : (cell == 8) = false := beq_eq_false_iff_ne.2 h8
  go_enter Try.func78, Try.ntmps78
  go_wp2
  go_ret
  exact ⟨rfl, rfl⟩
set_option maxHeartbeats 4000000 in
theorem rget_any (w0 w : World) (R : Asr) (g : Nat) (c : Cfg) (C : Nat → List Int) (cell index : Int) (h : Hold w0 w (refA g c C * R)) (hC : COk C) (hh : hasC C cell index) :
    Calls Try.prog 77 #[.pointer (some ⟨g, 0, none⟩), .int .i64 cell, .int .i64 index] w fun e w' => e = .returned (.int .u64 (valC C cell index)) ∧ w = w' := by
  obtain ⟨x, h⟩ := h.refOpen
  have hb := h.blk
  obtain ⟨h0, hi⟩ := hh
  obtain ⟨i, rfl⟩ : ∃ i : Nat, index = i := ⟨index.toNat, by omega⟩
  have hv : valC C cell i = (getC C cell).getD i 0 := rfl
  rw [hv]
  have hl := hC.len
  have l3 := hC.l3; have l4 := hC.l4; have l5 := hC.l5
  have HL := hid (And.intro l3 (And.intro l4 l5))
  have Hl := hid hl
  clear l3 l4 l5 hv hl hC
  by_cases h1 : cell = 1
  · subst h1
    rw [show getC C 1 = C 1 from getC_at (k := 1) (by decide) (by decide)] at hi ⊢
    have q : w.cell? ⟨g, 13, none⟩ = some (slV C x 1) := hb.some_ rfl
    obtain ⟨R', hR, _⟩ := h.refRow1
    obtain ⟨gr, hgr, hcr, _, _⟩ := set_at (zs := C 1) (k := .u64) (A := x.A 1) (cp := x.c 1) (n := (C 1).length) (e := 53) hR (i := i) (by omega)
    unfold slV at q
    rw [hgr] at q
    have hn := Hl.out 1
    obtain ⟨n, hn2⟩ : ∃ n, n = (C 1).length := ⟨_, rfl⟩
    rw [← hn2] at q hi hn
    obtain ⟨y, hy⟩ : ∃ y, y = (C 1).getD i 0 := ⟨_, rfl⟩
    rw [← hy] at hcr ⊢
    have Hy := hid (And.intro hy hn2)
    clear h hb hR hgr hn2 hy
    go_enter Try.func77, Try.ntmps77
    go_wp2
    go_ret
    exact ⟨rfl, rfl⟩
  by_cases h2 : cell = 2
  · subst h2
    rw [show getC C 2 = C 2 from getC_at (k := 2) (by decide) (by decide)] at hi ⊢
    have q : w.cell? ⟨g, 14, none⟩ = some (slV C x 2) := hb.some_ rfl
    obtain ⟨R', hR, _⟩ := h.refRow2
    obtain ⟨gr, hgr, hcr, _, _⟩ := set_at (zs := C 2) (k := .u64) (A := x.A 2) (cp := x.c 2) (n := (C 2).length) (e := 53) hR (i := i) (by omega)
    unfold slV at q
    rw [hgr] at q
    have hn := Hl.out 2
    obtain ⟨n, hn2⟩ : ∃ n, n = (C 2).length := ⟨_, rfl⟩
    rw [← hn2] at q hi hn
    obtain ⟨y, hy⟩ : ∃ y, y = (C 2).getD i 0 := ⟨_, rfl⟩
    rw [← hy] at hcr ⊢
    have Hy := hid (And.intro hy hn2)
    clear h hb hR hgr hn2 hy
    go_enter Try.func77, Try.ntmps77
    go_wp2
    go_ret
    exact ⟨rfl, rfl⟩
  by_cases h3 : cell = 3
  · subst h3
    rw [show getC C 3 = C 3 from getC_at (k := 3) (by decide) (by decide)] at hi ⊢
    have q : w.cell? ⟨g, 15, none⟩ = some (.int .u64 (w1 C 3)) := hb.some_ rfl
    rw [HL.out.1] at hi
    obtain rfl : i = 0 := by omega
    rw [show (C 3).getD 0 0 = w1 C 3 from rfl]
    clear h hb hi h0
    go_enter Try.func77, Try.ntmps77
    go_wp2
    go_ret
    exact ⟨rfl, rfl⟩
  by_cases h4 : cell = 4
  · subst h4
    rw [show getC C 4 = C 4 from getC_at (k := 4) (by decide) (by decide)] at hi ⊢
    have q : w.cell? ⟨g, 16, none⟩ = some (.int .u64 (w1 C 4)) := hb.some_ rfl
    rw [HL.out.2.1] at hi
    obtain rfl : i = 0 := by omega
    rw [show (C 4).getD 0 0 = w1 C 4 from rfl]
    clear h hb hi h0
    go_enter Try.func77, Try.ntmps77
    go_wp2
    go_ret
    exact ⟨rfl, rfl⟩
  by_cases h5 : cell = 5
  · subst h5
    rw [show getC C 5 = C 5 from getC_at (k := 5) (by decide) (by decide)] at hi ⊢
    have q : w.cell? ⟨g, 17, none⟩ = some (.int .u64 (w1 C 5)) := hb.some_ rfl
    rw [HL.out.2.2] at hi
    obtain rfl : i = 0 := by omega
    rw [show (C 5).getD 0 0 = w1 C 5 from rfl]
    clear h hb hi h0
    go_enter Try.func77, Try.ntmps77
    go_wp2
    go_ret
    exact ⟨rfl, rfl⟩
  by_cases h6 : cell = 6
  · subst h6
    rw [show getC C 6 = C 6 from getC_at (k := 6) (by decide) (by decide)] at hi ⊢
    have q : w.cell? ⟨g, 18, none⟩ = some (slV C x 6) := hb.some_ rfl
    obtain ⟨R', hR, _⟩ := h.refRow6
    obtain ⟨gr, hgr, hcr, _, _⟩ := set_at (zs := C 6) (k := .u64) (A := x.A 6) (cp := x.c 6) (n := (C 6).length) (e := 53) hR (i := i) (by omega)
    unfold slV at q
    rw [hgr] at q
    have hn := Hl.out 6
    obtain ⟨n, hn2⟩ : ∃ n, n = (C 6).length := ⟨_, rfl⟩
    rw [← hn2] at q hi hn
    obtain ⟨y, hy⟩ : ∃ y, y = (C 6).getD i 0 := ⟨_, rfl⟩
    rw [← hy] at hcr ⊢
    have Hy := hid (And.intro hy hn2)
    clear h hb hR hgr hn2 hy
    go_enter Try.func77, Try.ntmps77
    go_wp2
    go_ret
    exact ⟨rfl, rfl⟩
  by_cases h7 : cell = 7
  · subst h7
    rw [show getC C 7 = C 7 from getC_at (k := 7) (by decide) (by decide)] at hi ⊢
    have q : w.cell? ⟨g, 19, none⟩ = some (slV C x 7) := hb.some_ rfl
    obtain ⟨R', hR, _⟩ := h.refRow7
    obtain ⟨gr, hgr, hcr, _, _⟩ := set_at (zs := C 7) (k := .u64) (A := x.A 7) (cp := x.c 7) (n := (C 7).length) (e := 53) hR (i := i) (by omega)
    unfold slV at q
    rw [hgr] at q
    have hn := Hl.out 7
    obtain ⟨n, hn2⟩ : ∃ n, n = (C 7).length := ⟨_, rfl⟩
    rw [← hn2] at q hi hn
    obtain ⟨y, hy⟩ : ∃ y, y = (C 7).getD i 0 := ⟨_, rfl⟩
    rw [← hy] at hcr ⊢
    have Hy := hid (And.intro hy hn2)
    clear h hb hR hgr hn2 hy
    go_enter Try.func77, Try.ntmps77
    go_wp2
    go_ret
    exact ⟨rfl, rfl⟩
  by_cases h8 : cell = 8
  · subst h8
    rw [show getC C 8 = C 8 from getC_at (k := 8) (by decide) (by decide)] at hi ⊢
    have q : w.cell? ⟨g, 20, none⟩ = some (slV C x 8) := hb.some_ rfl
    obtain ⟨R', hR, _⟩ := h.refRow8
    obtain ⟨gr, hgr, hcr, _, _⟩ := set_at (zs := C 8) (k := .u64) (A := x.A 8) (cp := x.c 8) (n := (C 8).length) (e := 53) hR (i := i) (by omega)
    unfold slV at q
    rw [hgr] at q
    have hn := Hl.out 8
    obtain ⟨n, hn2⟩ : ∃ n, n = (C 8).length := ⟨_, rfl⟩
    rw [← hn2] at q hi hn
    obtain ⟨y, hy⟩ : ∃ y, y = (C 8).getD i 0 := ⟨_, rfl⟩
    rw [← hy] at hcr ⊢
    have Hy := hid (And.intro hy hn2)
    clear h hb hR hgr hn2 hy
    go_enter Try.func77, Try.ntmps77
    go_wp2
    go_ret
    exact ⟨rfl, rfl⟩
  exfalso
  rw [getC_out (by omega)] at hi
  simp at hi
  omega
set_option maxHeartbeats 4000000 in
theorem rset_any (w0 w : World) (R : Asr) (g : Nat) (c : Cfg) (C : Nat → List Int) (cell index v : Int) (h : Hold w0 w (refA g c C * R)) (hC : COk C) (hh : hasC C cell index) :
    Calls Try.prog 79 #[.pointer (some ⟨g, 0, none⟩), .int .i64 cell, .int .i64 index, .int .u64 v] w fun e w' => e = .returned (.tuple #[]) ∧ Hold w0 w' (refA g c (setK C cell.toNat index.toNat v) * R) := by
  obtain ⟨x, h⟩ := h.refOpen
  have hb := h.blk
  obtain ⟨h0, hi⟩ := hh
  obtain ⟨i, rfl⟩ : ∃ i : Nat, index = i := ⟨index.toNat, by omega⟩
  have hl := hC.len
  have l3 := hC.l3; have l4 := hC.l4; have l5 := hC.l5
  have HL := hid (And.intro l3 (And.intro l4 l5))
  have Hl := hid hl
  clear l3 l4 l5 hl hC
  by_cases h1 : cell = 1
  · subst h1
    rw [show getC C 1 = C 1 from getC_at (k := 1) (by decide) (by decide)] at hi
    have q : w.cell? ⟨g, 13, none⟩ = some (slV C x 1) := hb.some_ rfl
    have z := hb.frozen 13
    obtain ⟨R', hR, hK⟩ := h.refRow1
    obtain ⟨gr, hgr, hcr, hfr, hst⟩ := set_at (zs := C 1) (k := .u64) (A := x.A 1) (cp := x.c 1) (n := (C 1).length) (e := 53) hR (i := i) (by omega)
    have H2 := hid (hK _ _ _ (hst v)).refShut
    unfold slV at q
    rw [hgr] at q
    have hn := Hl.out 1
    obtain ⟨n, hn2⟩ : ∃ n, n = (C 1).length := ⟨_, rfl⟩
    rw [← hn2] at q hi hn
    obtain ⟨y, hy⟩ : ∃ y, y = (C 1).getD i 0 := ⟨_, rfl⟩
    rw [← hy] at hcr
    have Hy := hid (And.intro hy hn2)
    clear h hb hR hgr hn2 hy hst hK
    go_enter Try.func79, Try.ntmps79
    go_wp2
    go_end0
    exact ⟨rfl, H2.out⟩
  by_cases h2 : cell = 2
  · subst h2
    rw [show getC C 2 = C 2 from getC_at (k := 2) (by decide) (by decide)] at hi
    have q : w.cell? ⟨g, 14, none⟩ = some (slV C x 2) := hb.some_ rfl
    have z := hb.frozen 14
    obtain ⟨R', hR, hK⟩ := h.refRow2
    obtain ⟨gr, hgr, hcr, hfr, hst⟩ := set_at (zs := C 2) (k := .u64) (A := x.A 2) (cp := x.c 2) (n := (C 2).length) (e := 53) hR (i := i) (by omega)
    have H2 := hid (hK _ _ _ (hst v)).refShut
    unfold slV at q
    rw [hgr] at q
    have hn := Hl.out 2
    obtain ⟨n, hn2⟩ : ∃ n, n = (C 2).length := ⟨_, rfl⟩
    rw [← hn2] at q hi hn
    obtain ⟨y, hy⟩ : ∃ y, y = (C 2).getD i 0 := ⟨_, rfl⟩
    rw [← hy] at hcr
    have Hy := hid (And.intro hy hn2)
    clear h hb hR hgr hn2 hy hst hK
    go_enter Try.func79, Try.ntmps79
    go_wp2
    go_end0
    exact ⟨rfl, H2.out⟩
  by_cases h3 : cell = 3
  · subst h3
    rw [show getC C 3 = C 3 from getC_at (k := 3) (by decide) (by decide)] at hi
    have q : w.cell? ⟨g, 15, none⟩ = some (.int .u64 (w1 C 3)) := hb.some_ rfl
    have z := hb.frozen 15
    rw [HL.out.1] at hi
    obtain rfl : i = 0 := by omega
    have H2 := hid (h.refWord3 HL.out.1 v).refShut
    clear h hb hi h0
    go_enter Try.func79, Try.ntmps79
    go_wp2
    go_end0
    exact ⟨rfl, H2.out⟩
  by_cases h4 : cell = 4
  · subst h4
    rw [show getC C 4 = C 4 from getC_at (k := 4) (by decide) (by decide)] at hi
    have q : w.cell? ⟨g, 16, none⟩ = some (.int .u64 (w1 C 4)) := hb.some_ rfl
    have z := hb.frozen 16
    rw [HL.out.2.1] at hi
    obtain rfl : i = 0 := by omega
    have H2 := hid (h.refWord4 HL.out.2.1 v).refShut
    clear h hb hi h0
    go_enter Try.func79, Try.ntmps79
    go_wp2
    go_end0
    exact ⟨rfl, H2.out⟩
  by_cases h5 : cell = 5
  · subst h5
    rw [show getC C 5 = C 5 from getC_at (k := 5) (by decide) (by decide)] at hi
    have q : w.cell? ⟨g, 17, none⟩ = some (.int .u64 (w1 C 5)) := hb.some_ rfl
    have z := hb.frozen 17
    rw [HL.out.2.2] at hi
    obtain rfl : i = 0 := by omega
    have H2 := hid (h.refWord5 HL.out.2.2 v).refShut
    clear h hb hi h0
    go_enter Try.func79, Try.ntmps79
    go_wp2
    go_end0
    exact ⟨rfl, H2.out⟩
  by_cases h6 : cell = 6
  · subst h6
    rw [show getC C 6 = C 6 from getC_at (k := 6) (by decide) (by decide)] at hi
    have q : w.cell? ⟨g, 18, none⟩ = some (slV C x 6) := hb.some_ rfl
    have z := hb.frozen 18
    obtain ⟨R', hR, hK⟩ := h.refRow6
    obtain ⟨gr, hgr, hcr, hfr, hst⟩ := set_at (zs := C 6) (k := .u64) (A := x.A 6) (cp := x.c 6) (n := (C 6).length) (e := 53) hR (i := i) (by omega)
    have H2 := hid (hK _ _ _ (hst v)).refShut
    unfold slV at q
    rw [hgr] at q
    have hn := Hl.out 6
    obtain ⟨n, hn2⟩ : ∃ n, n = (C 6).length := ⟨_, rfl⟩
    rw [← hn2] at q hi hn
    obtain ⟨y, hy⟩ : ∃ y, y = (C 6).getD i 0 := ⟨_, rfl⟩
    rw [← hy] at hcr
    have Hy := hid (And.intro hy hn2)
    clear h hb hR hgr hn2 hy hst hK
    go_enter Try.func79, Try.ntmps79
    go_wp2
    go_end0
    exact ⟨rfl, H2.out⟩
  by_cases h7 : cell = 7
  · subst h7
    rw [show getC C 7 = C 7 from getC_at (k := 7) (by decide) (by decide)] at hi
    have q : w.cell? ⟨g, 19, none⟩ = some (slV C x 7) := hb.some_ rfl
    have z := hb.frozen 19
    obtain ⟨R', hR, hK⟩ := h.refRow7
    obtain ⟨gr, hgr, hcr, hfr, hst⟩ := set_at (zs := C 7) (k := .u64) (A := x.A 7) (cp := x.c 7) (n := (C 7).length) (e := 53) hR (i := i) (by omega)
    have H2 := hid (hK _ _ _ (hst v)).refShut
    unfold slV at q
    rw [hgr] at q
    have hn := Hl.out 7
    obtain ⟨n, hn2⟩ : ∃ n, n = (C 7).length := ⟨_, rfl⟩
    rw [← hn2] at q hi hn
    obtain ⟨y, hy⟩ : ∃ y, y = (C 7).getD i 0 := ⟨_, rfl⟩
    rw [← hy] at hcr
    have Hy := hid (And.intro hy hn2)
    clear h hb hR hgr hn2 hy hst hK
    go_enter Try.func79, Try.ntmps79
    go_wp2
    go_end0
    exact ⟨rfl, H2.out⟩
  by_cases h8 : cell = 8
  · subst h8
    rw [show getC C 8 = C 8 from getC_at (k := 8) (by decide) (by decide)] at hi
    have q : w.cell? ⟨g, 20, none⟩ = some (slV C x 8) := hb.some_ rfl
    have z := hb.frozen 20
    obtain ⟨R', hR, hK⟩ := h.refRow8
    obtain ⟨gr, hgr, hcr, hfr, hst⟩ := set_at (zs := C 8) (k := .u64) (A := x.A 8) (cp := x.c 8) (n := (C 8).length) (e := 53) hR (i := i) (by omega)
    have H2 := hid (hK _ _ _ (hst v)).refShut
    unfold slV at q
    rw [hgr] at q
    have hn := Hl.out 8
    obtain ⟨n, hn2⟩ : ∃ n, n = (C 8).length := ⟨_, rfl⟩
    rw [← hn2] at q hi hn
    obtain ⟨y, hy⟩ : ∃ y, y = (C 8).getD i 0 := ⟨_, rfl⟩
    rw [← hy] at hcr
    have Hy := hid (And.intro hy hn2)
    clear h hb hR hgr hn2 hy hst hK
    go_enter Try.func79, Try.ntmps79
    go_wp2
    go_end0
    exact ⟨rfl, H2.out⟩
  exfalso
  rw [getC_out (by omega)] at hi
  simp at hi
  omega
theorem rhas_any (w0 w : World) (R : Asr) (g : Nat) (c : Cfg) (C : Nat → List Int) (cell index : Int) (h : Hold w0 w (refA g c C * R)) (hC : COk C) :
    Calls Try.prog 65 #[.pointer (some ⟨g, 0, none⟩), .int .i64 cell, .int .i64 index] w fun e w' => e = .returned (.bool (decide (hasC C cell index))) ∧ w = w' := by
  by_cases h0 : 0 ≤ index
  · obtain ⟨n, hn⟩ : ∃ n, n = (getC C cell).length := ⟨_, rfl⟩
    by_cases hi : index < n
    · rw [decide_eq_true (show hasC C cell index from ⟨h0, by rw [← hn]; exact hi⟩)]
      have Hn := hid hn
      have e2 : decide (index < (n : Int)) = true := decide_eq_true hi
      clear hn
      go_enter Try.func65, Try.ntmps65
      go_wp2_with (go_at_call 78; refine (rsize_any w0 _ _ g c C cell h hC).mono ?_; rintro e w' ⟨rfl, rfl⟩; rw [← Hn.out])
      go_ret
      exact ⟨rfl, rfl⟩
    · rw [decide_eq_false (show ¬ hasC C cell index from fun h => hi (by rw [hn]; exact h.2))]
      have Hn := hid hn
      have e2 : decide (index < (n : Int)) = false := decide_eq_false hi
      clear hn
      go_enter Try.func65, Try.ntmps65
      go_wp2_with (go_at_call 78; refine (rsize_any w0 _ _ g c C cell h hC).mono ?_; rintro e w' ⟨rfl, rfl⟩; rw [← Hn.out])
      go_ret
      exact ⟨rfl, rfl⟩
  · rw [decide_eq_false (show ¬ hasC C cell index from fun h => h0 h.1)]
    have e1 : decide (0 ≤ index) = false := decide_eq_false h0
    go_enter Try.func65, Try.ntmps65
    go_wp2
    go_ret
    exact ⟨rfl, rfl⟩
end Go.Proofs.Ytopcnaakdldkpaa
