/- CellsSwaps: the walk. -/
import Derived.Test.YtfmmphabfdpegaaCounts
namespace Go.Proofs.Ytfmmphabfdpegaa
open Go.RowKit
set_option linter.unusedVariables false

/-- A cell of the kind j that is there, with y in it. -/
theorem cell_in {C : Nat → List Int} {j i : Nat} (hj : 1 ≤ j ∧ j ≤ 8) (hi : i < (C j).length) (y : Int) :
    hasC (setK C j i y) j i ∧ valC (setK C j i y) j i = y := by
  have hg : getC (setK C j i y) j = (C j).set i y := by rw [getC_at (k := j) hj.1 hj.2]; simp [setK]
  refine ⟨⟨by omega, by rw [hg]; simp; omega⟩, ?_⟩
  unfold valC
  rw [hg]
  simp [List.getD, hi]
theorem setK_same {C : Nat → List Int} {j i : Nat} {y : Int} (hi : i < (C j).length) (h : (C j).getD i 0 = y) : setK C j i y = C := by
  funext m; unfold setK; by_cases hm : m = j
  · subst hm
    rw [if_pos rfl]
    have : (C m)[i]'hi = y := by rw [← h]; simp [List.getD, hi]
    rw [← this]; exact List.set_getElem_self hi
  · rw [if_neg hm]
theorem setK_again (C : Nat → List Int) (k i : Nat) (u v : Int) : setK (setK C k i u) k i v = setK C k i v := by
  funext j; unfold setK; by_cases h : j = k <;> simp [h]
/-- What an operation on a cell that is there does. -/
theorem op_in {C : Nat → List Int} {j i : Nat} (hj : 1 ≤ j ∧ j ≤ 8) (hi : i < (C j).length) (y kd v : Int) (d : Bool) :
    opE (setK C j i y) j i = 0 ∧ opA (setK C j i y) kd j i v d = ⟨kd, j, i, y, if d then v else y, d⟩ ∧ opC (setK C j i y) j i v d = setK C j i (if d then v else y) := by
  obtain ⟨hh, hv⟩ := cell_in hj hi y
  refine ⟨by unfold opE; rw [if_pos hh], by unfold opA; rw [if_pos hh, hv], ?_⟩
  unfold opC
  cases d
  · rw [if_neg (by simp)]; rfl
  · rw [if_pos ⟨hh, rfl⟩]
    simp only [Int.toNat_natCast, if_true]
    exact setK_again _ _ _ _ _
theorem op_in1 {C : Nat → List Int} {i : Nat} (hi : i < (C 1).length) (y kd v : Int) (d : Bool) :
    opE (setK C 1 i y) 1 i = 0 ∧ opA (setK C 1 i y) kd 1 i v d = ⟨kd, 1, i, y, if d then v else y, d⟩ ∧ opC (setK C 1 i y) 1 i v d = setK C 1 i (if d then v else y) ∧ valC (setK C 1 i y) 1 i = y := by
  obtain ⟨h1, h2, h3⟩ := op_in (C := C) (j := 1) (by omega) hi y kd v d
  exact ⟨h1, h2, h3, (cell_in (C := C) (j := 1) (by omega) hi y).2⟩
set_option maxRecDepth 8000 in
set_option maxHeartbeats 4000000 in
theorem cellsSwaps_any (w : World) (c : Cfg) (l0 l1 l2 l3 l4 at_ : Int) (A : Option Addr) (n cap bA : Nat) (xs : List Int) (hcfg : ∀ w, Calls Try.prog 27 #[.int .i64 l0, .int .i64 l1, .int .i64 l2, .int .i64 l3, .int .i64 l4] w (fun e w' => e = .returned c.val ∧ Chg [] w w')) (hok : cfgErr c = 0)
    (hA : Reads w bA A n (xs.map (Value.int .u64))) (hx : ∀ x ∈ xs, 0 ≤ x ∧ x < 18446744073709551616) (hn : n ≤ 9223372036854775807) :
    Calls Try.prog 3 #[.agg #[.int .i64 l0, .int .i64 l1, .int .i64 l2, .int .i64 l3, .int .i64 l4], .int .i64 at_, .slice A n cap] w (fun e w' => e = .returned (.bool true) ∧ Below w.heap.size w w') := by
  have HC := hid hok
  have HF := hid hcfg
  have HA := hid hA
  have HX := hid hx
  clear hok hcfg hA hx
  by_cases h60 : 30 < n
  · have e1 : decide (30 < (n : Int)) = true := decide_eq_true (by omega)
    have h0 := hid ((Hold.start w).alloc (.cells #[.int .i64 l0, .int .i64 l1, .int .i64 l2, .int .i64 l3, .int .i64 l4] 22))
    go_enter Try.func3, Try.ntmps3
    go_wp2_with fail
    refine (awake_any w _ Asr.emp h0.out).mono ?_
    rintro e u1 ⟨rfl, h1⟩
    have H1 := hid h1
    clear h1
    go_wp2_with fail
    go_ret
    exact ⟨rfl, H1.out.below⟩
  · have e1 : decide (30 < (n : Int)) = false := decide_eq_false (by omega)
    have h0 := hid ((Hold.start w).alloc (.cells #[.int .i64 l0, .int .i64 l1, .int .i64 l2, .int .i64 l3, .int .i64 l4] 22))
    go_enter Try.func3, Try.ntmps3
    go_wp2_with fail
    refine (start_gen w _ Asr.emp c l0 l1 l2 l3 l4 0 HF.out HC.out h0.out).mono ?_
    rintro e u1 ⟨g, r, rfl, h1⟩
    clear h0
    obtain ⟨C, hC⟩ : ∃ C, C = newC c (1 + (place 0 4).toNat) (initL c.words.toNat) := ⟨_, rfl⟩
    obtain ⟨W, hW⟩ : ∃ W : Nat, c.words = W := ⟨c.words.toNat, by have := (cfgOk_of HC.out).w; omega⟩
    have hW1 : 1 ≤ W ∧ W ≤ 64 := by have := (cfgOk_of HC.out).w; omega
    have hC1 : C 1 = initL W ++ zerosN (nbl c) := by rw [hC, hW]; rfl
    have hCl : ∀ k, (C k).length ≤ 1000 := fun k => by rw [hC]; exact newC_len HC.out (by have := place_lt 0 4 (by omega); omega) (by rw [initL_len]; have := (cfgOk_of HC.out).w; omega) k
    have p0 := place_nonneg at_ W (by omega); have p1 := place_lt at_ W (by omega)
    obtain ⟨i, hi⟩ : ∃ i : Nat, place at_ W = i := ⟨(place at_ W).toNat, by omega⟩
    have hiW : i < W := by omega
    have hi1 : i < (C 1).length := by rw [hC1]; simp [initL_len]; omega
    have hold : (C 1).getD i 0 = 10 * (i : Int) + 1 := by rw [hC1]; simp [initL, List.getD, List.getElem?_append, hiW]
    rw [← hC] at h1
    have q0 : u1.cell? ⟨r, 0, none⟩ = some (.int .i64 W) := by rw [← hW]; obtain ⟨x, h2⟩ := h1.swap.refOpen; exact h2.blk.some_ rfl
    obtain ⟨x, h2⟩ := h1.swap.refOpen
    have q13 : u1.cell? ⟨r, 13, none⟩ = some (slV C x 1) := h2.blk.some_ rfl
    obtain ⟨R', hR, _⟩ := h2.refRow1
    obtain ⟨gr, hgr, hcr, _, _⟩ := set_at (zs := C 1) (k := .u64) (A := x.A 1) (cp := x.c 1) (n := (C 1).length) (e := 33) hR (i := i) hi1
    unfold slV at q13
    rw [hgr] at q13
    rw [hold] at hcr
    obtain ⟨m, hm⟩ : ∃ m, m = (C 1).length := ⟨_, rfl⟩
    have hm2 := hCl 1
    have him := hi1
    rw [← hm] at q13 hm2 him
    have H1 : Hid (Hold w u1 (memA g (setK C 1 i (10 * (i : Int) + 1)) * (refA r c C * Asr.emp))) := hid (by rw [setK_same hi1 hold]; exact h1)
    have HI := hid (And.intro hi1 hCl)
    clear hC hW p0 p1 h2 hR hgr hm hold hC1 hi1 hCl h1
    obtain ⟨old, ho⟩ : ∃ old, old = 10 * (i : Int) + 1 := ⟨_, rfl⟩
    rw [← ho] at hcr H1
    have ho1 : 1 ≤ old ∧ old ≤ 641 := by omega
    clear ho
    go_wp2_with (go_at_call 15; refine (place_any _ _ _ (by omega) (by omega)).mono ?_; rintro r w' ⟨rfl, rfl⟩; rw [hi])
    clear q0 q13 hcr
    go_loopw [12, 13] (fun s kk wr => ∃ (k : Nat) (y : Int), k ≤ n ∧ kk = .int .i64 k ∧ s = .int .u64 y ∧ ((k = 0 ∧ y = old) ∨ (0 < k ∧ y ≠ old)) ∧ Hold w wr (memA g (setK C 1 i y) * (refA r c C * Asr.emp))) (fun _ kk _ => n - (intOf kk).toNat)
    case atStart => exact ⟨0, old, by omega, rfl, rfl, .inl ⟨rfl, rfl⟩, H1.out⟩
    case round =>
      clear H1 e1
      obtain ⟨k, y, hk, rfl, rfl, hy, h2⟩ := hrel
      have hyl : ∀ j, ((setK C 1 i y) j).length ≤ 1000 := fun j => by rw [setK_len]; exact HI.out.2 j
      have HY := hid hyl
      clear hyl
      by_cases hlt : k < n
      · have e1 : decide ((k : Int) < n) = true := decide_eq_true (by omega)
        obtain ⟨ad, u, hA1, hA2, hA3, hA4, hA5⟩ := HA.out.at_ k hlt
        subst hA1
        obtain ⟨v, hv, rfl⟩ : ∃ v, v ∈ xs ∧ u = .int .u64 v := by rw [List.getElem?_map] at hA4; cases hx : xs[k]? with | none => rw [hx] at hA4; cases hA4 | some v => rw [hx] at hA4; exact ⟨v, List.mem_of_getElem? hx, by simpa using hA4.symm⟩
        have hvr := HX.out v hv
        have q1 := h2.old hA5
        clear hA2 hA3 hA4 hv
        rcases hy with ⟨rfl, rfl⟩ | ⟨hk0, hy⟩
        · have e3 : ((0 : Int) == 0) = true := rfl
          have q2 : wr.cell? ad = some (.int .u64 v) := q1
          by_cases hvo : v = y
          · subst hvo
            have e2 : (v == v) = true := by simp
            have hz : v + 1 ≠ v := by omega
            have hd : (v == v) = true := by simp
            obtain ⟨p1, p2, p3, p4⟩ := op_in1 HI.out.1 (v) 3 (v + 1) true
            have HP := hid (And.intro p1 (And.intro p2 (And.intro p3 p4)))
            clear p1 p2 p3 p4
            go_wp2_with fail
            refine (mem_swap w _ _ g _ 1 i (v) (v + 1) h2 (by omega) HY.out).mono ?_
            rintro e u2 ⟨rfl, h3⟩
            obtain ⟨p1, p2, p3, p4⟩ := HP.out
            rw [p4, hd, p1, p2]
            rw [p4, hd, p3] at h3
            clear p1 p2 p3 p4 h2 q1 q2
            have H4 := hid (h3.newBlk (t := 39) (cs := #[.int .i64 3, .int .i64 1, .int .i64 i, .int .u64 (v), .int .u64 (v + 1), .bool true])).drop
            clear h3 hd HP
            have e5 : (v == v) = true := by simp
            simp only [if_true] at *
            go_wp2_with fail
            go_round
            case rel => exact ⟨1, v + 1, by omega, rfl, rfl, .inr ⟨by omega, hz⟩, H4.out⟩
            case measure => simp [intOf]; omega
          · have e2 : (v == y) = false := by simp [hvo]
            have hz : v ≠ y := by omega
            have hd : (y == y) = true := by simp
            obtain ⟨p1, p2, p3, p4⟩ := op_in1 HI.out.1 (y) 3 (v) true
            have HP := hid (And.intro p1 (And.intro p2 (And.intro p3 p4)))
            clear p1 p2 p3 p4
            go_wp2_with fail
            refine (mem_swap w _ _ g _ 1 i (y) (v) h2 (by omega) HY.out).mono ?_
            rintro e u2 ⟨rfl, h3⟩
            obtain ⟨p1, p2, p3, p4⟩ := HP.out
            rw [p4, hd, p1, p2]
            rw [p4, hd, p3] at h3
            clear p1 p2 p3 p4 h2 q1 q2
            have H4 := hid (h3.newBlk (t := 39) (cs := #[.int .i64 3, .int .i64 1, .int .i64 i, .int .u64 (y), .int .u64 (v), .bool true])).drop
            clear h3 hd HP
            have e5 : (y == y) = true := by simp
            simp only [if_true] at *
            go_wp2_with fail
            go_round
            case rel => exact ⟨1, v, by omega, rfl, rfl, .inr ⟨by omega, hz⟩, H4.out⟩
            case measure => simp [intOf]; omega
        · have e3 : ((k : Int) == 0) = false := by simp; omega
          by_cases hvo : v = old
          · subst hvo
            have e2 : (v == v) = true := by simp
            have hz : v + 1 ≠ v := by omega
            have hd : (y == v) = false := by simp; exact hy
            obtain ⟨p1, p2, p3, p4⟩ := op_in1 HI.out.1 (y) 3 (v + 1) false
            have HP := hid (And.intro p1 (And.intro p2 (And.intro p3 p4)))
            clear p1 p2 p3 p4
            go_wp2_with fail
            refine (mem_swap w _ _ g _ 1 i (v) (v + 1) h2 (by omega) HY.out).mono ?_
            rintro e u2 ⟨rfl, h3⟩
            obtain ⟨p1, p2, p3, p4⟩ := HP.out
            rw [p4, hd, p1, p2]
            rw [p4, hd, p3] at h3
            clear p1 p2 p3 p4 h2 q1
            have H4 := hid (h3.newBlk (t := 39) (cs := #[.int .i64 3, .int .i64 1, .int .i64 i, .int .u64 (y), .int .u64 (y), .bool false])).drop
            clear h3 hd HP
            have e5 : (y == y) = true := by simp
            simp only [if_false, Bool.false_eq_true] at *
            go_wp2_with fail
            go_round
            case rel => exact ⟨k + 1, y, by omega, by go_num, rfl, .inr ⟨by omega, hy⟩, H4.out⟩
            case measure => simp [intOf]; omega
          · have e2 : (v == old) = false := by simp [hvo]
            have hz : v ≠ old := by omega
            have hd : (y == old) = false := by simp; exact hy
            obtain ⟨p1, p2, p3, p4⟩ := op_in1 HI.out.1 (y) 3 (v) false
            have HP := hid (And.intro p1 (And.intro p2 (And.intro p3 p4)))
            clear p1 p2 p3 p4
            go_wp2_with fail
            refine (mem_swap w _ _ g _ 1 i (old) (v) h2 (by omega) HY.out).mono ?_
            rintro e u2 ⟨rfl, h3⟩
            obtain ⟨p1, p2, p3, p4⟩ := HP.out
            rw [p4, hd, p1, p2]
            rw [p4, hd, p3] at h3
            clear p1 p2 p3 p4 h2 q1
            have H4 := hid (h3.newBlk (t := 39) (cs := #[.int .i64 3, .int .i64 1, .int .i64 i, .int .u64 (y), .int .u64 (y), .bool false])).drop
            clear h3 hd HP
            have e5 : (y == y) = true := by simp
            simp only [if_false, Bool.false_eq_true] at *
            go_wp2_with fail
            go_round
            case rel => exact ⟨k + 1, y, by omega, by go_num, rfl, .inr ⟨by omega, hy⟩, H4.out⟩
            case measure => simp [intOf]; omega
      · obtain rfl : n = k := by omega
        have e1 : decide ((n : Int) < n) = false := by simp
        obtain ⟨p1, p2, p3, p4⟩ := op_in1 HI.out.1 y 1 y true
        have HP := hid (And.intro p1 (And.intro p2 p4))
        clear p1 p2 p3 p4 hy
        go_wp2_with fail
        refine (mem_load w _ _ g _ 1 i h2 (by omega) HY.out).mono ?_
        rintro e u2 ⟨rfl, h3⟩
        obtain ⟨p1, p2, p4⟩ := HP.out
        rw [p4, p1, p2]
        simp only [if_true]
        clear p1 p2 p4 HP h2
        have H4 := hid (h3.newBlk (t := 39) (cs := #[.int .i64 1, .int .i64 1, .int .i64 i, .int .u64 y, .int .u64 y, .bool true])).drop
        clear h3
        go_wp2_with fail
        refine (awake_any w _ _ H4.out).mono ?_
        rintro e u3 ⟨rfl, h4⟩
        have H5 := hid h4.below
        clear h4 H4
        go_wp2_with fail
        go_ret
        exact ⟨rfl, H5.out⟩
end Go.Proofs.Ytfmmphabfdpegaa
