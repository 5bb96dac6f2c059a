/- Vector clocks: the plain laws, and the contracts of package vclock. -/
import Derived.Test.YtponapjgajmdnaaKit
import Derived.OwnWalk
namespace Go.Proofs.Ytponapjgajmdnaa
open Go.RowKit
set_option linter.unusedVariables false

/-! ## The plain clocks -/
def vget (xs : List Int) (i : Nat) : Int := xs.getD i 0
def vleq (xs ys : List Int) : Bool := (List.range (max xs.length ys.length)).all fun i => decide (vget xs i ≤ vget ys i)
def vjoin (xs ys : List Int) : List Int := (List.range (max xs.length ys.length)).map fun i => max (vget xs i) (vget ys i)
def vcmp (xs ys : List Int) : Int := if vleq xs ys then (if vleq ys xs then 0 else -1) else if vleq ys xs then 1 else 2
def vtick (xs : List Int) (t : Nat) : List Int := (xs ++ List.replicate (t + 1 - xs.length) 0).set t (vget xs t + 1)

theorem vget_out {xs : List Int} {i : Nat} (h : xs.length ≤ i) : vget xs i = 0 := by simp [vget, List.getD, List.getElem?_eq_none h]
theorem vleq_iff (xs ys : List Int) : vleq xs ys = true ↔ ∀ i, vget xs i ≤ vget ys i := by
  unfold vleq
  rw [List.all_eq_true]
  constructor
  · intro h i
    by_cases hi : i < max xs.length ys.length
    · simpa using h i (List.mem_range.2 hi)
    · rw [vget_out (by omega), vget_out (by omega)]; exact Int.le_refl _
  · intro h i _
    simpa using h i
theorem vget_join (xs ys : List Int) (h0 : ∀ i, 0 ≤ vget xs i) (i : Nat) : vget (vjoin xs ys) i = max (vget xs i) (vget ys i) := by
  by_cases hi : i < max xs.length ys.length
  · unfold vjoin
    conv => lhs; unfold vget
    simp [List.getD, List.getElem?_map, List.getElem?_range hi]
    rfl
  · rw [vget_out (xs := xs) (by omega), vget_out (xs := ys) (by omega), vget_out (by simp [vjoin]; omega)]; rfl
theorem vjoin_len (xs ys : List Int) : (vjoin xs ys).length = max xs.length ys.length := by simp [vjoin]
theorem vjoin_nonneg {xs ys : List Int} (h0 : ∀ i, 0 ≤ vget xs i) (i : Nat) : 0 ≤ vget (vjoin xs ys) i := by
  rw [vget_join _ _ h0]; have := h0 i; omega
theorem vtick_len (xs : List Int) (t : Nat) : (vtick xs t).length = max xs.length (t + 1) := by simp [vtick]; omega
theorem vget_tick (xs : List Int) (t i : Nat) : vget (vtick xs t) i = if i = t then vget xs t + 1 else vget xs i := by
  unfold vtick
  conv => lhs; unfold vget
  simp only [List.getD, List.getElem?_set]
  by_cases h : t = i
  · subst h
    simp
    rw [if_pos (by omega)]; rfl
  · rw [if_neg h, if_neg (fun e => h e.symm)]
    unfold vget
    simp only [List.getD, List.getElem?_append]
    split
    · rfl
    · rename_i hi
      rw [List.getElem?_eq_none (l := xs) (by omega), List.getElem?_replicate]
      split <;> rfl
theorem vcmp_zero {xs ys : List Int} : vcmp xs ys = 0 ↔ vleq xs ys = true ∧ vleq ys xs = true := by
  unfold vcmp
  cases vleq xs ys <;> cases vleq ys xs <;> simp
theorem vcmp_zero_iff {xs ys : List Int} : vcmp xs ys = 0 ↔ ∀ i, vget xs i = vget ys i := by
  rw [vcmp_zero, vleq_iff, vleq_iff]
  exact ⟨fun h i => Int.le_antisymm (h.1 i) (h.2 i), fun h => ⟨fun i => by rw [h i]; exact Int.le_refl _, fun i => by rw [h i]; exact Int.le_refl _⟩⟩
theorem vcmp_self (xs : List Int) : vcmp xs xs = 0 := vcmp_zero_iff.2 fun _ => rfl

/-! ## A slice of numbers -/
def RI (w : World) (A : Option Addr) (n : Nat) (xs : List Int) : Prop := ∃ b, Reads w b A n (xs.map (Value.int .i64))
theorem RI.chg {w w' : World} {A : Option Addr} {n : Nat} {xs : List Int} (h : RI w A n xs) (hc : Chg [] w w') : RI w' A n xs := by
  obtain ⟨b, hb⟩ := h
  exact ⟨b, hb.chg hc (by simp)⟩
theorem RI.len {w : World} {A : Option Addr} {n : Nat} {xs : List Int} (h : RI w A n xs) : xs.length = n := by
  obtain ⟨b, hb⟩ := h
  simpa using hb.len
theorem RI.own {w : World} {B : Nat} {A : Option Addr} {n c : Nat} {xs : List Int} (h : w.ownsRow B 3 1 (.slice A n c) n (xs.map (Value.int .i64))) : RI w A n xs := ⟨_, row_reads h⟩

theorem get_in (w : World) (A : Option Addr) (n c : Nat) (xs : List Int) (k : Nat) (hA : RI w A n xs) (hn : n ≤ 1000000) :
    Calls Try.prog 32 #[.slice A n c, .int .i64 k] w fun e w' => e = .returned (.int .i64 (vget xs k)) ∧ w = w' := by
  have hl := hA.len
  obtain ⟨b, hA⟩ := hA
  by_cases hk : k < n
  · obtain ⟨ad, rfl, _, h1⟩ := hA.numAt hk
    have h1' : w.cell? (ad.add k) = some (.int .i64 (vget xs k)) := h1
    have hd : decide (n ≤ k) = false := by simp; omega
    clear h1 hl
    go_enter Try.func32, Try.ntmps32
    go_wp2
    go_ret
    exact ⟨rfl, rfl⟩
  · have h0 : vget xs k = 0 := vget_out (by omega)
    have hd : decide (n ≤ k) = true := by simp; omega
    rw [h0]
    clear h0 hl
    go_enter Try.func32, Try.ntmps32
    go_wp2
    go_ret
    exact ⟨rfl, rfl⟩

theorem leq_any (w : World) (A B : Option Addr) (n m c d : Nat) (xs ys : List Int) (hA : RI w A n xs) (hB : RI w B m ys) (hn : n ≤ 1000000) (hm : m ≤ 1000000) :
    Calls Try.prog 29 #[.slice A n c, .slice B m d] w fun e w' => e = .returned (.bool (vleq xs ys)) ∧ w = w' := by
  have hl := hA.len
  have hl2 := hB.len
  obtain ⟨r, hr⟩ : ∃ r, r = max n m := ⟨_, rfl⟩
  have hr0 : ∀ i, r ≤ i → vget xs i ≤ vget ys i := fun i hi => by rw [vget_out (by omega), vget_out (by omega)]; exact Int.le_refl _
  have Hr0 := hid hr0
  have hcase : (n < m ∧ r = m) ∨ (¬ n < m ∧ r = n) := by omega
  have Hl := hid hl
  have Hl2 := hid hl2
  clear hr hr0 hl hl2
  rcases hcase with ⟨q1, q2⟩ | ⟨q1, q2⟩
  all_goals
    subst q2
    have hrb : r ≤ 1000000 := by omega
    go_enter Try.func29, Try.ntmps29
    go_wp2_with fail
    go_loop [11, 5] (fun i _ => ∃ k : Nat, k ≤ r ∧ i = .int .i64 k ∧ ∀ j, j < k → vget xs j ≤ vget ys j) (fun i _ => r - (intOf i).toNat)
    case atStart => exact ⟨0, Nat.zero_le _, rfl, fun j hj => by omega⟩
    case round =>
      obtain ⟨k, hk, rfl, heq⟩ := hrel
      have He := hid heq
      clear heq
      by_cases hlt : k < r
      · obtain ⟨x, hx⟩ : ∃ x, x = vget xs k := ⟨_, rfl⟩
        obtain ⟨y, hy⟩ : ∃ y, y = vget ys k := ⟨_, rfl⟩
        have Hx := hid hx
        have Hy := hid hy
        clear hx hy
        by_cases hxy : x ≤ y
        · have hd : decide (y < x) = false := by simp; omega
          go_wp2_with fail
          refine (get_in _ _ _ _ _ k hA (by omega)).mono ?_
          rintro e w' ⟨rfl, rfl⟩
          rw [← Hx.out]
          go_wp2_with fail
          refine (get_in _ _ _ _ _ k hB (by omega)).mono ?_
          rintro e w' ⟨rfl, rfl⟩
          rw [← Hy.out]
          go_wp2_with fail
          go_round
          case rel => exact ⟨k + 1, by omega, by go_num, fun j hj => by
            rcases Nat.lt_or_ge j k with h | h
            · exact He.out j h
            · obtain rfl : j = k := by omega
              rw [← Hx.out, ← Hy.out]; exact hxy⟩
          case measure => simp [intOf]; omega
        · have hd : decide (y < x) = true := by simp; omega
          go_wp2_with fail
          refine (get_in _ _ _ _ _ k hA (by omega)).mono ?_
          rintro e w' ⟨rfl, rfl⟩
          rw [← Hx.out]
          go_wp2_with fail
          refine (get_in _ _ _ _ _ k hB (by omega)).mono ?_
          rintro e w' ⟨rfl, rfl⟩
          rw [← Hy.out]
          go_wp2_with fail
          go_ret
          exact ⟨bool_eq (by
            symm
            rw [Bool.eq_false_iff]
            intro h
            have := (vleq_iff xs ys).1 h k
            rw [← Hx.out, ← Hy.out] at this
            omega), rfl⟩
      · go_wp2_with fail
        go_ret
        exact ⟨bool_eq (by
          symm
          rw [vleq_iff]
          intro i
          by_cases hi : i < k
          · exact He.out i hi
          · exact Hr0.out i (by omega)), rfl⟩

theorem cmp_any (w : World) (A B : Option Addr) (n m c d : Nat) (xs ys : List Int) (hA : RI w A n xs) (hB : RI w B m ys) (hn : n ≤ 1000000) (hm : m ≤ 1000000) :
    Calls Try.prog 30 #[.slice A n c, .slice B m d] w fun e w' => e = .returned (.int .i64 (vcmp xs ys)) ∧ w = w' := by
  cases h1 : vleq xs ys <;> cases h2 : vleq ys xs
  all_goals
    have hv : vcmp xs ys = if vleq xs ys then (if vleq ys xs then 0 else -1) else if vleq ys xs then 1 else 2 := rfl
    rw [h1, h2] at hv
    simp only [if_true, if_false, Bool.false_eq_true] at hv
    rw [hv]
    have H1 := hid h1
    have H2 := hid h2
    clear h1 h2 hv
    go_enter Try.func30, Try.ntmps30
    go_wp2_with fail
    refine (leq_any _ _ _ _ _ _ _ _ _ hA hB hn hm).mono ?_
    rintro e w' ⟨rfl, rfl⟩
    rw [H1.out]
    go_wp2_with fail
    refine (leq_any _ _ _ _ _ _ _ _ _ hB hA hm hn).mono ?_
    rintro e w' ⟨rfl, rfl⟩
    rw [H2.out]
    go_wp2_with fail
    go_ret
    exact ⟨rfl, rfl⟩

theorem made_ints (r : Nat) : (madeCells #[Value.int .i64 0] r).toList = (List.replicate r (0 : Int)).map (Value.int .i64) := by
  rw [toList_madeCells_one]; simp

/-- The elements of a join that are there after k rounds. -/
def vjoinTo (k r : Nat) (xs ys : List Int) : List Int := (List.range k).map (fun i => max (vget xs i) (vget ys i)) ++ List.replicate (r - k) 0
theorem vjoinTo_len {k r : Nat} (xs ys : List Int) (h : k ≤ r) : (vjoinTo k r xs ys).length = r := by simp [vjoinTo]; omega
theorem vjoinTo_set {k r : Nat} (xs ys : List Int) (h : k < r) : (vjoinTo k r xs ys).set k (max (vget xs k) (vget ys k)) = vjoinTo (k + 1) r xs ys := by
  have e : List.replicate (r - k) (0 : Int) = 0 :: List.replicate (r - (k + 1)) 0 := by
    rw [show r - k = (r - (k + 1)) + 1 from by omega, List.replicate_succ]
  unfold vjoinTo
  rw [e, List.set_append_right _ _ (by simp)]
  simp [List.range_succ]

set_option maxHeartbeats 400000 in
theorem join_any (w : World) (A B : Option Addr) (n m c d : Nat) (xs ys : List Int) (hA : RI w A n xs) (hB : RI w B m ys) (hn : n ≤ 1000000) (hm : m ≤ 1000000) :
    Calls Try.prog 28 #[.slice A n c, .slice B m d] w fun e w' => ∃ A' c', e = .returned (.slice A' (max n m) c') ∧ RI w' A' (max n m) (vjoin xs ys) ∧ Chg [] w w' := by
  have hl := hA.len
  have hl2 := hB.len
  obtain ⟨r, hr⟩ : ∃ r, r = max n m := ⟨_, rfl⟩
  have hj : vjoinTo r r xs ys = vjoin xs ys := by unfold vjoinTo vjoin; rw [hl, hl2, ← hr]; simp
  rw [← hr, ← hj]
  have hcase : (n < m ∧ r = m) ∨ (¬ n < m ∧ r = n) := by omega
  clear hr hl hl2 hj
  obtain ⟨i0, hi, hz0, hz1, hz2⟩ := info_parts info_int
  rcases hcase with ⟨q1, q2⟩ | ⟨q1, q2⟩
  all_goals
    subst q2
    have hrb : r ≤ 1000000 := by omega
    go_enter Try.func28, Try.ntmps28
    go_wp2_with (at_make; refine wpList_make_full _ rfl _ _ 22 rfl 0 3 i0 (.int .i64 0) 1 Try.underlying22 hi hz0 hz1 .i64 .i64 (r : Int) (r : Int) r rfl rfl rfl rfl (by rw [hz2]; omega) (by unfold maxLen; omega) (Nat.zero_le _) ?_)
    intro w1 hown hgrow
    have h0 : vjoinTo 0 r xs ys = List.replicate r 0 := by simp [vjoinTo]
    rw [made_ints, ← h0] at hown
    have hc1 : Chg [] w w1 := (Chg.refl _ _).grown hgrow (by simp)
    clear hgrow h0
    go_wp2_with fail
    go_loopw [15, 6] (fun i _ wr => ∃ k : Nat, k ≤ r ∧ i = .int .i64 k ∧ wr.ownsRow 0 3 1 (.slice (some ⟨w.heap.size, 0, none⟩) r r) r ((vjoinTo k r xs ys).map (Value.int .i64)) ∧ Chg [] w wr) (fun i _ _ => r - (intOf i).toNat)
    case atStart => exact ⟨0, Nat.zero_le _, rfl, hown, hc1⟩
    case round =>
      obtain ⟨k, hk, rfl, ho, hc⟩ := hrel
      clear hown hc1
      by_cases hlt : k < r
      · have hA' := hA.chg hc
        have hB' := hB.chg hc
        obtain ⟨g, hg, _, hcell, hfr, hst⟩ := row_at ho hlt
        injection hg with hg
        injection hg with hg
        subst hg
        have hne : ∃ u, wr.cell? ⟨w.heap.size, k, none⟩ = some u := ⟨_, hcell.trans (List.getElem?_eq_getElem (by simp [vjoinTo_len xs ys hk]; exact hlt))⟩
        obtain ⟨u0, hu0⟩ := hne
        obtain ⟨x, hx⟩ : ∃ x, x = vget xs k := ⟨_, rfl⟩
        obtain ⟨y, hy⟩ : ∃ y, y = vget ys k := ⟨_, rfl⟩
        have hnew : (wr.setCell ⟨w.heap.size, k, none⟩ (.int .i64 (max x y))).ownsRow 0 3 1 (.slice (some ⟨w.heap.size, 0, none⟩) r r) r ((vjoinTo (k + 1) r xs ys).map (Value.int .i64)) := by
          have := hst (.int .i64 (max x y))
          rwa [hx, hy, ← List.map_set, vjoinTo_set xs ys hlt, ← hx, ← hy] at this
        have hcn : Chg [] w (wr.setCell ⟨w.heap.size, k, none⟩ (.int .i64 (max x y))) := hc.setCell (.inr (Nat.le_refl _)) _
        have HN := hid (And.intro hnew hcn)
        have Hx := hid hx
        have Hy := hid hy
        clear hx hy hnew hcn hst hcell ho hc
        by_cases hxy : x < y
        all_goals
          have hmax : max x y = if x < y then y else x := by omega
          first
            | (rw [if_pos hxy] at hmax)
            | (rw [if_neg hxy] at hmax)
          have Hm := hid hmax
          clear hmax
          rw [Hm.out] at HN
          go_wp2_with fail
          refine (get_in _ _ _ _ _ k hA' (by omega)).mono ?_
          rintro e w' ⟨rfl, rfl⟩
          rw [← Hx.out]
          go_wp2_with fail
          refine (get_in _ _ _ _ _ k hB' (by omega)).mono ?_
          rintro e w' ⟨rfl, rfl⟩
          rw [← Hy.out]
          go_wp2_with fail
          go_roundw
          case rel => exact ⟨k + 1, by omega, by go_num, HN.out.1, HN.out.2⟩
          case measure => simp [intOf]; omega
      · obtain rfl : k = r := by omega
        go_wp2_with fail
        go_ret
        exact ⟨_, _, rfl, RI.own ho, hc⟩
end Go.Proofs.Ytponapjgajmdnaa
