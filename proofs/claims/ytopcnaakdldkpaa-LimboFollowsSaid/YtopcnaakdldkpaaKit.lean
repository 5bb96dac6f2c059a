/- The contracts of strongtxkit's comparisons and of slices.Clone, slices.Contains: what each returns. -/
import Derived.Test.YtopcnaakdldkpaaMem
namespace Go.Proofs.Ytopcnaakdldkpaa
open Go.RowKit
set_option linter.unusedVariables false

theorem u64_nonneg (a : Int) : 0 ≤ IntKind.u64.wrap a := by rw [IntKind.wrap_u64]; omega
theorem u64_lt (a : Int) : IntKind.u64.wrap a ≤ 18446744073709551615 := by rw [IntKind.wrap_u64]; omega
theorem getD_mem {xs : List Int} {j : Nat} (h : j < xs.length) : xs.getD j 0 ∈ xs := by simp [List.getD, List.getElem?_eq_getElem h]
theorem getD_at {xs : List Int} {j : Nat} (h : j < xs.length) : xs.getD j 0 = xs[j] := by simp [List.getD, List.getElem?_eq_getElem h]
theorem bool_eq {a b : Bool} (h : a = b) : Ending.returned (.bool a) = .returned (.bool b) := by rw [h]

theorem getD_ext {xs ys : List Int} {n : Nat} (hx : xs.length = n) (hy : ys.length = n) (h : ∀ j, j < n → xs.getD j 0 = ys.getD j 0) : xs = ys := by
  refine List.ext_getElem (by omega) fun j h1 h2 => ?_
  have := h j (by omega)
  simpa [List.getD, List.getElem?_eq_getElem h1, List.getElem?_eq_getElem h2] using this

/-- Place(a, n), n positive. -/
def place (a n : Int) : Int := IntKind.u64.wrap a % n
theorem place_nonneg (a n : Int) (hn : 0 < n) : 0 ≤ place a n := Int.emod_nonneg _ (by omega)
theorem place_lt (a n : Int) (hn : 0 < n) : place a n < n := Int.emod_lt_of_pos _ hn
set_option maxHeartbeats 400000 in
theorem place_any (w : World) (a n : Int) (h0 : 0 < n) (h1 : n ≤ 9223372036854775807) :
    Calls Try.prog 11 #[.int .i64 a, .int .i64 n] w fun e w' => e = .returned (.int .i64 (place a n)) ∧ w = w' := by
  have u0 := u64_nonneg a
  have p0 := place_nonneg a n h0
  have p1 := place_lt a n h0
  have hp : IntKind.u64.wrap a % n = place a n := rfl
  have hn : (n == 0) = false := beq_eq_false_iff_ne.2 (by omega)
  have Hp := hid hp
  clear hp
  go_enter Try.func11, Try.ntmps11
  go_wp2
  go_ret
  refine ⟨?_, rfl⟩
  simp
  rw [Hp.out]
  exact IntWalk.wrap64_in _ ⟨by omega, by omega⟩

theorem ints_any (w : World) (A B : Option Addr) (n m c d bA bB : Nat) (xs ys : List Int) (hA : Reads w bA A n (xs.map (Value.int .i64))) (hB : Reads w bB B m (ys.map (Value.int .i64))) (hn : n ≤ 9223372036854775807) :
    Calls Try.prog 24 #[.slice A n c, .slice B m d] w fun e w' => e = .returned (.bool (decide (xs = ys))) ∧ ∃ q, w' = w.drewN q := by
  have lx : xs.length = n := by simpa using hA.len
  have ly : ys.length = m := by simpa using hB.len
  by_cases hnm : n = m
  · subst hnm
    have e1 : ((n : Int) != n) = false := by simp
    go_enter Try.func24, Try.ntmps24
    go_wp2_with fail
    clear e1
    go_loopw [5] (fun i wr => ∃ k q : Nat, k ≤ n ∧ i = .int .i64 k ∧ wr = w.drewN q ∧ ∀ j, j < k → xs.getD j 0 = ys.getD j 0) (fun i _ => n - (intOf i).toNat)
    case atStart => exact ⟨0, 0, Nat.zero_le _, rfl, rfl, fun j hj => by omega⟩
    case round =>
      obtain ⟨k, q, hk, rfl, rfl, heq⟩ := hrel
      by_cases hlt : k < n
      · obtain ⟨ad, rfl, _, h1⟩ := hA.numAt hlt
        obtain ⟨bd, rfl, _, h2⟩ := hB.numAt hlt
        obtain ⟨x, hx⟩ : ∃ x, x = xs.getD k 0 := ⟨_, rfl⟩
        obtain ⟨y, hy⟩ : ∃ y, y = ys.getD k 0 := ⟨_, rfl⟩
        rw [← hx] at h1
        rw [← hy] at h2
        have Hx := hid hx
        have Hy := hid hy
        have He := hid heq
        clear hx hy heq
        by_cases hxy : x = y
        · subst hxy
          go_wp2_with fail
          go_quiet (fail)
          go_wp2_with fail
          go_roundw
          case rel => exact ⟨k + 1, _, by omega, by go_num, (by first | rfl | exact World.drewN_drewN _ _ _), fun j hj => by
            rcases Nat.lt_or_ge j k with h | h
            · exact He.out j h
            · obtain rfl : j = k := by omega
              rw [← Hx.out, ← Hy.out]⟩
          case measure => simp [intOf]; omega
        · have e2 : (x != y) = true := by simpa using hxy
          go_wp2_with fail
          go_quiet (fail)
          go_wp2_with fail
          go_ret
          exact ⟨bool_eq (by
            symm
            rw [decide_eq_false_iff_not]
            rintro rfl
            exact hxy (Hx.out.trans Hy.out.symm)), by first | exact ⟨_, rfl⟩ | exact ⟨_, World.drewN_drewN _ _ _⟩⟩
      · have He := hid heq
        clear heq
        go_wp2_with fail
        go_ret
        exact ⟨bool_eq (by symm; rw [decide_eq_true_iff]; exact getD_ext lx ly (fun j hj => He.out j (by omega))), q, rfl⟩
  · have e1 : ((n : Int) != m) = true := by simp; omega
    go_enter Try.func24, Try.ntmps24
    go_wp2_with fail
    go_ret
    exact ⟨bool_eq (by symm; rw [decide_eq_false_iff_not]; rintro rfl; omega), 0, rfl⟩





theorem info_uint64 : (Try.prog.info? 53).map (fun i => (i.zero, i.size, i.bytes)) = some (some (.int .u64 0), 1, 8) := by kernel_rfl
set_option maxRecDepth 8000 in
set_option maxHeartbeats 400000 in
theorem clone_uint64 (w : World) (A : Option Addr) (n c bA : Nat) (xs : List Int) (hA : Reads w bA A n (xs.map (Value.int .u64))) (hn : n ≤ 1000000) :
    Calls Try.prog 50 #[.slice A n c] w fun e w' => ∃ A' c', e = .returned (.slice A' n c') ∧ w'.ownsRow w.heap.size 53 1 (.slice A' n c') n (xs.map (Value.int .u64)) ∧ Chg [] w w' := by
  have lx : xs.length = n := by simpa using hA.len
  obtain ⟨i0, hi, hz0, hz1, hz2⟩ := info_parts info_uint64
  have q22 : ∀ (w : World) (a : Option Addr) (n c n' c' : Nat), (binOp .eql 70 (.slice a n c) (.slice none n' c')).run Try.prog w = .ok (.bool a.isNone) w := fun w a n c n' c' => Lib.run_eql_slice_nil w _ _ a n c n' c' Try.underlying70
  cases A with
  | none =>
    have h0 : n = 0 := by
      rcases Nat.eq_zero_or_pos n with h | h
      · exact h
      · obtain ⟨ad, u, h1, _⟩ := hA.at_ 0 h
        cases h1
    subst h0
    obtain rfl : xs = [] := List.eq_nil_of_length_eq_zero lx
    clear hA lx
    go_enter Try.func50, Try.ntmps50
    go_wp2
    go_ret
    exact ⟨_, _, rfl, World.ownsRow_nil _ _ _ _, Chg.refl _ _⟩
  | some ad =>
    have hnews : ∀ j u, (xs.map (Value.int .u64))[j]? = some u → (w.alloc (.cells #[] 53)).cell? (ad.add j) = some u := by
      intro j u hu
      have hj : j < n := by
        have := (List.getElem?_eq_some_iff.1 hu).1
        simpa [lx] using this
      obtain ⟨ad', u', h1, h2, h3, h4, h5⟩ := hA.at_ j hj
      injection h1 with h1
      subst h1
      rw [World.cell?_alloc_lt _ _ _ (by rw [block_of_add]; omega), h5, ← h4, hu]
    have Hn := hid hnews
    clear hnews
    go_enter Try.func50, Try.ntmps50
    go_wp2_with (at_builtin; refine wpList_append_own _ rfl _ _ 70 rfl w.heap.size 53 i0 (.int .u64 0) 1 8 Try.underlying70 hi hz0 hz1 hz2 rfl (by decide) _ _ _ rfl (World.ownsRow_made w #[] 0 (Nat.le_refl _) (Nat.zero_le _) rfl) ad n c (xs.map (Value.int .u64)) rfl ?qc1 ?qc2 ?qc3 ?qc4 ?qc5 ?qc6 ?_)
    case qc1 => simp; omega
    case qc2 => exact Hn.out
    case qc3 => exact ints_oneCell _ _
    case qc4 => unfold maxLen; omega
    case qc5 => omega
    case qc6 => simp
    intro v' w1 hown hgrow hnil
    obtain ⟨A', c', hv⟩ := row_form hown
    rw [hv] at hown
    rw [hv]
    clear hv hnil
    go_wp2
    go_ret
    refine ⟨A', c', rfl, by simpa using hown, ((Chg.refl _ w).alloc _).grown hgrow (by intro k hk; simp [Value.ownBlock] at hk; right; omega)⟩
end Go.Proofs.Ytopcnaakdldkpaa
