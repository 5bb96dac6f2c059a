/- The walks of the statements about package readset: each law returns true. -/
import Derived.Test.YtponapjgajmdnaaSet
import Derived.Test.YtponapjgajmdnaaReg
namespace Go.Proofs.Ytponapjgajmdnaa
open Go.RowKit
set_option linter.unusedVariables false

/-- What a walk is told of a slice of integers that came in. -/
def IsRow (k : IntKind) (w : World) (a : Option Addr) (len cap : Nat) (zs : List Int) : Prop :=
  (a = none ∧ len = 0 ∧ cap = 0 ∧ zs = []) ∨
  ∃ x, a = some x ∧ len ≤ cap ∧ cap ≤ maxLen ∧ zs.length = cap ∧ (∀ i, i < zs.length → w.cell? (x.add i) = some (.int k (zs.getD i 0))) ∧ ∀ n ∈ zs, (Lit.int k n).wf = true
theorem IsRow.at_ {k : IntKind} {w w' : World} {a : Option Addr} {len cap : Nat} {zs : List Int} (h : IsRow k w a len cap zs) (hb : Below w.heap.size w w') {i : Nat} (hi : i < len) :
    ∃ x, a = some x ∧ w'.cell? (x.add i) = some (.int k (zs.getD i 0)) := by
  rcases h with ⟨_, rfl, _⟩ | ⟨x, rfl, hl, _, hz, hc, _⟩
  · omega
  · have h1 := hc i (by omega)
    exact ⟨x, rfl, (hb.cell (World.block_lt_of_cell? w _ h1)).trans h1⟩

theorem awake12 (w : World) : Calls Try.prog 15 #[] w fun e w' => e = .returned (.bool true) ∧ Below w.heap.size w w' := by
  go_enter Try.func15, Try.ntmps15
  go_wp2_with fail
  refine (set_make _ _).mono ?_
  rintro e w1 ⟨g, rfl, k1, c1, hg⟩
  have h1 : SetAt 68 w1 [g] g 2 [] := k1
  have b1 := chg_below (Below.refl w.heap.size w) c1 (Own.nil _)
  have o1 : Own w.heap.size [g] := Own.one hg
  clear k1 c1
  go_wp2_with fail
  refine (set_add _ _ _ _ _ _ h1 (by decide) (by decide)).mono ?_
  rintro e w2 ⟨rfl, fp2, k2, c2, d2⟩
  rw [show addOk 2 [] 5 = true from rfl]
  have h2 : SetAt 68 w2 fp2 g 2 [5] := k2
  have b2 := chg_below b1 c2 o1
  have o2 := o1.step d2 b1.size
  clear k2 c2 d2
  go_wp2_with fail
  refine (set_add _ _ _ _ _ _ h2 (by decide) (by decide)).mono ?_
  rintro e w3 ⟨rfl, fp3, k3, c3, d3⟩
  rw [show addOk 2 [5] 6 = true from rfl]
  have h3 : SetAt 68 w3 fp3 g 2 [5, 6] := k3
  have b3 := chg_below b2 c3 o2
  have o3 := o2.step d3 b2.size
  clear k3 c3 d3
  go_wp2_with fail
  refine (set_add _ _ _ _ _ _ h3 (by decide) (by decide)).mono ?_
  rintro e w4 ⟨rfl, fp4, k4, c4, d4⟩
  rw [show addOk 2 [5, 6] 5 = true from rfl]
  have h4 : SetAt 68 w4 fp4 g 2 [5, 6] := k4
  have b4 := chg_below b3 c4 o3
  have o4 := o3.step d4 b3.size
  clear k4 c4 d4
  go_wp2_with fail
  refine (set_add _ _ _ _ _ _ h4 (by decide) (by decide)).mono ?_
  rintro e w5 ⟨rfl, fp5, k5, c5, d5⟩
  rw [show addOk 2 [5, 6] 7 = false from rfl]
  have h5 : SetAt 68 w5 fp5 g 2 [5, 6] := k5
  have b5 := chg_below b4 c5 o4
  have o5 := o4.step d5 b4.size
  clear k5 c5 d5
  go_wp2_with fail
  refine (set_has _ _ _ _ _ _ h5 (by decide)).mono ?_
  rintro e w6 ⟨rfl, rfl⟩
  rw [show decide ((6 : Int) ∈ [5, 6]) = true from rfl]
  go_wp2_with fail
  refine (set_len _ _ _ _ _ h5).mono ?_
  rintro e w6 ⟨rfl, rfl⟩
  rw [show ((([5, 6] : List Int).length : Nat) : Int) = 2 from rfl]
  go_wp2_with fail
  refine (set_list _ _ _ _ _ h5 (by decide)).mono ?_
  rintro e w6 ⟨A, c, rfl, ho, c6⟩
  have b6 := chg_below b5 c6 (Own.nil _)
  go_wp2_with fail
  refine (ints_any _ _ _ _ _ _ _ _ _ [5, 6] [5, 6] (row_reads (ho.alloc _)) (Reads.lit _ _ _ _ rfl _ rfl) (by decide)).mono ?_
  rintro e w7 ⟨rfl, q, rfl⟩
  rw [show decide (([5, 6] : List Int) = [5, 6]) = true from rfl]
  go_wp2_with fail
  go_ret
  exact ⟨rfl, below_drewN (b6.alloc b6.size _) _⟩

/-! ### The set of 0, 1, .. -/
def rng (k : Nat) : List Int := (List.range k).map (fun i : Nat => (i : Int))
theorem rng_len (k : Nat) : (rng k).length = k := by simp [rng]
theorem rng_not (k : Nat) : (k : Int) ∉ rng k := by simp [rng]; intro x hx; omega
theorem rng_ok (cap k : Nat) : addOk cap (rng k) k = decide (k < cap) := by simp [addOk, rng_not, rng_len]
theorem rng_add (cap k : Nat) (h : k < cap) : addL cap (rng k) k = rng (k + 1) := by
  rw [addL_room (rng_not k) (by rw [rng_len]; exact h)]
  simp [rng, List.range_succ]

set_option maxHeartbeats 400000 in
theorem readsetLimits_walk (a0 : Int) (w : World) (w0 : (Lit.int .i64 a0).wf = true) :
    Calls Try.prog 5 #[.int .i64 a0] w fun e w' => e = .returned (.bool true) ∧ Below w.heap.size w w' := by
  obtain ⟨n, hn⟩ : ∃ n, n = clamp32 a0 := ⟨_, rfl⟩
  have hn32 : n ≤ 32 := by subst hn; unfold clamp32; omega
  have hcase : (32 < a0 ∧ n = 32) ∨ (¬ 32 < a0 ∧ 0 < a0 ∧ (n : Int) = a0) ∨ (¬ 32 < a0 ∧ ¬ 0 < a0 ∧ n = 0) := by subst hn; unfold clamp32; omega
  have Hn := hid hn
  have Hc := hid hcase
  clear hn hcase
  go_enter Try.func5, Try.ntmps5
  go_wp2_with fail
  refine (set_make _ _).mono ?_
  rintro e w1 ⟨g, rfl, k1, c1, hg⟩
  rw [← Hn.out] at k1
  have b1 := chg_below (Below.refl w.heap.size w) c1 (Own.nil _)
  go_wp2_with fail
  go_loopw [4] (fun i wr => ∃ (k : Nat) (fp : List Nat), k ≤ n ∧ i = .int .i64 k ∧ SetAt 68 wr fp g n (rng k) ∧ Own w.heap.size fp ∧ Below w.heap.size w wr) (fun i _ => n - (intOf i).toNat)
  case atStart => exact ⟨0, [g], Nat.zero_le _, rfl, k1, Own.one hg, b1⟩
  case round =>
    obtain ⟨k, fp, hk, rfl, hs, ho, hb⟩ := hrel
    have hl := rng_len k
    by_cases hlt : k < n
    · have e1 : addOk n (rng k) k = true := by rw [rng_ok]; simpa using hlt
      have e2 : addL n (rng k) k = rng (k + 1) := rng_add n k hlt
      have E1 := hid e1
      have E2 := hid e2
      have L := hid hl
      clear e1 e2 hl k1 b1 c1
      go_wp2_with fail
      refine (set_add _ _ _ _ _ _ hs (by rw [L.out]; omega) (by omega)).mono ?_
      rintro e w2 ⟨rfl, fp2, h2, c2, d2⟩
      rw [E1.out]
      rw [E2.out] at h2
      have b2 := chg_below hb c2 ho
      have o2 := ho.step d2 hb.size
      go_wp2_with fail
      go_roundw
      case rel => exact ⟨k + 1, fp2, by omega, by go_num, h2, o2, b2⟩
      case measure => simp [intOf]; omega
    · have e1 : addOk n (rng k) k = false := by rw [rng_ok]; simpa using hlt
      have E1 := hid e1
      have L := hid hl
      clear e1 hl k1 b1 c1
      rcases Hc.out with ⟨q1, q2⟩ | ⟨q1, q2, q3⟩ | ⟨q1, q2, q3⟩
      all_goals
        go_wp2_with fail
        refine (set_add _ _ _ _ _ _ hs (by rw [L.out]; omega) (by omega)).mono ?_
        rintro e w2 ⟨rfl, fp2, h2, c2, d2⟩
        rw [E1.out]
        have b2 := chg_below hb c2 ho
        have o2 := ho.step d2 hb.size
        clear h2
      · have e3 : ((k : Int) == 32) = true := by simp; omega
        go_wp2_with (go_at_call 15; refine (awake12 _).mono ?_; rintro e w3 ⟨rfl, b3⟩)
        go_ret
        exact ⟨rfl, b2.trans (b3.mono b2.size)⟩
      · have e3 : ((k : Int) == a0) = true := by simp; omega
        go_wp2_with (go_at_call 15; refine (awake12 _).mono ?_; rintro e w3 ⟨rfl, b3⟩)
        go_ret
        exact ⟨rfl, b2.trans (b3.mono b2.size)⟩
      · have e3 : ((k : Int) == 0) = true := by simp; omega
        go_wp2_with (go_at_call 15; refine (awake12 _).mono ?_; rintro e w3 ⟨rfl, b3⟩)
        go_ret
        exact ⟨rfl, b2.trans (b3.mono b2.size)⟩

set_option maxHeartbeats 800000 in
theorem readsetOnce_walk (a0 : Int) (a1 : Option Addr) (len1 cap1 : Nat) (z1 : List Int) (w : World) (w0 : (Lit.int .i64 a0).wf = true) (hz : IsRow .i64 w a1 len1 cap1 z1) :
    Calls Try.prog 4 #[.int .i64 a0, .slice a1 len1 cap1] w fun e w' => e = .returned (.bool true) ∧ Below w.heap.size w w' := by
  by_cases hl : len1 ≤ 60
  · have hd : decide (60 < (len1 : Int)) = false := by simp; omega
    have p0 := place_nonneg a0 32 (by omega)
    have p1 := place_lt a0 32 (by omega)
    obtain ⟨n, hn⟩ : ∃ n : Nat, (n : Int) = 1 + place a0 32 := ⟨(1 + place a0 32).toNat, by omega⟩
    have hn32 : n ≤ 32 := by omega
    have hcl : clamp32 (n : Int) = n := by unfold clamp32; omega
    have Hn := hid hn
    have Hcl := hid hcl
    obtain ⟨i0, hi, hz0, hz1, hz2⟩ := info_parts info_int
    clear hn hcl
    go_enter Try.func4, Try.ntmps4
    go_wp2_with (go_at_call 18; refine (place_any _ _ _ (by omega) (by omega)).mono ?_; rintro e w' ⟨rfl, rfl⟩)
    rw [← Hn.out]
    refine (set_make _ _).mono ?_
    rintro e w1 ⟨g, rfl, k1, c1, hg⟩
    rw [Hcl.out] at k1
    have b1 := chg_below (Below.refl w.heap.size w) c1 (Own.nil _)
    go_wp2_with fail
    clear hd
    go_loopw [7, 8] (fun v i wr => ∃ (k : Nat) (fp : List Nat) (xs : List Int) (A : Option Addr) (c : Nat), k ≤ len1 ∧ i = .int .i64 k ∧ v = .slice A xs.length c ∧ xs.length ≤ n ∧ SetAt 68 wr fp g n xs ∧
      wr.ownsRow 0 3 1 (.slice A xs.length c) xs.length (xs.map (Value.int .i64)) ∧ (∀ b ∈ fpV (.slice A xs.length c), b ∉ fp) ∧ Own w.heap.size (fpV (.slice A xs.length c)) ∧ Own w.heap.size fp ∧ Below w.heap.size w wr) (fun _ i _ => len1 - (intOf i).toNat)
    case atStart => exact ⟨0, [g], [], none, 0, Nat.zero_le _, rfl, rfl, Nat.zero_le _, k1, World.ownsRow_nil _ _ _ _, by simp [fpV_nil], Own.nil _, Own.one hg, b1⟩
    case round =>
      obtain ⟨k, fp, xs, A, c, hk, rfl, rfl, hxn, hs, hr, hdj, how, ho, hb⟩ := hrel
      have Hdj := hid hdj
      clear hdj k1 b1 c1 p0 p1
      have hR := row_reads hr
      by_cases hlt : k < len1
      · obtain ⟨x, rfl, hc⟩ := hz.at_ hb hlt
        obtain ⟨y, hy⟩ : ∃ y, y = z1.getD k 0 := ⟨_, rfl⟩
        rw [← hy] at hc
        clear hy
        obtain ⟨v, hv⟩ : ∃ v, v = place y 40 := ⟨_, rfl⟩
        have Hv := hid hv
        clear hv
        by_cases hm : v ∈ xs
        · have e1 : decide (v ∈ xs) = true := by simp [hm]
          have e2 : addOk n xs v = true := by simp [addOk, hm]
          have e3 : addL n xs v = xs := addL_mem hm
          have E1 := hid e1
          have E2 := hid e2
          have E3 := hid e3
          clear e1 e2 e3 hm
          go_wp2_with (first
            | (go_at_call 18; refine (place_any _ _ _ (by omega) (by omega)).mono ?_; rintro e w' ⟨rfl, rfl⟩; rw [← Hv.out])
            | (go_at_call 25; refine (in_any _ _ _ _ _ _ _ hR (by omega)).mono ?_; rintro e w' ⟨rfl, rfl⟩; rw [E1.out]))
          refine (set_add _ _ _ _ _ _ hs hxn (by omega)).mono ?_
          rintro e w2 ⟨rfl, fp2, h2, c2, d2⟩
          rw [E2.out]
          rw [E3.out] at h2
          have b2 := chg_below hb c2 ho
          have o2 := ho.step d2 hb.size
          have hr2 := row_chg hr c2 Hdj.out
          have hR2 := row_reads hr2
          have hdj2 : ∀ b ∈ fpV (.slice A xs.length c), b ∉ fp2 := fun b hb1 hb2 => by
            rcases d2 b hb2 with h | h
            · exact Hdj.out b hb1 h
            · have := row_lt hr b hb1; omega
          have Hdj2 := hid hdj2
          clear hdj2 hR c2 d2
          go_wp2_with (go_at_call 25; refine (in_any _ _ _ _ _ _ _ hR2 (by omega)).mono ?_; rintro e w' ⟨rfl, rfl⟩; rw [E1.out])
          go_roundw
          case rel => exact ⟨k + 1, fp2, xs, A, c, by omega, by go_num, rfl, hxn, h2, hr2, Hdj2.out, how, o2, b2⟩
          case measure => simp [intOf]; omega
        · have e1 : decide (v ∈ xs) = false := by simp [hm]
          by_cases hlt2 : xs.length < n
          · have e2 : addOk n xs v = true := by simp [addOk, hlt2]
            have e3 : addL n xs v = xs ++ [v] := addL_room hm hlt2
            have E1 := hid e1
            have E2 := hid e2
            have E3 := hid e3
            clear e1 e2 e3 hm
            go_wp2_with (first
              | (go_at_call 18; refine (place_any _ _ _ (by omega) (by omega)).mono ?_; rintro e w' ⟨rfl, rfl⟩; rw [← Hv.out])
              | (go_at_call 25; refine (in_any _ _ _ _ _ _ _ hR (by omega)).mono ?_; rintro e w' ⟨rfl, rfl⟩; rw [E1.out]))
            refine (set_add _ _ _ _ _ _ hs hxn (by omega)).mono ?_
            rintro e w2 ⟨rfl, fp2, h2, c2, d2⟩
            rw [E2.out]
            rw [E3.out] at h2
            have b2 := chg_below hb c2 ho
            have o2 := ho.step d2 hb.size
            have hr2 := row_chg hr c2 Hdj.out
            have hR2 := row_reads hr2
            have hdj2 : ∀ b ∈ fpV (.slice A xs.length c), b ∉ fp2 := fun b hb1 hb2 => by
              rcases d2 b hb2 with h | h
              · exact Hdj.out b hb1 h
              · have := row_lt hr b hb1; omega
            have Hdj2 := hid hdj2
            clear hdj2 hR c2 d2
            go_wp2_with (first
              | (go_at_call 25; refine (in_any _ _ _ _ _ _ _ hR2 (by omega)).mono ?_; rintro e w' ⟨rfl, rfl⟩; rw [E1.out])
              | (at_builtin; refine wpList_append1 rfl _ _ 22 rfl 3 i0 (.int .i64 0) 8 Try.underlying22 hi hz0 hz1 hz2 rfl (.slice A xs.length c) xs.length (xs.map (Value.int .i64)) (.int .i64 v) _ rfl hr2 rfl rfl (by omega) (by decide) ?_))
            intro A' c' w3 hown hC3 hfp3
            have b3 := chg_below b2 hC3 how
            have h3 := h2.chg hC3 (fun b hb1 hb2 => Hdj2.out b hb2 hb1)
            have hl1 : (xs ++ [v]).length = xs.length + 1 := by simp
            have ow3 := how.step hfp3 b2.size
            have hdj3 : ∀ b ∈ fpV (.slice A' (xs.length + 1) c'), b ∉ fp2 := fun b hb1 hb2 => by
              rcases hfp3 b hb1 with h | h
              · exact Hdj2.out b h hb2
              · have := h2.lt b hb2; omega
            have hrel2 : (xs ++ [v]).length ≤ n ∧ SetAt 68 w3 fp2 g n (xs ++ [v]) ∧
                w3.ownsRow 0 3 1 (.slice A' (xs ++ [v]).length c') (xs ++ [v]).length ((xs ++ [v]).map (Value.int .i64)) ∧ (∀ b ∈ fpV (.slice A' (xs ++ [v]).length c'), b ∉ fp2) ∧ Own w.heap.size (fpV (.slice A' (xs ++ [v]).length c')) := by
              rw [hl1, List.map_append]
              exact ⟨by omega, h3, hown, hdj3, ow3⟩
            have hval : Value.slice A' (xs.length + 1) c' = .slice A' (xs ++ [v]).length c' := by rw [hl1]
            have HR := hid hrel2
            have HV := hid hval
            clear hrel2 hval hl1 hdj3 h3 h2 hown hC3 hfp3 hr2 hR2 hr
            go_wp2_with fail
            go_roundw
            case rel => exact ⟨k + 1, fp2, xs ++ [v], A', c', by omega, by go_num, HV.out, HR.out.1, HR.out.2.1, HR.out.2.2.1, HR.out.2.2.2.1, HR.out.2.2.2.2, o2, b3⟩
            case measure => simp [intOf]; omega
          · have e2 : addOk n xs v = false := by simp [addOk, hlt2, hm]
            have e3 : addL n xs v = xs := addL_full hm hlt2
            have E1 := hid e1
            have E2 := hid e2
            have E3 := hid e3
            clear e1 e2 e3 hm
            have e4 : decide ((xs.length : Int) < n) = false := by simp; omega
            go_wp2_with (first
              | (go_at_call 18; refine (place_any _ _ _ (by omega) (by omega)).mono ?_; rintro e w' ⟨rfl, rfl⟩; rw [← Hv.out])
              | (go_at_call 25; refine (in_any _ _ _ _ _ _ _ hR (by omega)).mono ?_; rintro e w' ⟨rfl, rfl⟩; rw [E1.out]))
            refine (set_add _ _ _ _ _ _ hs hxn (by omega)).mono ?_
            rintro e w2 ⟨rfl, fp2, h2, c2, d2⟩
            rw [E2.out]
            rw [E3.out] at h2
            have b2 := chg_below hb c2 ho
            have o2 := ho.step d2 hb.size
            have hr2 := row_chg hr c2 Hdj.out
            have hdj2 : ∀ b ∈ fpV (.slice A xs.length c), b ∉ fp2 := fun b hb1 hb2 => by
              rcases d2 b hb2 with h | h
              · exact Hdj.out b hb1 h
              · have := row_lt hr b hb1; omega
            have Hdj2 := hid hdj2
            clear hdj2 hR c2 d2
            go_wp2_with fail
            go_roundw
            case rel => exact ⟨k + 1, fp2, xs, A, c, by omega, by go_num, rfl, hxn, h2, hr2, Hdj2.out, how, o2, b2⟩
            case measure => simp [intOf]; omega
      · go_wp2_with fail
        refine (set_list _ _ _ _ _ hs (by omega)).mono ?_
        rintro e w2 ⟨A2, c2, rfl, ho2, hc2⟩
        have b2 := chg_below hb hc2 (Own.nil _)
        have hs2 := hs.chg hc2 (fun b _ => by simp)
        have hr2 := row_chg hr hc2 (fun b _ => by simp)
        go_wp2_with fail
        refine (ints_any _ _ _ _ _ _ _ _ _ xs xs (row_reads ho2) (row_reads hr2) (by omega)).mono ?_
        rintro e w3 ⟨rfl, q, rfl⟩
        have e1 : decide (xs = xs) = true := by simp
        rw [e1]
        clear e1
        go_wp2_with (first
          | (go_at_call 21; refine (set_len _ _ _ _ _ (hs2.drewN q)).mono ?_; rintro e w' ⟨rfl, rfl⟩)
          | (go_at_call 15; refine (awake12 _).mono ?_; rintro e w3 ⟨rfl, b3⟩))
        go_ret
        exact ⟨rfl, (below_drewN b2 q).trans (b3.mono b2.size)⟩
  · have hd : decide (60 < (len1 : Int)) = true := by simp; omega
    go_enter Try.func4, Try.ntmps4
    go_wp2_with (go_at_call 15; refine (awake12 _).mono ?_; rintro e w' ⟨rfl, b1⟩)
    go_ret
    exact ⟨rfl, b1⟩

theorem SetAt.cell1 {T : TypeId} {w : World} {fp : List Nat} {g cap : Nat} {xs : List Int} (h : SetAt T w fp g cap xs) :
    ∃ A c, w.cell? ⟨g, 1, none⟩ = some (.slice A xs.length c) ∧ Reads w (A.elim 0 (·.block)) A xs.length (xs.map (Value.int .i64)) := by
  obtain ⟨A, c, hb, hr, _⟩ := h.ex
  exact ⟨A, c, hb.some_ rfl, row_reads hr⟩

set_option maxHeartbeats 1600000 in
theorem readsetFollows_walk (a0 : Int) (a1 : Option Addr) (len1 cap1 : Nat) (z1 : List Int) (a2 : Bool) (w : World) (w0 : (Lit.int .i64 a0).wf = true) (hz : IsRow .i64 w a1 len1 cap1 z1) :
    Calls Try.prog 3 #[.int .i64 a0, .slice a1 len1 cap1, .bool a2] w fun e w' => e = .returned (.bool true) ∧ Below w.heap.size w w' := by
  by_cases hl : len1 ≤ 60
  · have hd : decide (60 < (len1 : Int)) = false := by simp; omega
    obtain ⟨n, hn⟩ : ∃ n, n = clamp32 a0 := ⟨_, rfl⟩
    have hn32 : n ≤ 32 := by subst hn; unfold clamp32; omega
    have Hn := hid hn
    clear hn
    go_enter Try.func3, Try.ntmps3
    go_wp2_with fail
    refine (set_make _ _).mono ?_
    rintro e w1 ⟨g, rfl, k1, c1, hg⟩
    rw [← Hn.out] at k1
    have b1 := chg_below (Below.refl w.heap.size w) c1 (Own.nil _)
    go_wp2_with fail
    refine (rset_make _ _).mono ?_
    rintro e w2 ⟨g', rfl, k2, c2, hg'⟩
    rw [← Hn.out] at k2
    have b2 := chg_below b1 c2 (Own.nil _)
    have k1' := k1.chg c2 (fun b _ => by simp)
    have hgg : g < w1.heap.size := k1.lt g (by simp)
    clear k1 c1 c2
    go_wp2_with fail
    clear hd
    go_loopw [9] (fun i wr => ∃ (k : Nat) (fp fq : List Nat) (xs : List Int), k ≤ len1 ∧ i = .int .i64 k ∧ xs.length ≤ n ∧ SetAt 68 wr fp g n xs ∧ SetAt 32 wr fq g' n xs ∧
      (∀ b ∈ fq, b ∉ fp) ∧ Own w.heap.size fq ∧ Own w.heap.size fp ∧ Below w.heap.size w wr) (fun i _ => len1 - (intOf i).toNat)
    case atStart => exact ⟨0, [g], [g'], [], Nat.zero_le _, rfl, Nat.zero_le _, k1', k2, by simp; omega, Own.one (by have := b1.size; omega), Own.one hg, b2⟩
    case round =>
      obtain ⟨k, fp, fq, xs, hk, rfl, hxn, hs, hr, hdj, hoq, ho, hb⟩ := hrel
      have Hdj := hid hdj
      clear hdj k1' k2 b1 b2
      by_cases hlt : k < len1
      · obtain ⟨x, rfl, hc⟩ := hz.at_ hb hlt
        obtain ⟨y, hy⟩ : ∃ y, y = z1.getD k 0 := ⟨_, rfl⟩
        rw [← hy] at hc
        clear hy
        obtain ⟨v, hv⟩ : ∃ v, v = if a2 then place y 12 else y := ⟨_, rfl⟩
        have hv1 : a2 = true → place y 12 = v := fun h => by simp [hv, h]
        have hv2 : a2 = false → y = v := fun h => by simp [hv, h]
        have Hv1 := hid hv1
        have Hv2 := hid hv2
        clear hv hv1 hv2
        obtain ⟨ys, hys⟩ : ∃ ys, ys = addL n xs v := ⟨_, rfl⟩
        have hyn : ys.length ≤ n := by rw [hys]; exact addL_le n xs v hxn
        have Hys := hid hys
        clear hys
        have P : ∀ (i : Nat), True := fun _ => trivial
        cases a2
        case' false =>
          obtain rfl := Hv2.out rfl
          go_wp2_with fail
        case' true =>
          clear Hv2
          go_wp2_with (go_at_call 18; refine (place_any _ _ _ (by omega) (by omega)).mono ?_; rintro e w' ⟨rfl, rfl⟩; rw [Hv1.out rfl])
        all_goals
          refine wp_region_phases (by kernel_rfl) ?_
          refine' wpAnyH_bulk [true, true, false, true, true] 88 (listed' := #[true, true, false, true, true, false, false, false, false, false, false, false, false, false, false, false, false, false, false, false, false, false, false, false, false, false, false, false, false, false, false, false, false, false, false, false, false, false, false, false, false, false, false, false, false, false, false, false, false, false, false, false, false]) rfl (by kernel_rfl) (by kernel_rfl) (by kernel_rfl) (by kernel_rfl) (by decide) (fun _ _ _ _ h => h) rfl trivial (fun wq hq => ?_) ?_; rotate_left 1
          · simp only [maskL]
            repeat (go_big_quiet_step (fail))
            exact wpQuiet_nil rfl
          refine wpAnyH_bar [false, false, true] (fuel := 48) (by rfl) (by rfl) (by kernel_rfl) (fun QB hQB hQX => ?_)
          simp only [maskL]
          go_wp2_with fail
          refine (set_add _ _ _ _ _ _ (hs.drewN 1) hxn (by omega)).mono ?_
          rintro e w2 ⟨rfl, fp2, h2, c2, d2⟩
          rw [← Hys.out] at h2
          have hr2 := hr.chg (c2.of_drewN (n := 1)) Hdj.out
          have b2 := chg_below hb (c2.of_drewN (n := 1)) ho
          have o2 := ho.step d2 hb.size
          have hdj2 : ∀ b ∈ fq, b ∉ fp2 := fun b hb1 hb2 => by
            rcases d2 b hb2 with h | h
            · exact Hdj.out b hb1 h
            · have := hr.lt b hb1; simp at h; omega
          have Hdj2 := hid hdj2
          clear hdj2
          go_wp2_with fail
          refine hQB.out _ _ trivial ?_
          clear hQB hQX QB
          refine wpAnyH_bar [false, false, false, false, false, true] (fuel := 47) (by rfl) (by rfl) (by kernel_rfl) (fun QB hQB hQX => ?_)
          simp only [maskL]
          go_wp2_with fail
          refine (rset_add _ _ _ _ _ _ hr2 hxn (by omega)).mono ?_
          rintro e w3 ⟨rfl, fq3, h3, c3, d3⟩
          rw [← Hys.out] at h3
          have h2' := h2.chg c3 (fun b hb1 hb2 => Hdj2.out b hb2 hb1)
          have b3 := chg_below b2 c3 hoq
          have o3 := hoq.step d3 b2.size
          have hdj3 : ∀ b ∈ fq3, b ∉ fp2 := fun b hb1 hb2 => by
            rcases d3 b hb1 with h | h
            · exact Hdj2.out b h hb2
            · have := h2.lt b hb2; omega
          have Hdj3 := hid hdj3
          obtain ⟨B, d, hcell, hR⟩ := h3.cell1
          clear hdj3
          go_wp2_with fail
          refine hQB.out _ _ trivial ?_
          clear hQB hQX QB
          refine wpAnyH_now (fun w' => SetAt 68 w' fp2 g n ys ∧ SetAt 32 w' fq3 g' n ys ∧ w'.cell? ⟨g', 1, none⟩ = some (.slice B ys.length d) ∧ Reads w' (B.elim 0 (·.block)) B ys.length (ys.map (Value.int .i64)) ∧ Below w.heap.size w w') (fun _ _ => trivial) ?_
          have hS : SetAt 68 w3 fp2 g n ys ∧ SetAt 32 w3 fq3 g' n ys ∧ w3.cell? ⟨g', 1, none⟩ = some (.slice B ys.length d) ∧ Reads w3 (B.elim 0 (·.block)) B ys.length (ys.map (Value.int .i64)) ∧ Below w.heap.size w w3 := ⟨h2', h3, hcell, hR, b3⟩
          have keepS : ∀ (W W' : World), Chg [] W W' → (SetAt 68 W fp2 g n ys ∧ SetAt 32 W fq3 g' n ys ∧ W.cell? ⟨g', 1, none⟩ = some (.slice B ys.length d) ∧ Reads W (B.elim 0 (·.block)) B ys.length (ys.map (Value.int .i64)) ∧ Below w.heap.size w W) → (SetAt 68 W' fp2 g n ys ∧ SetAt 32 W' fq3 g' n ys ∧ W'.cell? ⟨g', 1, none⟩ = some (.slice B ys.length d) ∧ Reads W' (B.elim 0 (·.block)) B ys.length (ys.map (Value.int .i64)) ∧ Below w.heap.size w W') := fun W W' hc h =>
            ⟨h.1.chg hc (fun b _ => by simp), h.2.1.chg hc (fun b _ => by simp), (hc.cell (p := ⟨g', 1, none⟩) (World.block_lt_of_cell? W _ h.2.2.1) (by simp)).trans h.2.2.1, h.2.2.2.1.chg hc (by simp), chg_below h.2.2.2.2 hc (Own.nil _)⟩
          refine' wpAnyH_bulk [false, false, false, false, false, false, true, true, true, true, true, true, true, true, true, true, true, true, true, false, true, true, true, true] 88 (listed' := #[true, true, true, true, true, true, true, true, true, true, true, true, true, true, true, true, true, true, true, false, true, true, true, true, false, false, false, false, false, false, false, false, false, false, false, false, false, false, false, false, false, false, false, false, false, false, false, false, false, false, false, false, false]) rfl (by kernel_rfl) (by kernel_rfl) (by kernel_rfl) (by kernel_rfl) (by decide) (fun _ _ _ _ h => h) rfl hS (fun wq hq => ?_) ?_; rotate_left 1
          · simp only [maskL]
            have hc := hq.2.2.1
            repeat (first | go_big_quiet_step (fail) | (go_big_quiet_want; go_big_quiet_op; apply Exists.intro; refine ⟨?_, ?_⟩; (first | (go_at_call 21; exact (set_len _ _ _ _ _ hq.1).mono fun e w' h => ⟨h.1, h.2.symm⟩) | (go_at_call 24; exact (set_has _ _ _ _ _ _ hq.1 (by omega)).mono fun e w' h => ⟨h.1, h.2.symm⟩) | (go_at_call 25; exact (in_any _ _ _ _ _ _ _ hq.2.2.2.1 (by omega)).mono fun e w' h => ⟨h.1, h.2.symm⟩)); go_big_quiet_on))
            exact wpQuiet_nil rfl
          refine wpAnyH_bar [false, false, false, false, false, false, false, false, false, false, false, false, false, false, false, false, false, false, false, true] (fuel := 29) (by rfl) (by rfl) (by kernel_rfl) (fun QB hQB hQX => ?_)
          simp only [maskL]
          go_wp2_with fail
          refine (set_list _ _ _ _ _ hS.1 (by omega)).mono ?_
          rintro e w4 ⟨A4, c4, rfl, ho4, hc4⟩
          have hS4 := keepS _ _ hc4 hS
          go_wp2_with fail
          refine hQB.out _ _ hS4 ?_
          clear hQB hQX QB
          refine wpAnyH_bar [false, false, false, false, false, false, false, false, false, false, false, false, false, false, false, false, false, false, false, false, false, false, false, false, true] (fuel := 28) (by rfl) (by rfl) (by kernel_rfl) (fun QB hQB hQX => ?_)
          simp only [maskL]
          go_wp2_with fail
          refine (ints_any _ _ _ _ _ _ _ _ _ ys ys (row_reads ho4) hS4.2.2.2.1 (by omega)).mono ?_
          rintro e w5 ⟨rfl, q, rfl⟩
          rw [show decide (ys = ys) = true from by simp]
          have hS5 := keepS _ _ ((Chg.refl [] w4).drewN q) hS4
          go_wp2_with fail
          refine hQB.out _ _ hS5 ?_
          clear hQB hQX QB
          refine' wpAnyH_bulk [false, false, false, false, false, false, false, false, false, false, false, false, false, false, false, false, false, false, false, false, false, false, false, false, false, true, true, true, true, true, true, true, true, true, true, true, true, true, true, true, true, true, true, true, true, true, true, true, true, true, true, true, true] 88 (listed' := #[true, true, true, true, true, true, true, true, true, true, true, true, true, true, true, true, true, true, true, true, true, true, true, true, true, true, true, true, true, true, true, true, true, true, true, true, true, true, true, true, true, true, true, true, true, true, true, true, true, true, true, true, true]) rfl (by kernel_rfl) (by kernel_rfl) (by kernel_rfl) (by kernel_rfl) (by decide) (fun _ _ _ _ h => h) rfl hS5 (fun wq hq => ?_) ?_; rotate_left 1
          · simp only [maskL]
            have hc := hq.2.2.1
            repeat (first | go_big_quiet_step (fail) | (go_big_quiet_want; go_big_quiet_op; apply Exists.intro; refine ⟨?_, ?_⟩; (first | (go_at_call 21; exact (set_len _ _ _ _ _ hq.1).mono fun e w' h => ⟨h.1, h.2.symm⟩) | (go_at_call 24; exact (set_has _ _ _ _ _ _ hq.1 (by omega)).mono fun e w' h => ⟨h.1, h.2.symm⟩) | (go_at_call 25; exact (in_any _ _ _ _ _ _ _ hq.2.2.2.1 (by omega)).mono fun e w' h => ⟨h.1, h.2.symm⟩)); go_big_quiet_on))
            exact wpQuiet_nil rfl
          refine wpAnyH_done (by kernel_rfl) ?_ _
          go_wp2_with fail
          go_roundw
          case rel => exact ⟨k + 1, fp2, fq3, ys, by omega, by go_num, hyn, hS5.1, hS5.2.1, Hdj3.out, o3, o2, hS5.2.2.2.2⟩
          case measure => simp [intOf]; omega
      · go_wp2_with (go_at_call 15; refine (awake12 _).mono ?_; rintro e w3 ⟨rfl, b3⟩)
        go_ret
        exact ⟨rfl, hb.trans (b3.mono hb.size)⟩
  · have hd : decide (60 < (len1 : Int)) = true := by simp; omega
    go_enter Try.func3, Try.ntmps3
    go_wp2_with (go_at_call 15; refine (awake12 _).mono ?_; rintro e w' ⟨rfl, b1⟩)
    go_ret
    exact ⟨rfl, b1⟩
end Go.Proofs.Ytponapjgajmdnaa
