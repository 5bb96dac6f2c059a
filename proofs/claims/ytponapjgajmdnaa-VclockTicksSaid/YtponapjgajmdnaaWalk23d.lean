/- The walks of VclockOrders, VclockTicks. -/
import Derived.Test.YtponapjgajmdnaaWalk23c
namespace Go.Proofs.Ytponapjgajmdnaa
open Go.RowKit
set_option linter.unusedVariables false

def eqB (a b : List Int) : Nat → Bool
  | 0 => true
  | k + 1 => eqB a b k && (vget a k == vget b k)
theorem eqB_iff (a b : List Int) (k : Nat) : eqB a b k = true ↔ ∀ i, i < k → vget a i = vget b i := by
  induction k with
  | zero => simp [eqB]
  | succ k ih =>
    simp only [eqB, Bool.and_eq_true, ih, beq_iff_eq]
    exact ⟨fun h i hi => by
      rcases Nat.lt_or_ge i k with h1 | h1
      · exact h.1 i h1
      · obtain rfl : i = k := by omega
        exact h.2, fun h => ⟨fun i hi => h i (by omega), h k (by omega)⟩⟩
theorem eqB_all {a b : List Int} (ha : a.length ≤ 8) (hb : b.length ≤ 8) : eqB a b 8 = (vleq a b && vleq b a) := by
  rw [Bool.eq_iff_iff, eqB_iff, Bool.and_eq_true, vleq_iff, vleq_iff]
  constructor
  · intro h
    have h' : ∀ i, vget a i = vget b i := fun i => by
      by_cases hi : i < 8
      · exact h i hi
      · rw [vget_out (by omega), vget_out (by omega)]
    exact ⟨fun i => by rw [h' i]; exact Int.le_refl _, fun i => by rw [h' i]; exact Int.le_refl _⟩
  · intro h i _
    exact Int.le_antisymm (h.1 i) (h.2 i)

set_option maxHeartbeats 3200000 in
theorem vclockOrders_walk (a0 : Option Addr) (len0 cap0 : Nat) (z0 : List Int) (a1 : Option Addr) (len1 cap1 : Nat) (z1 : List Int) (a2 : Option Addr) (len2 cap2 : Nat) (z2 : List Int) (w : World) (h0 : IsRow .i64 w a0 len0 cap0 z0) (h1 : IsRow .i64 w a1 len1 cap1 z1) (h2 : IsRow .i64 w a2 len2 cap2 z2) :
    Calls Try.prog 8 #[.slice a0 len0 cap0, .slice a1 len1 cap1, .slice a2 len2 cap2] w fun e w' => e = .returned (.bool true) ∧ Below w.heap.size w w' := by
  have l0 := h0.le
  have l1 := h1.le
  have l2 := h2.le
  unfold maxLen at l0 l1 l2
  have r0 := h0.ri
  have r1 := h1.ri
  have r2 := h2.ri
  obtain ⟨a, ha⟩ : ∃ a, a = red (z0.take len0) := ⟨_, rfl⟩
  obtain ⟨b, hb⟩ : ∃ b, b = red (z1.take len1) := ⟨_, rfl⟩
  obtain ⟨c, hc⟩ : ∃ c, c = red (z2.take len2) := ⟨_, rfl⟩
  have la : a.length ≤ 8 := by rw [ha]; exact red_len _
  have lb : b.length ≤ 8 := by rw [hb]; exact red_len _
  have lc : c.length ≤ 8 := by rw [hc]; exact red_len _
  have g0 := vcmp_self a
  have g1 : vcmp a b = if vleq a b then (if vleq b a then 0 else -1) else if vleq b a then 1 else 2 := rfl
  have g2 : vcmp b a = if vleq b a then (if vleq a b then 0 else -1) else if vleq a b then 1 else 2 := rfl
  have g3 := eqB_all la lb
  have g4 : vleq a b = true → vleq b c = true → vleq a c = true := fun x y => (vleq_iff _ _).2 fun i => by
    have := (vleq_iff _ _).1 x i
    have := (vleq_iff _ _).1 y i
    omega
  have Ha := hid ha
  have Hb := hid hb
  have Hc := hid hc
  have G0 := hid g0
  clear ha hb hc g0 h0 h1 h2
  cases q1 : vleq a b <;> cases q2 : vleq b a
  all_goals
    rw [q1, q2] at g1 g2 g3
    simp only [if_true, if_false, Bool.false_eq_true, Bool.and_true, Bool.and_false] at g1 g2 g3
    have G1 := hid g1
    have G2 := hid g2
    have G3 := hid g3
    have G4 := hid g4
    have Q1 := hid q1
    clear g1 g2 g3 g4 q1 q2
    go_enter Try.func8, Try.ntmps8
    go_wp2_with fail
    refine (reduce_any _ _ _ _ _ r0 (by omega)).mono ?_
    rintro e w1 ⟨A1, c1, rfl, ra, k1⟩
    rw [← Ha.out] at ra
    rw [← Ha.out]
    have r1 := r1.chg k1
    have r2 := r2.chg k1
    have b1 := chg_below (Below.refl w.heap.size w) k1 (Own.nil _)
    clear k1
    go_wp2_with fail
    refine (reduce_any _ _ _ _ _ r1 (by omega)).mono ?_
    rintro e w2 ⟨A2, c2, rfl, rb, k2⟩
    rw [← Hb.out] at rb
    rw [← Hb.out]
    have ra := ra.chg k2
    have r2 := r2.chg k2
    have b2 := chg_below b1 k2 (Own.nil _)
    clear k2 b1
    go_wp2_with fail
    refine (reduce_any _ _ _ _ _ r2 (by omega)).mono ?_
    rintro e w3 ⟨A3, c3, rfl, rc, k3⟩
    rw [← Hc.out] at rc
    rw [← Hc.out]
    have ra := ra.chg k3
    have rb := rb.chg k3
    have b3 := chg_below b2 k3 (Own.nil _)
    clear k3 b2
    go_wp2_with fail
    refine (cmp_any _ _ _ _ _ _ _ _ _ ra rb (by omega) (by omega)).mono ?_
    rintro e w' ⟨rfl, rfl⟩
    rw [G1.out]
    go_wp2_with fail
    refine (cmp_any _ _ _ _ _ _ _ _ _ rb ra (by omega) (by omega)).mono ?_
    rintro e w' ⟨rfl, rfl⟩
    rw [G2.out]
    go_wp2_with fail
    refine (cmp_any _ _ _ _ _ _ _ _ _ ra ra (by omega) (by omega)).mono ?_
    rintro e w' ⟨rfl, rfl⟩
    rw [G0.out]
    go_wp2_with fail
    go_loop [12, 13] (fun e i => ∃ k : Nat, k ≤ 8 ∧ i = .int .i64 k ∧ e = .bool (eqB a b k)) (fun _ i => 8 - (intOf i).toNat)
    case atStart => exact ⟨0, Nat.zero_le _, rfl, rfl⟩
    case round =>
      obtain ⟨k, hk, rfl, rfl⟩ := hrel
      by_cases hlt : k < 8
      · have hs : eqB a b (k + 1) = (eqB a b k && (vget a k == vget b k)) := rfl
        have Hs := hid hs
        clear hs
        cases q : eqB a b k
        · have hf : eqB a b (k + 1) = false := by rw [Hs.out, q]; rfl
          have Hf := hid hf
          clear hf q
          go_wp2_with fail
          go_round
          case rel => exact ⟨k + 1, by omega, by go_num, by rw [Hf.out]⟩
          case measure => simp [intOf]; omega
        · have hf : eqB a b (k + 1) = (vget a k == vget b k) := by rw [Hs.out, q]; rfl
          have Hf := hid hf
          clear hf q
          go_wp2_with fail
          refine (get_in _ _ _ _ _ k ra (by omega)).mono ?_
          rintro e w' ⟨rfl, rfl⟩
          go_wp2_with fail
          refine (get_in _ _ _ _ _ k rb (by omega)).mono ?_
          rintro e w' ⟨rfl, rfl⟩
          go_wp2_with fail
          go_round
          case rel => exact ⟨k + 1, by omega, by go_num, by rw [Hf.out]⟩
          case measure => simp [intOf]; omega
      · obtain rfl : k = 8 := by omega
        rw [G3.out]
        first
          | (have q1 : vleq a b = false := Q1.out
             clear G4
             have Q1' := hid q1
             clear q1 Q1
             go_wp2_with fail
             refine (leq_any _ _ _ _ _ _ _ _ _ ra rb (by omega) (by omega)).mono ?_
             rintro e w' ⟨rfl, rfl⟩
             rw [Q1'.out]
             go_wp2_with fail
             refine (leq_any _ _ _ _ _ _ _ _ _ ra rb (by omega) (by omega)).mono ?_
             rintro e w' ⟨rfl, rfl⟩
             rw [Q1'.out]
             go_wp2_with fail
             refine (awake23 _).mono ?_
             rintro e w' ⟨rfl, bx⟩
             go_wp2_with fail
             go_ret
             exact ⟨rfl, b3.trans (bx.mono b3.size)⟩)
          | (have q1 : vleq a b = true := Q1.out
             have g4 := G4.out q1
             have Q1' := hid q1
             have G4' := hid g4
             clear q1 Q1 g4 G4
             go_wp2_with fail
             refine (leq_any _ _ _ _ _ _ _ _ _ ra rb (by omega) (by omega)).mono ?_
             rintro e w' ⟨rfl, rfl⟩
             rw [Q1'.out]
             cases q3 : vleq b c
             · have Q3 := hid q3
               clear q3
               go_wp2_with fail
               refine (leq_any _ _ _ _ _ _ _ _ _ rb rc (by omega) (by omega)).mono ?_
               rintro e w' ⟨rfl, rfl⟩
               rw [Q3.out]
               go_wp2_with fail
               refine (leq_any _ _ _ _ _ _ _ _ _ ra rb (by omega) (by omega)).mono ?_
               rintro e w' ⟨rfl, rfl⟩
               rw [Q1'.out]
               go_wp2_with fail
               refine (awake23 _).mono ?_
               rintro e w' ⟨rfl, bx⟩
               go_wp2_with fail
               go_ret
               exact ⟨rfl, b3.trans (bx.mono b3.size)⟩
             · have q4 := G4'.out q3
               have Q3 := hid q3
               have Q4 := hid q4
               clear q3 q4
               go_wp2_with fail
               refine (leq_any _ _ _ _ _ _ _ _ _ rb rc (by omega) (by omega)).mono ?_
               rintro e w' ⟨rfl, rfl⟩
               rw [Q3.out]
               go_wp2_with fail
               refine (leq_any _ _ _ _ _ _ _ _ _ ra rc (by omega) (by omega)).mono ?_
               rintro e w' ⟨rfl, rfl⟩
               rw [Q4.out]
               go_wp2_with fail
               refine (leq_any _ _ _ _ _ _ _ _ _ ra rb (by omega) (by omega)).mono ?_
               rintro e w' ⟨rfl, rfl⟩
               rw [Q1'.out]
               go_wp2_with fail
               refine (awake23 _).mono ?_
               rintro e w' ⟨rfl, bx⟩
               go_wp2_with fail
               go_ret
               exact ⟨rfl, b3.trans (bx.mono b3.size)⟩)

theorem vcmp_tick (xs : List Int) (t : Nat) : vcmp xs (vtick xs t) = -1 := by
  have h1 : vleq xs (vtick xs t) = true := (vleq_iff _ _).2 fun i => by rw [vget_tick]; split <;> (try subst_vars) <;> omega
  have h2 : vleq (vtick xs t) xs = false := by
    rw [Bool.eq_false_iff]
    intro h
    have := (vleq_iff _ _).1 h t
    rw [vget_tick, if_pos rfl] at this
    omega
  unfold vcmp
  rw [h1, h2]
  rfl

set_option maxHeartbeats 1600000 in
theorem vclockTicks_walk (a0 : Option Addr) (len0 cap0 : Nat) (z0 : List Int) (a1 : Int) (w : World) (h0 : IsRow .i64 w a0 len0 cap0 z0) (w1 : (Lit.int .i64 a1).wf = true) :
    Calls Try.prog 9 #[.slice a0 len0 cap0, .int .i64 a1] w fun e w' => e = .returned (.bool true) ∧ Below w.heap.size w w' := by
  clear w1
  have l0 := h0.le
  unfold maxLen at l0
  have r0 := h0.ri
  have p0 := place_nonneg a1 16 (by omega)
  have p1 := place_lt a1 16 (by omega)
  obtain ⟨t, ht⟩ : ∃ t : Nat, (t : Int) = place a1 16 := ⟨(place a1 16).toNat, by omega⟩
  have ht16 : t < 16 := by omega
  obtain ⟨a, ha⟩ : ∃ a, a = red (z0.take len0) := ⟨_, rfl⟩
  have la : a.length ≤ 8 := by rw [ha]; exact red_len _
  have na : 0 ≤ vget a t ∧ vget a t < 4 := by rw [ha]; exact red_nonneg _ t
  have Ht := hid ht
  have Ha := hid ha
  have G1 := hid (vcmp_tick a t)
  have G2 : Hid (vget (vtick a t) t = vget a t + 1) := hid (by rw [vget_tick, if_pos rfl])
  have G3 : Hid (∀ i, i ≠ t → vget (vtick a t) i = vget a i) := hid (fun i hi => by rw [vget_tick, if_neg hi])
  clear ht ha h0 p0 p1
  obtain ⟨x, hx⟩ : ∃ x, x = vget a t := ⟨_, rfl⟩
  rw [← hx] at na
  have Hx := hid hx
  clear hx
  go_enter Try.func9, Try.ntmps9
  go_wp2_with fail
  refine (reduce_any _ _ _ _ _ r0 (by omega)).mono ?_
  rintro e w1 ⟨A1, c1, rfl, ra, k1⟩
  rw [← Ha.out] at ra
  rw [← Ha.out]
  have b1 := chg_below (Below.refl w.heap.size w) k1 (Own.nil _)
  clear k1
  go_wp2_with (go_at_call 18; refine (place_any _ _ _ (by omega) (by omega)).mono ?_; rintro e w' ⟨rfl, rfl⟩; rw [← Ht.out])
  refine (tick_yes _ _ _ _ t _ ra (by omega) ht16 (by rw [← Hx.out]; omega) (by rw [← Hx.out]; omega)).mono ?_
  rintro e w2 ⟨A2, c2, rfl, rb, k2⟩
  have ra := ra.chg k2
  have b2 := chg_below b1 k2 (Own.nil _)
  have hm : max a.length (t + 1) ≤ 16 := by omega
  generalize max a.length (t + 1) = m at rb hm
  clear k2 b1
  go_wp2_with fail
  refine (cmp_any _ _ _ _ _ _ _ _ _ ra rb (by omega) (by omega)).mono ?_
  rintro e w' ⟨rfl, rfl⟩
  rw [G1.out]
  go_wp2_with fail
  refine (get_in _ _ _ _ _ t rb (by omega)).mono ?_
  rintro e w' ⟨rfl, rfl⟩
  rw [G2.out, ← Hx.out]
  go_wp2_with fail
  refine (get_in _ _ _ _ _ t ra (by omega)).mono ?_
  rintro e w' ⟨rfl, rfl⟩
  rw [← Hx.out]
  go_wp2_with fail
  go_loop [9] (fun i => ∃ k : Nat, k ≤ 20 ∧ i = .int .i64 k) (fun i => 20 - (intOf i).toNat)
  case atStart => exact ⟨0, Nat.zero_le _, rfl⟩
  case round =>
    obtain ⟨k, hk, rfl⟩ := hrel
    by_cases hlt : k < 20
    · by_cases hkt : k = t
      · subst hkt
        have e1 : ((k : Int) != k) = false := by simp
        go_wp2_with fail
        go_round
        case rel => exact ⟨k + 1, by omega, by go_num⟩
        case measure => simp [intOf]; omega
      · have e1 : (k != t) = true := by simpa using hkt
        have e2 := G3.out k hkt
        have E2 := hid e2
        clear e2
        go_wp2_with fail
        refine (get_in _ _ _ _ _ k rb (by omega)).mono ?_
        rintro e w' ⟨rfl, rfl⟩
        rw [E2.out]
        go_wp2_with fail
        refine (get_in _ _ _ _ _ k ra (by omega)).mono ?_
        rintro e w' ⟨rfl, rfl⟩
        go_wp2_with fail
        go_round
        case rel => exact ⟨k + 1, by omega, by go_num⟩
        case measure => simp [intOf]; omega
    · go_wp2_with fail
      refine (awake23 _).mono ?_
      rintro e w' ⟨rfl, bx⟩
      go_wp2_with fail
      go_ret
      exact ⟨rfl, b2.trans (bx.mono b2.size)⟩
end Go.Proofs.Ytponapjgajmdnaa
