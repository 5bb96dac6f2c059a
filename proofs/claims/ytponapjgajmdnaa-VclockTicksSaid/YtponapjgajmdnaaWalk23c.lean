/- The walks of VclockJoins, VclockOrders, VclockTicks. -/
import Derived.Test.YtponapjgajmdnaaWalk23b
namespace Go.Proofs.Ytponapjgajmdnaa
open Go.RowKit
set_option linter.unusedVariables false

theorem IsRow.ri {w : World} {a : Option Addr} {len cap : Nat} {zs : List Int} (h : IsRow .i64 w a len cap zs) : RI w a len (zs.take len) := ⟨_, h.reads⟩
theorem vjoin_red_nonneg (p q : List Int) (i : Nat) : 0 ≤ vget (vjoin (red p) (red q)) i := vjoin_nonneg (fun i => (red_nonneg p i).1) i
theorem vjoin_le8 (a b : List Int) (ha : a.length ≤ 8) (hb : b.length ≤ 8) : (vjoin a b).length ≤ 8 := by rw [vjoin_len]; omega

set_option maxHeartbeats 1600000 in
theorem vclockJoins_walk (a0 : Option Addr) (len0 cap0 : Nat) (z0 : List Int) (a1 : Option Addr) (len1 cap1 : Nat) (z1 : List Int) (a2 : Option Addr) (len2 cap2 : Nat) (z2 : List Int) (w : World) (h0 : IsRow .i64 w a0 len0 cap0 z0) (h1 : IsRow .i64 w a1 len1 cap1 z1) (h2 : IsRow .i64 w a2 len2 cap2 z2) :
    Calls Try.prog 7 #[.slice a0 len0 cap0, .slice a1 len1 cap1, .slice a2 len2 cap2] w fun e w' => e = .returned (.bool true) ∧ Below w.heap.size w w' := by
  have l0 := h0.le
  have l1 := h1.le
  have l2 := h2.le
  unfold maxLen at l0 l1 l2
  have r0 := h0.ri
  have r1 := h1.ri
  have r2 := h2.ri
  obtain ⟨a, ha⟩ : ∃ a, a = red (z0.take len0) := ⟨_, rfl⟩
  obtain ⟨b, hb⟩ : ∃ b, b = red (z1.take len1) := ⟨_, rfl⟩
  obtain ⟨c, hc⟩ : ∃ c, c = red (z2.take len2) := ⟨_, rfl⟩
  have na : ∀ i, 0 ≤ vget a i := fun i => by rw [ha]; exact (red_nonneg _ i).1
  have nb : ∀ i, 0 ≤ vget b i := fun i => by rw [hb]; exact (red_nonneg _ i).1
  have nc : ∀ i, 0 ≤ vget c i := fun i => by rw [hc]; exact (red_nonneg _ i).1
  have la : a.length ≤ 8 := by rw [ha]; exact red_len _
  have lb : b.length ≤ 8 := by rw [hb]; exact red_len _
  have lc : c.length ≤ 8 := by rw [hc]; exact red_len _
  have f1 : vleq a (vjoin a b) = true := (vleq_iff _ _).2 fun i => by rw [vget_join _ _ na]; omega
  have f2 : vleq b (vjoin a b) = true := (vleq_iff _ _).2 fun i => by rw [vget_join _ _ na]; omega
  have f3 : vleq a c = true → vleq b c = true → vleq (vjoin a b) c = true := fun x y => (vleq_iff _ _).2 fun i => by
    rw [vget_join _ _ na]
    have := (vleq_iff _ _).1 x i
    have := (vleq_iff _ _).1 y i
    omega
  have g1 : vcmp (vjoin a b) (vjoin b a) = 0 := vcmp_zero_iff.2 fun i => by rw [vget_join _ _ na, vget_join _ _ nb]; omega
  have g2 : vcmp (vjoin (vjoin a b) c) (vjoin a (vjoin b c)) = 0 := vcmp_zero_iff.2 fun i => by
    rw [vget_join _ _ (vjoin_nonneg na), vget_join _ _ na, vget_join _ _ na, vget_join _ _ nb]; omega
  have g3 : vcmp (vjoin a a) a = 0 := vcmp_zero_iff.2 fun i => by rw [vget_join _ _ na]; omega
  have hcase : vleq a c = false ∨ (vleq a c = true ∧ vleq b c = false) ∨ (vleq a c = true ∧ vleq b c = true ∧ vleq (vjoin a b) c = true) := by
    cases h : vleq a c
    · exact .inl rfl
    · cases h' : vleq b c
      · exact .inr (.inl ⟨rfl, rfl⟩)
      · exact .inr (.inr ⟨rfl, rfl, f3 h h'⟩)
  have F1 := hid f1
  have F2 := hid f2
  have G1 := hid g1
  have G2 := hid g2
  have G3 := hid g3
  have Ha := hid ha
  have Hb := hid hb
  have Hc := hid hc
  have Hcase := hid hcase
  have LJ := vjoin_le8 a b la lb
  have LBC := vjoin_le8 b c lb lc
  have LBA := vjoin_le8 b a lb la
  have LJC := vjoin_le8 (vjoin a b) c LJ lc
  have LABC := vjoin_le8 a (vjoin b c) la LBC
  have LAA := vjoin_le8 a a la la
  have EJ := hid (vjoin_len a b)
  have EBC := hid (vjoin_len b c)
  have EBA := hid (vjoin_len b a)
  have EJC := hid (vjoin_len (vjoin a b) c)
  have EABC := hid (vjoin_len a (vjoin b c))
  have EAA := hid (vjoin_len a a)
  clear f1 f2 f3 g1 g2 g3 ha hb hc hcase na nb nc h0 h1 h2
  go_enter Try.func7, Try.ntmps7
  go_wp2_with fail
  refine (reduce_any _ _ _ _ _ r0 (by omega)).mono ?_
  rintro e w1 ⟨A1, c1, rfl, ra, k1⟩
  rw [← Ha.out] at ra
  rw [← Ha.out]
  have r1 := r1.chg k1
  have r2 := r2.chg k1
  have b1 := chg_below (Below.refl w.heap.size w) k1 (Own.nil _)
  clear k1
  go_wp2_with fail
  refine (reduce_any _ _ _ _ _ r1 (by omega)).mono ?_
  rintro e w2 ⟨A2, c2, rfl, rb, k2⟩
  rw [← Hb.out] at rb
  rw [← Hb.out]
  have ra := ra.chg k2
  have r2 := r2.chg k2
  have b2 := chg_below b1 k2 (Own.nil _)
  clear k2 b1
  go_wp2_with fail
  refine (reduce_any _ _ _ _ _ r2 (by omega)).mono ?_
  rintro e w3 ⟨A3, c3, rfl, rc, k3⟩
  rw [← Hc.out] at rc
  rw [← Hc.out]
  have ra := ra.chg k3
  have rb := rb.chg k3
  have b3 := chg_below b2 k3 (Own.nil _)
  clear k3 b2
  go_wp2_with fail
  refine (join_any _ _ _ _ _ _ _ _ _ ra rb (by omega) (by omega)).mono ?_
  rintro e w4 ⟨A4, c4, rfl, rj, k4⟩
  rw [← EJ.out] at rj
  rw [← EJ.out]
  have ra := ra.chg k4
  have rb := rb.chg k4
  have rc := rc.chg k4
  have b4 := chg_below b3 k4 (Own.nil _)
  clear k4 b3
  go_wp2_with fail
  refine (leq_any _ _ _ _ _ _ _ _ _ ra rj (by omega) (by omega)).mono ?_
  rintro e w' ⟨rfl, rfl⟩
  rw [F1.out]
  go_wp2_with fail
  refine (leq_any _ _ _ _ _ _ _ _ _ rb rj (by omega) (by omega)).mono ?_
  rintro e w' ⟨rfl, rfl⟩
  rw [F2.out]
  go_wp2_with fail
  refine (leq_any _ _ _ _ _ _ _ _ _ ra rc (by omega) (by omega)).mono ?_
  rintro e w' ⟨rfl, rfl⟩
  rcases Hcase.out with q | ⟨q, q'⟩ | ⟨q, q', q''⟩
  case' inl =>
    rw [q]
    clear q
  case' inr.inl =>
    rw [q]
    have Q' := hid q'
    clear q q'
    go_wp2_with fail
    refine (leq_any _ _ _ _ _ _ _ _ _ rb rc (by omega) (by omega)).mono ?_
    rintro e w' ⟨rfl, rfl⟩
    rw [Q'.out]
  case' inr.inr =>
    rw [q]
    have Q' := hid q'
    have Q'' := hid q''
    clear q q' q''
    go_wp2_with fail
    refine (leq_any _ _ _ _ _ _ _ _ _ rb rc (by omega) (by omega)).mono ?_
    rintro e w' ⟨rfl, rfl⟩
    rw [Q'.out]
    go_wp2_with fail
    refine (leq_any _ _ _ _ _ _ _ _ _ rj rc (by omega) (by omega)).mono ?_
    rintro e w' ⟨rfl, rfl⟩
    rw [Q''.out]
  all_goals
    go_wp2_with fail
    refine (join_any _ _ _ _ _ _ _ _ _ rb ra (by omega) (by omega)).mono ?_
    rintro e w5 ⟨A5, c5, rfl, rba, k5⟩
    rw [← EBA.out] at rba
    rw [← EBA.out]
    have ra := ra.chg k5
    have rb := rb.chg k5
    have rc := rc.chg k5
    have rj := rj.chg k5
    have b5 := chg_below b4 k5 (Own.nil _)
    clear k5 b4
    go_wp2_with fail
    refine (cmp_any _ _ _ _ _ _ _ _ _ rj rba (by omega) (by omega)).mono ?_
    rintro e w' ⟨rfl, rfl⟩
    rw [G1.out]
    go_wp2_with fail
    refine (join_any _ _ _ _ _ _ _ _ _ rj rc (by omega) (by omega)).mono ?_
    rintro e w6 ⟨A6, c6, rfl, rjc, k6⟩
    rw [← EJC.out] at rjc
    rw [← EJC.out]
    have ra := ra.chg k6
    have rb := rb.chg k6
    have rc := rc.chg k6
    have b6 := chg_below b5 k6 (Own.nil _)
    clear k6 b5
    go_wp2_with fail
    refine (join_any _ _ _ _ _ _ _ _ _ rb rc (by omega) (by omega)).mono ?_
    rintro e w7 ⟨A7, c7, rfl, rbc, k7⟩
    rw [← EBC.out] at rbc
    rw [← EBC.out]
    have ra := ra.chg k7
    have rjc := rjc.chg k7
    have b7 := chg_below b6 k7 (Own.nil _)
    clear k7 b6
    go_wp2_with fail
    refine (join_any _ _ _ _ _ _ _ _ _ ra rbc (by omega) (by omega)).mono ?_
    rintro e w8 ⟨A8, c8, rfl, rabc, k8⟩
    rw [← EABC.out] at rabc
    rw [← EABC.out]
    have ra := ra.chg k8
    have rjc := rjc.chg k8
    have b8 := chg_below b7 k8 (Own.nil _)
    clear k8 b7
    go_wp2_with fail
    refine (cmp_any _ _ _ _ _ _ _ _ _ rjc rabc (by omega) (by omega)).mono ?_
    rintro e w' ⟨rfl, rfl⟩
    rw [G2.out]
    go_wp2_with fail
    refine (join_any _ _ _ _ _ _ _ _ _ ra ra (by omega) (by omega)).mono ?_
    rintro e w9 ⟨A9, c9, rfl, raa, k9⟩
    rw [← EAA.out] at raa
    rw [← EAA.out]
    have ra := ra.chg k9
    have b9 := chg_below b8 k9 (Own.nil _)
    clear k9 b8
    go_wp2_with fail
    refine (cmp_any _ _ _ _ _ _ _ _ _ raa ra (by omega) (by omega)).mono ?_
    rintro e w' ⟨rfl, rfl⟩
    rw [G3.out]
    go_wp2_with fail
    refine (awake23 _).mono ?_
    rintro e w' ⟨rfl, bx⟩
    go_wp2_with fail
    go_ret
    exact ⟨rfl, b9.trans (bx.mono b9.size)⟩
end Go.Proofs.Ytponapjgajmdnaa
