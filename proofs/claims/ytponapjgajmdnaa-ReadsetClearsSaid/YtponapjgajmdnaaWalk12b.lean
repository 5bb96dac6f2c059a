/- The walk of ReadsetClears. -/
import Derived.Test.YtponapjgajmdnaaWalk12
import Derived.Test.YtponapjgajmdnaaMem2
namespace Go.Proofs.Ytponapjgajmdnaa
open Go.RowKit
set_option linter.unusedVariables false

theorem wrap_ne (x : Int) : wrap64 (x + 1) ≠ x := by unfold wrap64; omega
def incTo (k : Nat) (xs : List Int) : List Int := (xs.take k).map (fun x => wrap64 (x + 1)) ++ xs.drop k
theorem incTo_zero (xs : List Int) : incTo 0 xs = xs := by simp [incTo]
theorem incTo_len (k : Nat) (xs : List Int) : (incTo k xs).length = xs.length := by simp [incTo]; omega
theorem incTo_at {k : Nat} {xs : List Int} (h : k < xs.length) : (incTo k xs).getD k 0 = xs.getD k 0 := by
  simp [incTo, List.getD, Nat.min_eq_left (Nat.le_of_lt h), List.getElem?_append_right]
theorem incTo_set {k : Nat} {xs : List Int} (h : k < xs.length) : (incTo k xs).set k (wrap64 (xs.getD k 0 + 1)) = incTo (k + 1) xs := by
  refine List.ext_getElem? fun j => ?_
  rw [List.getElem?_set]
  simp only [incTo_len]
  by_cases hj : k = j
  · subst hj
    rw [if_pos rfl, if_pos h]
    unfold incTo
    rw [List.getElem?_append_left (by simp; omega)]
    simp [h, List.getD]
  · rw [if_neg hj]
    unfold incTo
    by_cases h1 : j < k
    · rw [List.getElem?_append_left (by simp; omega), List.getElem?_append_left (by simp; omega)]
      simp [h1, show j < k + 1 by omega]
    · rw [List.getElem?_append_right (by simp; omega), List.getElem?_append_right (by simp; omega)]
      simp
      congr 1
      omega
theorem incTo_all {k : Nat} {xs : List Int} (h : xs.length ≤ k) : ∀ j, j < xs.length → (incTo k xs).getD j 0 ≠ xs.getD j 0 := fun j hj => by
  have e : (incTo k xs).getD j 0 = wrap64 (xs.getD j 0 + 1) := by
    unfold incTo
    simp [List.getD, List.take_of_length_le h, List.drop_of_length_le h, List.getElem?_eq_getElem hj]
  rw [e]
  exact wrap_ne _

set_option maxHeartbeats 1600000 in
theorem readsetClears_walk (a0 : Option Addr) (len0 cap0 : Nat) (z0 : List Int) (a1 : Int) (w : World) (hz : IsRow .i64 w a0 len0 cap0 z0) (w1 : (Lit.int .i64 a1).wf = true) :
    Calls Try.prog 6 #[.slice a0 len0 cap0, .int .i64 a1] w fun e w' => e = .returned (.bool true) ∧ Below w.heap.size w w' := by
  clear w1
  by_cases hl : len0 ≤ 40
  · have hd : decide (40 < (len0 : Int)) = false := by simp; omega
    have p0 := place_nonneg a1 10 (by omega)
    have p1 := place_lt a1 10 (by omega)
    obtain ⟨n, hn⟩ : ∃ n : Nat, (n : Int) = 1 + place a1 10 := ⟨(1 + place a1 10).toNat, by omega⟩
    have hn32 : n ≤ 10 := by omega
    have hn1 : 1 ≤ n := by omega
    have hcl : clamp32 (n : Int) = n := by unfold clamp32; omega
    have Hn := hid hn
    have Hcl := hid hcl
    clear hn hcl
    go_enter Try.func6, Try.ntmps6
    go_wp2_with (go_at_call 18; refine (place_any _ _ _ (by omega) (by omega)).mono ?_; rintro e w' ⟨rfl, rfl⟩)
    rw [← Hn.out]
    refine (set_make _ _).mono ?_
    rintro e w1 ⟨g, rfl, k1, c1, hg⟩
    rw [Hcl.out] at k1
    have b1 := chg_below (Below.refl w.heap.size w) c1 (Own.nil _)
    go_wp2_with fail
    clear hd
    go_loopw [6] (fun i wr => ∃ (k : Nat) (fp : List Nat) (xs : List Int), k ≤ len0 ∧ i = .int .i64 k ∧ xs.length ≤ n ∧ SetAt 68 wr fp g n xs ∧ Own w.heap.size fp ∧ Below w.heap.size w wr) (fun i _ => len0 - (intOf i).toNat)
    case atStart => exact ⟨0, [g], [], Nat.zero_le _, rfl, Nat.zero_le _, k1, Own.one hg, b1⟩
    case round =>
      obtain ⟨k, fp, xs, hk, rfl, hxn, hs, ho, hb⟩ := hrel
      clear k1 b1 c1 p0 p1
      by_cases hlt : k < len0
      · obtain ⟨x, rfl, hc⟩ := hz.at_ hb hlt
        go_wp2_with fail
        refine (set_add _ _ _ _ _ _ hs hxn (by omega)).mono ?_
        rintro e w2 ⟨rfl, fp2, h2, c2, d2⟩
        have b2 := chg_below hb c2 ho
        have o2 := ho.step d2 hb.size
        have hl2 := addL_le n xs (z0.getD k 0) hxn
        go_wp2_with fail
        go_roundw
        case rel => exact ⟨k + 1, fp2, _, by omega, by go_num, hl2, h2, o2, b2⟩
        case measure => simp [intOf]; omega
      · go_wp2_with fail
        refine (set_list _ _ _ _ _ hs (by omega)).mono ?_
        rintro e w2 ⟨A2, c2, rfl, ho2, hc2⟩
        have b2 := chg_below hb hc2 (Own.nil _)
        have hs2 := hs.chg hc2 (fun b _ => by simp)
        have hra := row_base ho2 (Nat.zero_le _)
        have hdj : ∀ b ∈ fpV (.slice A2 xs.length c2), b ∉ fp := fun b h1 h2 => by
          have := row_ge ho2 b h1
          have := hs.lt b h2
          omega
        have hoa : Own w.heap.size (fpV (.slice A2 xs.length c2)) := fun b h1 => by
          have := row_ge ho2 b h1
          have := hb.size
          omega
        have Hdj := hid hdj
        clear hdj ho2 hs hc2 hb
        go_wp2_with (go_at_call 21; refine (set_len _ _ _ _ _ hs2).mono ?_; rintro e w' ⟨rfl, rfl⟩)
        go_loopw [8] (fun i wr => ∃ (k : Nat), k ≤ xs.length ∧ i = .int .i64 k ∧ SetAt 68 wr fp g n xs ∧ wr.ownsRow 0 3 1 (.slice A2 xs.length c2) xs.length ((incTo k xs).map (Value.int .i64)) ∧ Below w.heap.size w wr) (fun i _ => xs.length - (intOf i).toNat)
        case atStart => exact ⟨0, Nat.zero_le _, rfl, hs2, by rw [incTo_zero]; exact hra, b2⟩
        case round =>
          obtain ⟨j, hj, rfl, hs, hr, hb⟩ := hrel
          clear hs2 hra b2
          by_cases hlt2 : j < xs.length
          · obtain ⟨gr, hA, hmem, hcell, hfr, hst⟩ := row_at hr hlt2
            have hv : ((incTo j xs).map (Value.int .i64))[j]? = some (.int .i64 (xs.getD j 0)) := by
              have hj2 : j < (incTo j xs).length := by rw [incTo_len]; exact hlt2
              rw [List.getElem?_map, List.getElem?_eq_getElem hj2, ← getD_at hj2, incTo_at hlt2]
              rfl
            rw [hv] at hcell
            obtain ⟨x, hx⟩ : ∃ x, x = xs.getD j 0 := ⟨_, rfl⟩
            rw [← hx] at hcell
            have hnew : (wr.setCell ⟨gr, j, none⟩ (.int .i64 (wrap64 (x + 1)))).ownsRow 0 3 1 (.slice A2 xs.length c2) xs.length ((incTo (j + 1) xs).map (Value.int .i64)) := by
              have := hst (.int .i64 (wrap64 (x + 1)))
              rwa [hx, ← List.map_set, incTo_set hlt2, ← hx] at this
            have hcs : Chg [gr] wr (wr.setCell ⟨gr, j, none⟩ (.int .i64 (wrap64 (x + 1)))) := (Chg.refl _ _).setCell (.inl (by simp)) _
            have hsn := hs.chg hcs (fun b h1 h2 => by rw [List.mem_singleton.1 h2] at h1; exact Hdj.out gr hmem h1)
            have hbn := chg_below hb hcs (Own.one (hoa gr hmem))
            have HN := hid (And.intro hsn (And.intro hnew hbn))
            clear hx hst hv hcs hsn hbn hnew hr hs
            have hA' := hid hA
            subst hA
            go_wp2_with fail
            go_roundw
            case rel => exact ⟨j + 1, by omega, by go_num, HN.out.1, HN.out.2.1, HN.out.2.2⟩
            case measure => simp [intOf]; omega
          · have hR := row_reads hr
            go_wp2_with fail
            refine (set_list _ _ _ _ _ hs (by omega)).mono ?_
            rintro e w3 ⟨A3, c3, rfl, ho3, hc3⟩
            have b3 := chg_below hb hc3 (Own.nil _)
            have hs3 := hs.chg hc3 (fun b _ => by simp)
            have hR3 := hR.chg hc3 (by simp)
            have hRb := row_reads ho3
            clear hs hr hR hc3 hb ho3
            go_wp2_with fail
            go_loopw [10] (fun i wr => ∃ (k q : Nat), k ≤ xs.length ∧ i = .int .i64 k ∧ wr = w3.drewN q) (fun i _ => xs.length - (intOf i).toNat)
            case atStart => exact ⟨0, 0, Nat.zero_le _, rfl, rfl⟩
            case round =>
              obtain ⟨t, q, ht, rfl, rfl⟩ := hrel
              by_cases hlt3 : t < xs.length
              · obtain ⟨ad, rfl, _, q1⟩ := hR3.numAt hlt3
                obtain ⟨bd, rfl, _, q2⟩ := hRb.numAt hlt3
                have hne := incTo_all (k := j) (by omega) t hlt3
                obtain ⟨x, hx⟩ : ∃ x, x = xs.getD t 0 := ⟨_, rfl⟩
                obtain ⟨y, hy⟩ : ∃ y, y = (incTo j xs).getD t 0 := ⟨_, rfl⟩
                have hmx : decide (x ∈ xs) = true := by rw [hx, decide_eq_true_iff]; exact getD_mem hlt3
                rw [← hx] at q2 hne
                rw [← hy] at q1 hne
                have e1 : (x == y) = false := beq_eq_false_iff_ne.2 (fun h => hne h.symm)
                have Hm := hid hmx
                clear hx hy hne hmx
                go_wp2_with fail
                have hsq : ∀ m, SetAt 68 ((w3.drewN q).drewN m) fp g n xs := fun m => (hs3.drewN q).drewN m
                have Hsq := hid hsq
                clear hsq
                go_quiet ((go_at_call 24; first | exact quiet_left ((set_has _ _ _ _ _ _ (Hsq.out _) (by omega)).mono fun e w' h => ⟨by rw [h.1, Hm.out], h.2⟩) | exact quiet_add_left ((set_has _ _ _ _ _ _ (hs3.drewN _) (by omega)).mono fun e w' h => ⟨by rw [h.1, Hm.out], h.2⟩)))
                go_wp2_with fail
                go_roundw
                case rel => exact ⟨t + 1, _, by omega, by go_num, (by first | rfl | exact World.drewN_drewN _ _ _)⟩
                case measure => simp [intOf]; omega
              · have hsq := hs3.drewN q
                have bq := below_drewN b3 q
                clear hs3 b3 hR3 hRb
                have o3 : addOk n [] 3 = true := by simp [addOk]; omega
                have e3 : addL n [] 3 = [3] := by simp [addL]; omega
                have O3 := hid o3
                have E3 := hid e3
                clear o3 e3
                go_wp2_with fail
                refine (set_clear _ _ _ _ _ hsq).mono ?_
                rintro e w4 ⟨rfl, h4, c4⟩
                have hgo : Own w.heap.size [g] := Own.one hg
                have hgfp : g ∈ fp := by
                  obtain ⟨A, c, _, _, rfl⟩ := hsq.ex
                  simp
                have b4 := chg_below bq c4 hgo
                clear hsq bq c4
                go_wp2_with fail
                refine (set_clear_nil _).mono ?_
                rintro e w5 ⟨rfl, rfl⟩
                go_wp2_with fail
                refine (set_len _ _ _ _ _ h4).mono ?_
                rintro e w5 ⟨rfl, rfl⟩
                go_wp2_with fail
                refine (set_list _ _ _ _ _ h4 (by decide)).mono ?_
                rintro e w5 ⟨A5, c5, rfl, ho5, hc5⟩
                have b5 := chg_below b4 hc5 (Own.nil _)
                have h5 := h4.chg hc5 (fun b _ => by simp)
                clear h4 hc5 ho5
                go_wp2_with fail
                refine (set_add _ _ _ _ _ _ h5 (by simp) (by omega)).mono ?_
                rintro e w6 ⟨rfl, fp6, h6, c6, d6⟩
                rw [O3.out]
                rw [E3.out] at h6
                have b6 := chg_below b5 c6 hgo
                clear h5 c6 d6
                go_wp2_with fail
                refine (set_len _ _ _ _ _ h6).mono ?_
                rintro e w7 ⟨rfl, rfl⟩
                rw [show ((([3] : List Int).length : Nat) : Int) = 1 from rfl]
                go_wp2_with (first
                  | (go_at_call 19; refine (set_add_nil _ _).mono ?_; rintro e w7 ⟨rfl, rfl⟩)
                  | (go_at_call 24; refine (set_has_nil _ _).mono ?_; rintro e w7 ⟨rfl, rfl⟩)
                  | (go_at_call 21; refine (set_len_nil _).mono ?_; rintro e w7 ⟨rfl, rfl⟩)
                  | (go_at_call 23; refine (set_list_nil _).mono ?_; rintro e w7 ⟨rfl, rfl⟩)
                  | (go_at_call 15; refine (awake12 _).mono ?_; rintro e w8 ⟨rfl, b8⟩))
                go_ret
                exact ⟨rfl, b6.trans (b8.mono b6.size)⟩
  · have hd : decide (40 < (len0 : Int)) = true := by simp; omega
    go_enter Try.func6, Try.ntmps6
    go_wp2_with (go_at_call 15; refine (awake12 _).mono ?_; rintro e w' ⟨rfl, b1⟩)
    go_ret
    exact ⟨rfl, b1⟩
end Go.Proofs.Ytponapjgajmdnaa
