/- The walks of the statements about package vclock. -/
import Derived.Test.YtponapjgajmdnaaVc
import Derived.Test.YtponapjgajmdnaaArg
import Derived.Test.YtponapjgajmdnaaMem2
namespace Go.Proofs.Ytponapjgajmdnaa
open Go.RowKit
set_option linter.unusedVariables false

theorem Chg.of_bel {w w' : World} (h : Below w.heap.size w w') : Chg [] w w' := Chg.of_below h

def red (zs : List Int) : List Int := (zs.take 8).map (fun z => place z 4)
theorem red_len (zs : List Int) : (red zs).length ≤ 8 := by simp [red]; omega
theorem red_nonneg (zs : List Int) (i : Nat) : 0 ≤ vget (red zs) i ∧ vget (red zs) i < 4 := by
  by_cases h : i < (red zs).length
  · have : vget (red zs) i ∈ red zs := getD_mem h
    obtain ⟨z, _, hz⟩ := List.mem_map.1 this
    rw [← hz]
    exact ⟨place_nonneg _ _ (by omega), place_lt _ _ (by omega)⟩
  · rw [vget_out (by omega)]; omega
def redTo (k : Nat) (zs : List Int) : List Int := (zs.take k).map (fun z => place z 4)
theorem redTo_succ {k : Nat} {zs : List Int} (h : k < zs.length) : redTo (k + 1) zs = redTo k zs ++ [place (zs.getD k 0) 4] := by
  unfold redTo
  rw [List.take_succ_eq_append_getElem h, List.map_append, getD_at h]
  rfl

set_option maxHeartbeats 400000 in
theorem reduce_any (w : World) (A : Option Addr) (n c : Nat) (zs : List Int) (hA : RI w A n zs) (hn : n ≤ 9223372036854775807) :
    Calls Try.prog 27 #[.slice A n c] w fun e w' => ∃ A' c', e = .returned (.slice A' (red zs).length c') ∧ RI w' A' (red zs).length (red zs) ∧ Chg [] w w' := by
  have hl := hA.len
  have Hl := hid hl
  clear hl
  obtain ⟨i0, hi, hz0, hz1, hz2⟩ := info_parts info_int
  go_enter Try.func27, Try.ntmps27
  go_wp2_with fail
  go_loopw [3, 4] (fun v i wr => ∃ (k : Nat) (A' : Option Addr) (c' : Nat), k ≤ n ∧ k ≤ 8 ∧ i = .int .i64 k ∧ v = .slice A' k c' ∧ wr.ownsRow 0 3 1 (.slice A' k c') k ((redTo k zs).map (Value.int .i64)) ∧ Own w.heap.size (fpV (.slice A' k c')) ∧ Below w.heap.size w wr) (fun _ i _ => n - (intOf i).toNat)
  case atStart => exact ⟨0, none, 0, Nat.zero_le _, Nat.zero_le _, rfl, rfl, World.ownsRow_nil _ _ _ _, Own.nil _, Below.refl _ _⟩
  case round =>
    obtain ⟨k, A', c', hk, hk8, rfl, rfl, ho, how, hb⟩ := hrel
    by_cases hlt : k < n
    · have hd : decide ((k : Int) < n) = true := by simp; omega
      by_cases hlt8 : k < 8
      · obtain ⟨b, hA2⟩ := hA.chg (Chg.of_bel hb)
        obtain ⟨ad, rfl, _, h1⟩ := hA2.numAt hlt
        have hs := redTo_succ (k := k) (zs := zs) (by rw [Hl.out]; exact hlt)
        obtain ⟨x, hx⟩ : ∃ x, x = zs.getD k 0 := ⟨_, rfl⟩
        rw [← hx] at h1 hs
        have Hs := hid hs
        clear hx hs hA2
        go_wp2_with (first
          | (go_at_call 18; refine (place_any _ _ _ (by omega) (by omega)).mono ?_; rintro e w' ⟨rfl, rfl⟩)
          | (at_builtin; refine wpList_append1 rfl _ _ 22 rfl 3 i0 (.int .i64 0) 8 Try.underlying22 hi hz0 hz1 hz2 rfl (.slice A' k c') k ((redTo k zs).map (Value.int .i64)) (.int .i64 (place x 4)) _ rfl ho rfl rfl (by omega) (by decide) ?_))
        intro A3 c3 w3 ho3 hC3 hf3
        have hb3 := chg_below hb hC3 how
        have how3 := how.step hf3 hb.size
        have ho4 : w3.ownsRow 0 3 1 (.slice A3 (k + 1) c3) (k + 1) ((redTo (k + 1) zs).map (Value.int .i64)) := by
          rw [Hs.out, List.map_append]; exact ho3
        have HN := hid ho4
        clear ho4 ho3 hC3 hf3 ho
        go_wp2_with fail
        go_roundw
        case rel => exact ⟨k + 1, A3, c3, by omega, by omega, by go_num, rfl, HN.out, how3, hb3⟩
        case measure => simp [intOf]; omega
      · obtain rfl : k = 8 := by omega
        have e : redTo 8 zs = red zs := rfl
        have e2 : (red zs).length = 8 := by unfold red; rw [List.length_map, List.length_take, Hl.out]; omega
        rw [e] at ho
        have hfin : ∃ A'' c'', Ending.returned (.slice A' 8 c') = Ending.returned (.slice A'' (red zs).length c'') ∧ RI wr A'' (red zs).length (red zs) ∧ Chg [] w wr :=
          ⟨A', c', by rw [e2], by rw [e2]; exact RI.own ho, Chg.of_bel hb⟩
        have HF := hid hfin
        clear e e2 hfin ho
        go_wp2_with fail
        go_ret
        exact HF.out
    · obtain rfl : k = n := by omega
      have hd : decide ((k : Int) < k) = false := by simp
      have e : redTo k zs = red zs := by
        unfold redTo red
        rw [List.take_of_length_le (by rw [Hl.out]; omega), List.take_of_length_le (by rw [Hl.out]; omega)]
      have e2 : (red zs).length = k := by unfold red; rw [List.length_map, List.length_take, Hl.out]; omega
      rw [e] at ho
      have hfin : ∃ A'' c'', Ending.returned (.slice A' k c') = Ending.returned (.slice A'' (red zs).length c'') ∧ RI wr A'' (red zs).length (red zs) ∧ Chg [] w wr :=
        ⟨A', c', by rw [e2], by rw [e2]; exact RI.own ho, Chg.of_bel hb⟩
      have HF := hid hfin
      clear e e2 hfin ho
      go_wp2_with fail
      go_ret
      exact HF.out

def tickTo (j : Nat) (xs : List Int) : List Int := xs ++ List.replicate (j - xs.length) 0

set_option maxHeartbeats 400000 in
theorem tick_yes (w : World) (A : Option Addr) (n c k : Nat) (xs : List Int) (hA : RI w A n xs) (hn : n ≤ 1000000) (hk : k < 16) (hx0 : 0 ≤ vget xs k) (hx1 : vget xs k ≤ 1000) :
    Calls Try.prog 33 #[.slice A n c, .int .i64 k] w fun e w' => ∃ A' c', e = .returned (.tuple #[.slice A' (max n (k + 1)) c', .int .i64 0]) ∧ RI w' A' (max n (k + 1)) (vtick xs k) ∧ Chg [] w w' := by
  have hl := hA.len
  have Hl := hid hl
  clear hl
  obtain ⟨x, hx⟩ : ∃ x, x = vget xs k := ⟨_, rfl⟩
  rw [← hx] at hx0 hx1
  have Hx := hid hx
  clear hx
  have hd : decide (16 ≤ (k : Int)) = false := by simp; omega
  have hne : (x == 9223372036854775807) = false := by rw [beq_eq_false_iff_ne]; omega
  obtain ⟨i0, hi, hz0, hz1, hz2⟩ := info_parts info_int
  obtain ⟨b, hA0⟩ := hA
  go_enter Try.func33, Try.ntmps33
  go_wp2_with (go_at_call 32; refine (get_in _ _ _ _ _ k ⟨b, hA0⟩ (by omega)).mono ?_; rintro e w' ⟨rfl, rfl⟩; rw [← Hx.out])
  refine (clone_int _ _ _ _ _ _ hA0 (by omega)).mono ?_
  rintro e w1 ⟨A1, c1, rfl, ho1, hc1⟩
  have hb1 := chg_below (Below.refl w.heap.size w) hc1 (Own.nil _)
  have how1 : Own w.heap.size (fpV (.slice A1 n c1)) := row_ge ho1
  have hr1 := row_base ho1 (Nat.zero_le _)
  clear ho1 hc1 hne
  have ht : tickTo n xs = xs := by unfold tickTo; rw [Hl.out]; simp
  rw [← ht] at hr1
  clear ht hd
  go_wp2_with fail
  go_loopw [6] (fun v wr => ∃ (j : Nat) (A' : Option Addr) (c' : Nat), n ≤ j ∧ j ≤ max n (k + 1) ∧ v = .slice A' j c' ∧ wr.ownsRow 0 3 1 (.slice A' j c') j ((tickTo j xs).map (Value.int .i64)) ∧ Own w.heap.size (fpV (.slice A' j c')) ∧ Below w.heap.size w wr) (fun v _ => k + 1 - lenOf v)
  case atStart => exact ⟨n, A1, c1, Nat.le_refl _, by omega, rfl, hr1, how1, hb1⟩
  case round =>
    obtain ⟨j, A', c', hj0, hj1, rfl, ho, how, hb⟩ := hrel
    clear hr1 how1 hb1
    by_cases hlt : j ≤ k
    · have hs : tickTo (j + 1) xs = tickTo j xs ++ [0] := by
        unfold tickTo
        rw [show j + 1 - xs.length = (j - xs.length) + 1 from by rw [Hl.out]; omega, List.replicate_succ', List.append_assoc]
      have Hs := hid hs
      clear hs
      go_wp2_with (at_builtin; refine wpList_append1 rfl _ _ 22 rfl 3 i0 (.int .i64 0) 8 Try.underlying22 hi hz0 hz1 hz2 rfl (.slice A' j c') j ((tickTo j xs).map (Value.int .i64)) (.int .i64 0) _ rfl ho rfl rfl (by omega) (by decide) ?_)
      intro A3 c3 w3 ho3 hC3 hf3
      have hb3 := chg_below hb hC3 how
      have how3 := how.step hf3 hb.size
      have ho4 : w3.ownsRow 0 3 1 (.slice A3 (j + 1) c3) (j + 1) ((tickTo (j + 1) xs).map (Value.int .i64)) := by
        rw [Hs.out, List.map_append]; exact ho3
      have HN := hid ho4
      clear ho4 ho3 hC3 hf3 ho
      go_wp2_with fail
      go_roundw
      case rel => exact ⟨j + 1, A3, c3, by omega, by omega, rfl, HN.out, how3, hb3⟩
      case measure => simp [lenOf]; omega
    · have hjm : j = max n (k + 1) := by omega
      obtain ⟨g, hg, hmem, hcell, hfr, hst⟩ := row_at ho (k := k) (by omega)
      have hlen : (tickTo j xs).length = j := by unfold tickTo; simp [Hl.out]; omega
      have hv : ((tickTo j xs).map (Value.int .i64))[k]? = some (.int .i64 x) := by
        rw [List.getElem?_map, List.getElem?_eq_getElem (by omega)]
        have e : (tickTo j xs)[k]'(by omega) = x := by
          rw [← getD_at (by omega), Hx.out]
          unfold tickTo vget
          simp only [List.getD, List.getElem?_append]
          split
          · rfl
          · rename_i hi
            rw [List.getElem?_eq_none (l := xs) (by omega), List.getElem?_replicate]
            split <;> rfl
        rw [e]; rfl
      rw [hv] at hcell
      have hnew : (wr.setCell ⟨g, k, none⟩ (.int .i64 (x + 1))).ownsRow 0 3 1 (.slice A' j c') j ((vtick xs k).map (Value.int .i64)) := by
        have h1 := hst (.int .i64 (x + 1))
        have e : (tickTo j xs).set k (x + 1) = vtick xs k := by
          unfold tickTo vtick
          rw [Hl.out, ← Hx.out, hjm]
          congr 3
          omega
        rwa [← List.map_set, e] at h1
      have hbn : Below w.heap.size w (wr.setCell ⟨g, k, none⟩ (.int .i64 (x + 1))) := hb.setCell (how g hmem) _
      have hfin : ∃ A'' c'', Ending.returned (.tuple #[.slice A' j c', .int .i64 0]) = Ending.returned (.tuple #[.slice A'' (max n (k + 1)) c'', .int .i64 0]) ∧ RI (wr.setCell ⟨g, k, none⟩ (.int .i64 (x + 1))) A'' (max n (k + 1)) (vtick xs k) ∧ Chg [] w (wr.setCell ⟨g, k, none⟩ (.int .i64 (x + 1))) :=
        ⟨A', c', by rw [← hjm], by rw [← hjm]; exact RI.own hnew, Chg.of_bel hbn⟩
      have HF := hid hfin
      clear hjm hlen hv hnew hbn hfin hst ho
      subst hg
      go_wp2_with fail
      go_ret2
      exact HF.out
end Go.Proofs.Ytponapjgajmdnaa
