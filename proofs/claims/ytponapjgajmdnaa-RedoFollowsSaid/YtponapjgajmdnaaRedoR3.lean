/- The contract of the reference's Put. -/
import Derived.Test.YtponapjgajmdnaaRedoR2
import Derived.Test.YtponapjgajmdnaaReg3
import Derived.Deep.RegionWith
import Derived.Deep.LoopGhost
namespace Go.Proofs.Ytponapjgajmdnaa
open Go.RowKit
set_option linter.unusedVariables false

section
variable {w0 w : World} {R : Asr} {g : Nat} {L : PL}
theorem rlog_facts (h : Hold w0 w (logA 63 g L * R)) : ∃ fp, LogAt 63 w fp g L := h.get
end

set_option maxHeartbeats 2000000 in
theorem rlog_put (w0 w : World) (R : Asr) (g : Nat) (L : PL) (a v : Int) (h : Hold w0 w (logA 63 g L * R)) (H : Inv L) :
    Calls Try.prog 42 #[.pointer (some ⟨g, 0, none⟩), .int .i64 a, .int .u64 v] w fun e w' => e = .returned (.bool (putOk L a)) ∧ Hold w0 w' (logA 63 g (putL L a v) * R) := by
  have n32 : L.addrs.length ≤ 32 := by have := H.le; have := H.cap32; omega
  have p64 := H.p64
  have nle := H.le
  have ppos := H.pos
  rcases Int.lt_or_le a 0 with ha | ha
  · have hp : putL L a v = L := putL_neg ha
    have hk : putOk L a = false := by unfold putOk; rw [decide_eq_false (by omega)]; rfl
    rw [hp, hk]
    clear hp hk
    have e1 : decide (a < 0) = true := decide_eq_true ha
    go_enter Try.func42, Try.ntmps42
    go_wp2_with fail
    go_ret
    exact ⟨rfl, h⟩
  · obtain ⟨fp0, hL0⟩ := rlog_facts h
    have e1 : decide (a < 0) = false := decide_eq_false (by omega)
    obtain ⟨A, c, V, d, X, e, hO⟩ := h.logOpen (by decide) (by decide)
    obtain ⟨iI, hiI, hzI0, hzI1, hzI2⟩ := info_parts info_int
    obtain ⟨iU, hiU, hzU0, hzU1, hzU2⟩ := info_parts info_uint64
    by_cases hin : a ∈ L.addrs
    · have hm := mem_adr hin
      have hp : putL L a v = { L with vals := L.vals.set (L.addrs.idxOf a) v } := putL_in ha hin
      have hk : putOk L a = true := by unfold putOk; rw [decide_eq_true ha, decide_eq_true hin]; rfl
      rw [hp, hk]
      have hf := pfind_in hin
      obtain ⟨gv, hV, hcv, hfv, hst⟩ := hO.third.setRow (k := L.addrs.idxOf a) hm.1
      have c2 : w.cell? ⟨g, 2, none⟩ = some (.slice V L.addrs.length d) := hO.blk.some_ rfl
      have h9 := (hst (.int .u64 v)).third'
      rw [← List.map_set] at h9
      have h10 : Hold w0 _ (logA 63 g { L with vals := L.vals.set (L.addrs.idxOf a) v } * R) := Hold.logClose (L := { L with vals := L.vals.set (L.addrs.idxOf a) v }) h9 rfl rfl
      obtain ⟨u0, hu0⟩ : ∃ u, w.cell? ⟨gv, L.addrs.idxOf a, none⟩ = some u := ⟨_, hcv.trans (List.getElem?_eq_getElem (by simp [H.vlen]; exact hm.1))⟩
      have Hf := hid hf
      have H10 := hid h10
      obtain ⟨j, hj⟩ : ∃ j, j = L.addrs.idxOf a := ⟨_, rfl⟩
      obtain ⟨n, hn⟩ : ∃ n, n = L.addrs.length := ⟨_, rfl⟩
      rw [← hn] at c2 n32
      rw [← hj] at hfv hu0
      have hjn : j < n := by rw [hn, hj]; exact hm.1
      have hfj : pfind L a = (j : Int) := by rw [hj]; exact hf
      have Hj := hid hj
      have hL32 : L.addrs.length ≤ 32 := by rw [← hn]; exact n32
      subst hV
      clear hp hk hf h10 hcv hst hO h9 hm hin h hj hn
      rw [← Hj.out] at H10 ⊢
      have b1 : (0 : Int) ≤ (j : Int) := by omega
      have b2 : (j : Int) < (n : Int) := by omega
      go_enter Try.func42, Try.ntmps42
      go_wp2_with fail
      refine (rlog_find _ _ _ _ a hL0 hL32).mono ?_
      rintro e' w1 ⟨rfl, rfl⟩
      rw [hfj]
      have Hfj := hid hfj
      clear hfj
      go_wp2_with fail
      go_ret
      exact ⟨rfl, H10.out⟩
    · have hf := pfind_out hin
      have c0 : w.cell? ⟨g, 0, none⟩ = some (.int .i64 L.cap) := hO.blk.some_ rfl
      have c1 : w.cell? ⟨g, 1, none⟩ = some (.slice A L.addrs.length c) := hO.blk.some_ rfl
      have c3 : w.cell? ⟨g, 3, none⟩ = some (.slice X L.idx.length e) := hO.blk.some_ rfl
      by_cases hfull : L.addrs.length < L.cap
      · have hp := putL_new (v := v) ha hin hfull
        have hk : putOk L a = true := by unfold putOk; rw [decide_eq_true ha, decide_eq_true hfull]; simp
        rw [hp, hk]
        obtain ⟨t0, ht0, hneg, hnn⟩ : ∃ t, t < L.idx.length ∧ ix L.idx (spot L.idx a t) < 0 ∧ ∀ s, s < t → 0 ≤ ix L.idx (spot L.idx a s) := by
          obtain ⟨t, ht, hn⟩ := H.holeAt a
          have : ∀ m, (∀ s, s < m → 0 ≤ ix L.idx (spot L.idx a s)) ∨ ∃ t, t < m ∧ ix L.idx (spot L.idx a t) < 0 ∧ ∀ s, s < t → 0 ≤ ix L.idx (spot L.idx a s) := by
            intro m
            induction m with
            | zero => left; intro s hs; omega
            | succ m ih =>
              rcases ih with h | ⟨t, h1, h2⟩
              · by_cases hm : ix L.idx (spot L.idx a m) < 0
                · exact .inr ⟨m, by omega, hm, h⟩
                · left; intro s hs
                  rcases Nat.lt_or_ge s m with h' | h'
                  · exact h s h'
                  · obtain rfl : s = m := by omega
                    omega
              · exact .inr ⟨t, by omega, h2⟩
          rcases this L.idx.length with h | ⟨t, h1, h2⟩
          · have := h t ht; omega
          · exact ⟨t, h1, h2⟩
        have hneg' : negAt L.idx a = spot L.idx a t0 := by unfold negAt; rw [negT_least ht0 hneg hnn]
        have hspot0 := spot_zero ppos a
        have hh := home_lt ppos a
        obtain ⟨p, hpp⟩ : ∃ p, p = L.idx.length := ⟨_, rfl⟩
        obtain ⟨n, hn⟩ : ∃ n, n = L.addrs.length := ⟨_, rfl⟩
        obtain ⟨cp, hcp⟩ : ∃ cp, cp = L.cap := ⟨_, rfl⟩
        have hhome : a % (p : Int) * 5 % (p : Int) = ((home p a : Nat) : Int) := by
          unfold home
          have h2 := Int.emod_nonneg (a % (p : Int) * 5) (show (p : Int) ≠ 0 by omega)
          omega
        have hm0 : 0 ≤ a % (p : Int) := Int.emod_nonneg a (by omega)
        have hm1 : a % (p : Int) < p := Int.emod_lt_of_pos a (by omega)
        have hz : ((p : Int) == 0) = false := beq_eq_false_iff_ne.2 (by omega)
        have b6 : (n == cp) = false := by simp; omega
        have hfull' : n < cp := by omega
        rw [← hpp] at c3 p64 ppos ht0 hspot0 hh
        rw [← hn] at c1 n32 nle
        rw [← hcp] at c0 nle
        have hfin : ∀ W, Hold w0 W (logP 63 g L.cap n p L.addrs L.vals (L.idx.set (negAt L.idx a) n) A c V d X e R) → Hold w0 W (logP 63 g L.cap n p L.addrs L.vals (L.idx.set (negAt L.idx a) n) A c V d X e R) := fun _ h => h
        rw [← hpp, ← hn] at hO
        have Hh := hid hhome
        have Hs0 := hid hspot0
        have Hpp := hid hpp
        have Hn := hid hn
        have Hcp := hid hcp
        have Hf := hid hf
        have Hneg := hid hneg
        have Hnn := hid hnn
        have Hna := hid hneg'
        have HO := hid hO
        clear hp hk hf hneg hnn hneg' hspot0 hpp hn hcp hhome hfin hO hin h hfull
        go_enter Try.func42, Try.ntmps42
        go_wp2_with fail
        refine (rlog_find _ _ _ _ a hL0 (by rw [← Hn.out]; omega)).mono ?_
        rintro e' w1 ⟨rfl, rfl⟩
        rw [Hf.out]
        go_wp2_with fail
        go_quiet (fail)
        go_wp2_with fail
        rw [Hh.out, ← Hs0.out]
        clear hm0 hm1 hz c0
        go_loop [9] (fun v => ∃ t : Nat, v = .int .i64 (spot L.idx a t : Nat) ∧ t ≤ t0) (fun v => p - offOf p (home p a) (intOf v).toNat)
        case atStart => exact ⟨0, rfl, Nat.zero_le _⟩
        case round =>
          obtain ⟨t, rfl, htl⟩ := hrel
          have hk := spot_lt (idx := L.idx) (by rw [← Hpp.out]; exact ppos) a t
          rw [← Hpp.out] at hk
          obtain ⟨gx, hX, hcx, hfx, hst⟩ := HO.out.fourth.setRow hk
          rw [num_some (by rw [← Hpp.out]; exact hk)] at hcx
          have hcx' : w.cell? ⟨gx, spot L.idx a t, none⟩ = some (.int .i64 (ix L.idx (spot L.idx a t))) := hcx
          clear hcx
          subst hX
          by_cases htt : t < t0
          · have hge := Hnn.out t htt
            have hoff : offOf p (home p a) (spot L.idx a t) = t := by rw [Hpp.out]; exact offOf_spot (by rw [← Hpp.out]; omega) a (by rw [← Hpp.out]; omega)
            have hsucc : (spot L.idx a t + 1) % p = spot L.idx a (t + 1) := by rw [Hpp.out]; exact (spot_succ _ _ _).symm
            have hoff2 : offOf p (home p a) (spot L.idx a (t + 1)) = t + 1 := by rw [Hpp.out]; exact offOf_spot (by rw [← Hpp.out]; omega) a (by rw [← Hpp.out]; omega)
            obtain ⟨k, hkk⟩ : ∃ k, k = spot L.idx a t := ⟨_, rfl⟩
            obtain ⟨j, hj⟩ : ∃ j, j = ix L.idx (spot L.idx a t) := ⟨_, rfl⟩
            rw [← hj] at hge hcx'
            rw [← hkk] at hk hoff hsucc hcx' ⊢
            have Hoff := hid hoff
            have Hoff2 := hid hoff2
            have Hsucc := hid hsucc
            have hnx : (((k : Int) + 1) % (p : Int)) = ((spot L.idx a (t + 1) : Nat) : Int) := by rw [← Hsucc.out]; simp
            have Hnx := hid hnx
            clear hoff hsucc hkk hj hnx hst hfx hoff2
            have hz : ((p : Int) == 0) = false := beq_eq_false_iff_ne.2 (by omega)
            have b1 : (0 : Int) ≤ (k : Int) := by omega
            have b2 : (k : Int) < (p : Int) := by omega
            have b3 : decide (0 ≤ j) = true := decide_eq_true hge
            go_wp2_with fail
            rw [Hnx.out]
            go_round
            case rel => exact ⟨t + 1, rfl, by omega⟩
            case measure =>
              have := Hoff.out
              have := Hoff2.out
              simp only [intOf, Int.toNat_natCast]
              omega
          · obtain rfl : t = t0 := by omega
            have hlt := Hneg.out
            have h6 : ∀ q, Hold w0 ((w.drewN q).setCell ⟨gx, spot L.idx a t, none⟩ (.int .i64 n)) (logP 63 g L.cap n p L.addrs L.vals (L.idx.set (spot L.idx a t) (n : Int)) A c V d (some ⟨gx, 0, none⟩) e R) := fun q => by
              obtain ⟨gx', hX', _, _, hst'⟩ := (HO.out.drewN q).fourth.setRow hk
              injection hX' with hX'
              injection hX' with hX'
              subst hX'
              have h5 := hst' (.int .i64 n)
              rw [← List.map_set] at h5
              exact h5.fourth'
            have hd1 := c1
            have hd3 := c3
            have hNa := Hna.out
            obtain ⟨k, hkk⟩ : ∃ k, k = spot L.idx a t := ⟨_, rfl⟩
            obtain ⟨j, hj⟩ : ∃ j, j = ix L.idx (spot L.idx a t) := ⟨_, rfl⟩
            rw [← hj] at hlt hcx'
            rw [← hkk] at hk hcx' hfx h6 hNa ⊢
            have HNa := hid hNa
            have b1 : (0 : Int) ≤ (k : Int) := by omega
            have b2 : (k : Int) < (p : Int) := by omega
            have b3 : decide (0 ≤ j) = false := decide_eq_false (by omega)
            have H6 := hid h6
            clear hkk hj hst h6 hNa
            have d1 := c1
            have d3 := c3
            go_wp2_with fail
            refine wp_region_brk [11] (by kernel_rfl) ?_
            refine wpAnyB_now (fun w' => w'.cell? ⟨g, 1, none⟩ = some (.slice A n c) ∧ w'.cell? ⟨g, 3, none⟩ = some (.slice (some ⟨gx, 0, none⟩) p e)) (fun _ _ => trivial) _ _ _ _ ?_
            refine' wpAnyB_bulk [true, true, true, true, true, true, true, true, true, true, true] 88 (listed' := #[true, true, true, true, true, true, true, true, true, true, true, false]) rfl (by kernel_rfl) (by kernel_rfl) (by kernel_rfl) (by kernel_rfl) (by kernel_rfl) (by kernel_rfl) (by decide) (fun _ _ _ _ h => h) rfl ⟨d1, d3⟩ (fun wq hq => ?_) ?_; rotate_left 1
            · simp only [maskL]
              obtain ⟨q1, q3⟩ := hq
              repeat (go_big_quiet_step (fail))
              exact wpQuiet_nil rfl
            refine wpAnyB_brk [false, false, false, false, false, false, false, false, false, false, false, true] (fuel := 0) (by rfl) (by rfl) (by kernel_rfl) (by kernel_rfl) (fun QB hQB hQX => ?_)
            simp only [maskL]
            go_wp2_with fail
            refine hQB.out _ _ ?_
            refine wpAnyB_forget (by kernel_rfl) ?_
            refine wpAnyB_done (by kernel_rfl) ?_ _
            -- END
            have h7 := H6.out (nq + 1)
            generalize hW : World.setCell _ _ _ = W at h7 ⊢
            clear hW c1 c3 d1 d3 hd1 hd3 hcx' hfx H6 HO
            have c1 : W.cell? ⟨g, 1, none⟩ = some (.slice A n c) := h7.blk.some_ rfl
            have h8 := h7.swap
            go_wp2_with (at_builtin; refine wpList_append1 rfl _ _ 22 rfl 3 iI (.int .i64 0) 8 Try.underlying22 hiI hzI0 hzI1 hzI2 rfl (.slice A n c) n (L.addrs.map (Value.int .i64)) (.int .i64 a) _ rfl h8.row rfl rfl (by omega) (by decide) ?_)
            intro A2 c2 W2 ho hc hs
            have h9 := (h8.grow ho hc hs).swap
            clear h7 h8 ho hc hs c1
            have c1 : W2.cell? ⟨g, 1, none⟩ = some (.slice A n c) := h9.blk.some_ rfl
            have z1 := h9.blk.frozen 1
            have h10 := h9.setBlk 1 (.slice A2 (n + 1) c2)
            have c2' : W2.cell? ⟨g, 2, none⟩ = some (.slice V n d) := h9.blk.some_ rfl
            have h12 := h10.third
            clear h9 h10
            go_wp2_with (at_builtin; refine wpList_append1s rfl _ _ 61 rfl 50 iU (.int .u64 0) 8 Try.underlying61 hiU hzU0 hzU1 hzU2 rfl (.slice V n d) n (L.vals.map (Value.int .u64)) (.int .u64 v) _ rfl h12.row _ rfl (by simp) rfl (by omega) (by decide) ?_)
            intro V2 d2 W4 ho hc hs
            have h13 := (h12.grow ho hc (by simpa using hs)).third'
            clear h12 ho hc hs c2' c1 z1
            have c2' : W4.cell? ⟨g, 2, none⟩ = some (.slice V n d) := h13.blk.some_ rfl
            have z2 := h13.blk.frozen 2
            have h14 := h13.setBlk 2 (.slice V2 (n + 1) d2)
            have h15 : Hold w0 (W4.setCell ⟨g, 2, none⟩ (.slice V2 (n + 1) d2)) (logA 63 g { L with addrs := L.addrs ++ [a], vals := L.vals ++ [v], idx := L.idx.set (negAt L.idx a) L.addrs.length } * R) := by
              refine Hold.logClose (L := { L with addrs := L.addrs ++ [a], vals := L.vals ++ [v], idx := L.idx.set (negAt L.idx a) L.addrs.length }) (n := n + 1) (p := p) (A := A2) (V := V2) (X := some ⟨gx, 0, none⟩) (c := c2) (d := d2) (e := e) ?_ (by simp [Hn.out]) (by simp [Hpp.out])
              rw [HNa.out, ← Hn.out]
              rw [show (L.addrs.map (Value.int .i64) ++ [.int .i64 a]) = (L.addrs ++ [a]).map (Value.int .i64) by simp, show (L.vals.map (Value.int .u64) ++ [.int .u64 v]) = (L.vals ++ [v]).map (Value.int .u64) by simp] at h14
              exact h14
            have H15 := hid h15
            clear h13 h14 h15
            go_wp2_with fail
            go_ret
            exact ⟨rfl, H15.out⟩
      · have hp := putL_full (v := v) ha hin hfull
        have hk : putOk L a = false := by unfold putOk; rw [decide_eq_false hin, decide_eq_false hfull]; simp
        rw [hp, hk]
        have hnc : L.addrs.length = L.cap := by omega
        rw [hnc] at c1
        have hc32 : L.cap ≤ 32 := H.cap32
        obtain ⟨cp, hcp⟩ : ∃ cp, cp = L.cap := ⟨_, rfl⟩
        rw [← hcp] at c0 c1
        have b6 : (cp == cp) = true := by simp
        have b6' : ((cp : Int) == cp) = true := by simp
        have Hf := hid hf
        have hfin : ∀ q, Hold w0 (w.drewN q) (logA 63 g L * R) := fun q => h.drewN q
        have HF := hid hfin
        clear hf hfin hp hk hnc hfull c3 hcp hO h
        go_enter Try.func42, Try.ntmps42
        go_wp2_with fail
        refine (rlog_find _ _ _ _ a hL0 n32).mono ?_
        rintro e' w1 ⟨rfl, rfl⟩
        rw [Hf.out]
        go_wp2_with fail
        go_quiet (fail)
        go_wp2_with fail
        go_ret
        exact ⟨rfl, HF.out _⟩
end Go.Proofs.Ytponapjgajmdnaa
