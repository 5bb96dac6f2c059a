/- WriterLast. -/
import Derived.Test.YtddghhddafeojaaWr3
import Derived.Test.YtddghhddafeojaaWalk17a
import Derived.Test.YtddghhddafeojaaKit2
namespace Go.Proofs.Ytddghhddafeojaa
open Go.RowKit
set_option linter.unusedVariables false

set_option maxRecDepth 8000 in
set_option maxHeartbeats 2000000 in
theorem twin_words (w0 w : World) (R : Asr) (A : Option Addr) (n c : Nat) (xs : List Int) (h : Hold w0 w R) (hA : ∀ w', Hold w0 w' R → ∃ b, Reads w' b A n (xs.map (Value.int .u64))) (hn : n ≤ 1000) :
    Calls Try.prog 26 #[.slice A n c] w fun e w' => ∃ A' c', e = .returned (.slice A' n c') ∧ Hold w0 w' (rowA 43 (.slice A' n c') n (xs.map (Value.int .u64)) * R) := by
  have lx : xs.length = n := by obtain ⟨_, hq⟩ := hA w h; simpa using hq.len
  obtain ⟨iU, hiU, hzU0, hzU1, hzU2⟩ := info_parts info_u64
  have HA := hid hA
  have h0 := h.nilRow 43
  have hdef : ∀ k (hk : k < xs.length), (xs.take k).map (Value.int .u64) ++ [.int .u64 (xs.getD k 0)] = (xs.take (k + 1)).map (Value.int .u64) := fun k hk => by
    rw [List.take_succ_eq_append_getElem hk, List.map_append]
    simp only [List.map_cons, List.map_nil]
    rw [getD_at hk]
  have HD := hid hdef
  clear h hA hdef
  go_enter Try.func26, Try.ntmps26
  go_wp2_with fail
  go_loopw [3, 4] (fun s i wr => ∃ (k : Nat) (A' : Option Addr) (c' : Nat), k ≤ n ∧ i = .int .i64 k ∧ s = .slice A' k c' ∧ Hold w0 wr (rowA 43 (.slice A' k c') k ((xs.take k).map (Value.int .u64)) * R)) (fun _ i _ => n - (intOf i).toNat)
  case atStart => exact ⟨0, none, 0, by omega, rfl, rfl, h0⟩
  case round =>
    clear h0
    obtain ⟨k, A', c', hk, rfl, rfl, h1⟩ := hrel
    by_cases hlt : k < n
    · have e1 : decide ((k : Int) < n) = true := decide_eq_true (by omega)
      obtain ⟨b, hb⟩ := HA.out _ h1.drop
      obtain ⟨ad, rfl, _, hc⟩ := hb.numAt (i := k) hlt
      obtain ⟨x, hx⟩ : ∃ x, x = xs.getD k 0 := ⟨_, rfl⟩
      have hd := HD.out k (by omega)
      rw [← hx] at hc hd
      obtain ⟨D, hD⟩ : ∃ D, D = (xs.take k).map (Value.int .u64) := ⟨_, rfl⟩
      rw [← hD] at h1 hd
      have Hd := hid hd
      clear hx hd hD hb
      go_wp2_with (at_builtin; refine wpList_append1 rfl _ _ 23 rfl 43 iU (.int .u64 0) 8 Try.underlying23 hiU hzU0 hzU1 hzU2 rfl (.slice A' k c') k D (.int .u64 x) _ rfl h1.row rfl rfl (by omega) (by decide) ?_)
      intro A2 c2 W2 ho hc2 hs
      have h2 := h1.grow ho hc2 hs
      rw [Hd.out] at h2
      have H2 := hid h2
      clear h1 h2 ho hc2 hs e1 hc
      go_wp2_with fail
      go_round
      case rel => exact ⟨k + 1, A2, c2, by omega, by go_num, rfl, H2.out⟩
      case measure => simp [intOf]; omega
    · obtain rfl : n = k := by omega
      have e1 : decide ((n : Int) < n) = false := by simp
      rw [List.take_of_length_le (by omega)] at h1
      have H1 := hid h1
      clear h1
      go_wp2_with fail
      go_ret
      exact ⟨A', c', rfl, H1.out⟩
/-- The cells behind the first k stores. -/
def CK (ps vs : List Int) : Nat → Nat → List Int
  | 0 => ws0
  | k + 1 => opC (CK ps vs k) 1 (ps.getD k 0) (vs.getD k 0) true
theorem CK_len (ps vs : List Int) (k j : Nat) : (CK ps vs k j).length = (ws0 j).length := by
  induction k with
  | zero => rfl
  | succ k ih => exact (opC_len2 _ _ _ _ _ _).trans ih
theorem CK_ok (ps vs : List Int) (k : Nat) : COk (CK ps vs k) := by
  induction k with
  | zero => exact ws0_ok
  | succ k ih => exact ih.opC _ _ _ _
theorem CK_set (ps vs : List Int) (k zn : Nat) (hz : ps.getD k 0 = zn) (h8 : zn < 8) : CK ps vs (k + 1) 1 = (CK ps vs k 1).set zn (vs.getD k 0) := by
  show opC (CK ps vs k) 1 (ps.getD k 0) (vs.getD k 0) true 1 = _
  rw [hz]
  have hh : hasC (CK ps vs k) 1 zn := ⟨by omega, by
    rw [show getC (CK ps vs k) 1 = CK ps vs k 1 from getC_at (k := 1) (by decide) (by decide), CK_len, show (ws0 1).length = 8 from rfl]; omega⟩
  rw [(op_yes hh 2 _).2.1, show ((1 : Int).toNat) = 1 from rfl, setK_eq, Int.toNat_natCast]
set_option maxRecDepth 8000 in
set_option maxHeartbeats 8000000 in
theorem writerLast_any (w : World) (A0 A1 : Option Addr) (n0 n1 c0 c1 b0 b1 : Nat) (x0 x1 : List Int)
    (hA0 : Reads w b0 A0 n0 (x0.map (Value.int .i64))) (hA1 : Reads w b1 A1 n1 (x1.map (Value.int .u64))) (l0 : n0 ≤ 9223372036854775807) (l1 : n1 ≤ 9223372036854775807) (k1 : n1 ≤ c1) :
    Calls Try.prog 4 #[.slice A0 n0 c0, .slice A1 n1 c1] w (fun e w' => e = .returned (.bool true) ∧ Below w.heap.size w w') := by
  have H0 := hid hA0
  have H1 := hid hA1
  clear hA0 hA1
  by_cases h20 : 20 < n1
  · have e1 : decide (20 < (n1 : Int)) = true := decide_eq_true (by omega)
    go_enter Try.func4, Try.ntmps4
    go_wp2_with fail
    refine (config17 w _ _ (Hold.start w)).mono ?_
    rintro e v1 ⟨rfl, h1⟩
    go_wp2_with fail
    refine (lab_start w _ _ cf17 2 cf17_ok (by decide) h1).mono ?_
    rintro e w2 ⟨m, r, rfl, h2⟩
    have H3 := hid (h2.newBlk (t := 27) (cs := #[.pointer (some ⟨m, 0, none⟩), .pointer (some ⟨r, 0, none⟩)]))
    clear h1 h2
    go_wp2_with fail
    refine (awake17_any w _ _ H3.out).mono ?_
    rintro e w3 ⟨rfl, h4⟩
    have H4 := hid h4.below
    clear h4 H3
    go_wp2_with fail
    go_ret
    exact ⟨rfl, H4.out⟩
  · have e1 : decide (20 < (n1 : Int)) = false := decide_eq_false (by omega)
    go_enter Try.func4, Try.ntmps4
    go_wp2_with fail
    refine (config17 w _ _ (Hold.start w)).mono ?_
    rintro e v1 ⟨rfl, h1⟩
    go_wp2_with fail
    refine (lab_start w _ _ cf17 2 cf17_ok (by decide) h1).mono ?_
    rintro e w2 ⟨m, r, rfl, h2⟩
    have h3 : Hold w _ (prA w2.heap.size m r * (memA m ws0 * (refA r cf17 ws0 * Asr.emp))) := h2.newBlk (t := 27) (cs := #[.pointer (some ⟨m, 0, none⟩), .pointer (some ⟨r, 0, none⟩)])
    have H4 := hid h3
    clear h1 h2 h3
    go_wp2_with fail
    have h4 := H4.out
    generalize hW : World.alloc _ _ = W at h4 ⊢
    generalize w2.heap.size = gp at h4 ⊢
    clear hW H4
    refine (addrs_any w _ _ A0 n0 c0 _ x0 h4 H0.out l0).mono ?_
    rintro e w6 ⟨A6, c6, rfl, h6⟩
    obtain ⟨xs, hxs⟩ : ∃ xs, xs = lst17 (x0.take (min n0 12)) := ⟨_, rfl⟩
    have hxl : xs.length = min n0 12 := by
      rw [hxs]; have := H0.out.len; simp [lst17] at this ⊢; omega
    have hxe := lst17_lt (x0.take (min n0 12))
    rw [← hxs] at h6 hxe
    obtain ⟨N, hN⟩ : ∃ N, N = min n0 12 := ⟨_, rfl⟩
    rw [← hN] at h6 hxl ⊢
    have hN12 : N ≤ 12 := by omega
    have HX := hid (And.intro hxs (And.intro hxl hxe))
    have HN := hid hN
    have h7 := h6.imp (Imp.on _ (Imp.rowSl _ _ _ _ _))
    obtain ⟨hc6, _, b6, _⟩ := h7.sl
    clear hxs hxe h4 hxl hN h6
    obtain ⟨k, hk⟩ : ∃ k, k = min N n1 := ⟨_, rfl⟩
    go_wp2_with fail
    refine (wr_new w _ _ A6 A1 N c6 n1 c1 xs x1 h7 (fun w' h' => by obtain ⟨_, _, hq⟩ := h'.sl; exact hq) (fun w' h' => ⟨_, H1.out.below h'.below⟩) (by omega) (by omega) hc6 k1 k hk).mono ?_
    rintro e w7 ⟨a, rfl, h8⟩
    clear h7
    obtain ⟨ps, hps⟩ : ∃ ps, ps = xs.take k := ⟨_, rfl⟩
    obtain ⟨vs, hvs⟩ : ∃ vs, vs = x1.take k := ⟨_, rfl⟩
    rw [← hps, ← hvs] at h8
    have hx1l : x1.length = n1 := by have := H1.out.len; simpa using this
    have hpl : ps.length = k := by rw [hps]; have := HX.out.2.1; simp; omega
    have hvl : vs.length = k := by rw [hvs]; simp; omega
    have HP : Hid (∀ i, i < k → ∃ (zn : Nat) (x : Int), zn < 8 ∧ ps.getD i 0 = zn ∧ (xs.map (Value.int .i64))[i]? = some (.int .i64 zn) ∧ x1.getD i 0 = x ∧ CK ps vs (i + 1) 1 = (CK ps vs i 1).set zn x) := hid fun i hi => by
      have h1 : i < xs.length := by have := HX.out.2.1; omega
      have h2 : i < x1.length := by omega
      have hb := HX.out.2.2 _ (getD_mem h1)
      obtain ⟨zn, hzn⟩ : ∃ zn : Nat, xs.getD i 0 = zn := ⟨(xs.getD i 0).toNat, by omega⟩
      have hpz : ps.getD i 0 = zn := by
        have h3 : i < (xs.take k).length := by rw [← hps, hpl]; exact hi
        rw [hps, getD_at h3, List.getElem_take, ← getD_at h1, hzn]
      have hvz : vs.getD i 0 = x1.getD i 0 := by
        have h3 : i < (x1.take k).length := by rw [← hvs, hvl]; exact hi
        rw [hvs, getD_at h3, List.getElem_take, ← getD_at h2]
      refine ⟨zn, _, by omega, hpz, ?_, rfl, ?_⟩
      · rw [List.getElem?_map, List.getElem?_eq_getElem h1, ← getD_at h1, hzn]; rfl
      · rw [CK_set ps vs i zn hpz (by omega), hvz]
    have HL := hid (And.intro hpl hvl)
    obtain ⟨xl, h9⟩ := (h8.pk5 [4, 2, 1, 0, 3]).refOpen
    have q13 := h9.blk.some_ (i := 13) rfl
    have q1 := h9.drop.rest.blk.some_ (i := 1) rfl
    clear hps hvs h8 hx1l hpl hvl
    go_wp2_with fail
    refine (twin_words w _ _ (xl.A 1) (ws0 1).length (xl.c 1) (ws0 1) h9 (fun w' h' => by obtain ⟨_, hR, _⟩ := h'.refRow1; exact ⟨_, hR.rowReads⟩) (by decide)).mono ?_
    rintro e w8 ⟨AT, cT, rfl, h10⟩
    have h11 : Hold w w8 (refF r cf17 ws0 xl (rowA 43 (.slice AT (ws0 1).length cT) (ws0 1).length ((ws0 1).map (Value.int .u64)) * (prA gp m r * (slA A6 N c6 (xs.map (Value.int .i64)) * (wrA a ps vs * (memA m ws0 * Asr.emp)))))) := by
      exact ((h10.imp (Imp.swap _ _ _)).imp (Imp.under _ (Imp.inSep _ _ _)))
    have H9 : Hid (Hold w w8 (rowA 43 (.slice AT (ws0 1).length cT) (ws0 1).length (((CK ps vs 0) 1).map (Value.int .u64)) * (slA A6 N c6 (xs.map (Value.int .i64)) * (prA gp m r * (wrA a ps vs * (memA m ws0 * (refA r cf17 ws0 * Asr.emp))))))) := hid (h11.refShut.pk6 [1, 3, 2, 4, 5, 0])
    clear h9 h10 h11 q13 q1
    rcases Nat.lt_or_ge n1 N with hnm | hnm
    · skip
      have hkQ : k ≤ n1 ∧ n1 ≤ k ∧ k ≤ N ∧ k ≤ n1 ∧ k ≤ 12 := by omega
      clear hk
      go_wp2_with fail
      go_loopw [11] (fun s wr => ∃ i : Nat, i ≤ k ∧ s = .int .i64 i ∧ Hold w wr (rowA 43 (.slice AT (ws0 1).length cT) (ws0 1).length (((CK ps vs i) 1).map (Value.int .u64)) * (slA A6 N c6 (xs.map (Value.int .i64)) * (prA gp m r * (wrA a ps vs * (memA m ws0 * (refA r cf17 ws0 * Asr.emp))))))) (fun s _ => k - (intOf s).toNat)
      case atStart => exact ⟨0, by omega, rfl, H9.out⟩
      case round =>
        clear H9
        obtain ⟨i, hi, rfl, h10⟩ := hrel
        by_cases hlt : i < k
        · have e2 : decide ((i : Int) < (n1 : Int)) = true := decide_eq_true (by omega)
          obtain ⟨zn, x, hz8, hps, hpz, hvx, hcs⟩ := HP.out i hlt
          obtain ⟨ad, hA6, hat⟩ := (h10.pk2 [1, 0]).slAt2 (k := i) (by omega)
          obtain ⟨bd, hA1, _⟩ := H1.out.numAt (i := i) (by omega)
          subst hA6 hA1
          obtain ⟨gt, hgt, hc0, hft, hst⟩ := h10.setRow (k := zn) (by rw [show (ws0 1).length = 8 from rfl]; omega)
          subst hgt
          clear hc0
          rw [hpz] at hat
          have HST := hid hst
          have c1 := hat wr _ (h10.pk2 [1, 0])
          obtain ⟨bd', hbd, _, hc⟩ := (H1.out.below h10.below).numAt (i := i) (by omega)
          injection hbd with hbd
          subst hbd
          rw [hvx] at hc
          have ct := (row_at h10.row (k := zn) (by rw [show (ws0 1).length = 8 from rfl]; omega))
          obtain ⟨gt', hgt', hg0, hct, hft', hs0⟩ := ct
          clear hs0 hg0
          injection hgt' with hgt'
          injection hgt' with hgt'
          subst hgt'
          have hxz : (((CK ps vs i) 1).map (Value.int .u64))[zn]? = some (.int .u64 (((CK ps vs i) 1).getD zn 0)) := by
            have hl : zn < ((CK ps vs i) 1).length := by rw [CK_len]; exact hz8
            rw [List.getElem?_map, List.getElem?_eq_getElem hl, getD_at hl]; rfl
          rw [hxz] at hct
          generalize ((CK ps vs i) 1).getD zn 0 = old at hct
          have i0 : (0 : Int) ≤ (i : Int) := by omega
          have i1 : (i : Int) < (N : Int) := by omega
          have i2 : (i : Int) < (n1 : Int) := by omega
          have i3 : (0 : Int) ≤ (zn : Int) := by omega
          have i4 : (zn : Int) < ((ws0 1).length : Int) := by rw [show ((ws0 1).length : Int) = 8 from rfl]; omega
          have HAT : Hid (∀ w' R', Hold w w' (slA (some ad) N c6 (xs.map (Value.int .i64)) * R') → w'.cell? (ad.add i) = some (.int .i64 zn)) := hid hat
          have HBT : Hid (∀ w', Below w.heap.size w w' → w'.cell? (bd.add i) = some (.int .u64 x)) := hid fun w' hb => by
            obtain ⟨bd2, hbd2, _, hc2⟩ := (H1.out.below hb).numAt (i := i) (by omega)
            injection hbd2 with hbd2
            subst hbd2
            rw [hvx] at hc2
            exact hc2
          have HCS := hid hcs
          clear hft hst hat hxz hps hpz hvx hc hcs c1
          go_wp2_with fail
          have h11 := h10.drew
          clear h10
          refine wp_region_brk [10] (by kernel_rfl) ?_
          refine wpAnyB_now (fun w' => Hold w w' (rowA 43 (.slice (some ⟨gt, 0, none⟩) (ws0 1).length cT) (ws0 1).length (((CK ps vs i) 1).map (Value.int .u64)) * (slA (some ad) N c6 (xs.map (Value.int .i64)) * (prA gp m r * (wrA a ps vs * (memA m ws0 * (refA r cf17 ws0 * Asr.emp))))))) (fun _ _ => trivial) _ _ _ _ ?_
          refine' wpAnyB_bulk [true, true, true, true, true, true, true, true, true, true] 90 (listed' := #[true, true, true, true, true, true, true, true, true, true, false]) rfl (by kernel_rfl) (by kernel_rfl) (by kernel_rfl) (by kernel_rfl) (by kernel_rfl) (by kernel_rfl) (by decide) (fun _ _ _ _ h => h) rfl h11 (fun wq hq => ?_) ?_; rotate_left 1
          · simp only [maskL]
            have q4 := HAT.out wq _ (hq.pk2 [1, 0])
            have q5 := HBT.out wq hq.below
            repeat (go_big_quiet_step (fail))
            exact wpQuiet_nil rfl
          refine wpAnyB_brk [false, false, false, false, false, false, false, false, false, false, true] (fuel := 0) (by rfl) (by rfl) (by kernel_rfl) (by kernel_rfl) (fun QB hQB hQX => ?_)
          simp only [maskL]
          go_wp2_with fail
          refine hQB.out _ _ ?_
          clear hQB hQX QB
          refine wpAnyB_forget (by kernel_rfl) ?_
          refine wpAnyB_done (by kernel_rfl) ?_ _
          clear hct hft' h11
          have H12 := hid (HST.out (.int .u64 x)).drew
          go_wp2_with fail
          go_round
          case rel => exact ⟨i + 1, by omega, by go_num, by rw [HCS.out, List.map_set]; exact H12.out⟩
          case measure => simp [intOf]; omega
        · obtain rfl : i = k := by omega
          have e2 : decide ((i : Int) < (n1 : Int)) = false := decide_eq_false (by omega)
          have e2n : decide (i < n1) = false := decide_eq_false (by omega)
          have h11 : Hold w wr (wrA a (ps.drop 0) (vs.drop 0) * (memA m (CK ps vs 0) * (rowA 43 (.slice AT (ws0 1).length cT) (ws0 1).length (((CK ps vs i) 1).map (Value.int .u64)) * (prA gp m r * (refA r cf17 ws0 * Asr.emp))))) := h10.pk6 [3, 4, 0, 2, 5]
          have H11 := hid h11
          have e7 : (i == n1) = true := by simp; omega
          have e8 : ((i : Int) == (n1 : Int)) = true := by simp; omega
          clear h10 h11
          go_wp2_with fail
          go_loopw [12] (fun s wr => ∃ j : Nat, j ≤ i ∧ s = .int .i64 j ∧ Hold w wr (wrA a (ps.drop j) (vs.drop j) * (memA m (CK ps vs j) * (rowA 43 (.slice AT (ws0 1).length cT) (ws0 1).length (((CK ps vs i) 1).map (Value.int .u64)) * (prA gp m r * (refA r cf17 ws0 * Asr.emp)))))) (fun s _ => i - (intOf s).toNat)
          case atStart => exact ⟨0, by omega, rfl, H11.out⟩
          case round =>
            clear H11
            obtain ⟨j, hj, rfl, h10⟩ := hrel
            by_cases hlt : j < i
            · have e3 : decide ((j : Int) < 20) = true := decide_eq_true (by omega)
              have hjp : j < ps.length := by have := HL.out.1; omega
              have hjv : j < vs.length := by have := HL.out.2; omega
              obtain ⟨zn, x, hz8, hpz, _⟩ := HP.out j hlt
              have hpd : ps.drop j = ps.getD j 0 :: ps.drop (j + 1) := by rw [getD_at hjp]; exact List.drop_eq_getElem_cons hjp
              have hvd : vs.drop j = vs.getD j 0 :: vs.drop (j + 1) := by rw [getD_at hjv]; exact List.drop_eq_getElem_cons hjv
              have hC : CK ps vs (j + 1) = opC (CK ps vs j) 1 (ps.getD j 0) (vs.getD j 0) true := rfl
              rw [hpd, hvd] at h10
              obtain ⟨pz, hpz2⟩ : ∃ pz, pz = ps.getD j 0 := ⟨_, rfl⟩
              obtain ⟨vz, hvz2⟩ : ∃ vz, vz = vs.getD j 0 := ⟨_, rfl⟩
              rw [← hpz2, ← hvz2] at h10 hC
              have hpr : -9223372036854775808 ≤ pz ∧ pz ≤ 9223372036854775807 := by rw [hpz2, hpz]; omega
              have HC := hid hC
              have p0 := h10.drop.drop.drop.blk.some_ (i := 0) rfl
              clear hpd hvd hC hpz2 hvz2 hpz
              go_wp2_with fail
              refine (wr_done w _ _ a (pz :: ps.drop (j + 1)) (vz :: vs.drop (j + 1)) h10).mono ?_
              rintro e w' ⟨rfl, rfl⟩
              rw [show (pz :: ps.drop (j + 1)).isEmpty = false from rfl]
              go_wp2_with fail
              refine (wr_step w _ _ a m (CK ps vs j) pz vz (ps.drop (j + 1)) (vs.drop (j + 1)) h10 (CK_ok _ _ _) hpr).mono ?_
              rintro e w11 ⟨rfl, h12⟩
              rw [← HC.out] at h12
              have H12 := hid h12
              clear h10 h12 p0
              go_wp2_with fail
              go_round
              case rel => exact ⟨j + 1, by omega, by go_num, H12.out⟩
              case measure => simp [intOf]; omega
            · obtain rfl : j = i := by omega
              have hpd : ps.drop j = [] := by rw [← HL.out.1]; simp
              rw [hpd] at h10
              have p0 := h10.drop.drop.drop.blk.some_ (i := 0) rfl
              clear hpd
              go_wp2_with fail
              refine (wr_done w _ _ a [] (vs.drop j) h10).mono ?_
              rintro e w' ⟨rfl, rfl⟩
              rw [show ([] : List Int).isEmpty = true from rfl]
              go_wp2_with fail
              refine (image_any w _ _ m (CK ps vs j) h10.swap (CK_ok _ _ _)).mono ?_
              rintro e w11 ⟨y, rfl, h12⟩
              have fd := field_data17 (slV (CK ps vs j) y 1) (slV (CK ps vs j) y 2) (.int .u64 (w1 (CK ps vs j) 3)) (.int .u64 (w1 (CK ps vs j) 4)) (.int .u64 (w1 (CK ps vs j) 5)) (slV (CK ps vs j) y 6) (slV (CK ps vs j) y 7) (slV (CK ps vs j) y 8) w11
              unfold imgV
              have hr1 := h12.rowReads
              have hr2 := h12.rest.drop.drop.rowReads
              rw [CK_len] at hr1
              have hsl : slV (CK ps vs j) y 1 = .slice (y.A 1) (ws0 1).length (y.c 1) := by unfold slV; rw [CK_len]
              rw [hsl] at fd ⊢
              have HR1 := hid hr1
              have HR2 := hid hr2
              have h13 := h12.rest
              clear h10 h12 p0 hr1 hr2 hsl
              go_wp2_with fail
              refine (words_any _ _ _ _ _ _ _ _ _ (CK ps vs j 1) (CK ps vs j 1) HR1.out HR2.out (by decide)).mono ?_
              rintro e w12 ⟨rfl, q, rfl⟩
              rw [decide_eq_true (rfl : CK ps vs j 1 = CK ps vs j 1)]
              have h14 := h13.drewN q
              clear h13 fd
              go_wp2_with fail
              refine (awake17_any w _ _ h14).mono ?_
              rintro e w13 ⟨rfl, h15⟩
              have H15 := hid h15.below
              clear h14 h15
              go_wp2_with fail
              go_ret
              exact ⟨rfl, H15.out⟩
    · skip
      have hkQ : k ≤ N ∧ N ≤ k ∧ k ≤ N ∧ k ≤ n1 ∧ k ≤ 12 := by omega
      clear hk
      go_wp2_with fail
      go_loopw [11] (fun s wr => ∃ i : Nat, i ≤ k ∧ s = .int .i64 i ∧ Hold w wr (rowA 43 (.slice AT (ws0 1).length cT) (ws0 1).length (((CK ps vs i) 1).map (Value.int .u64)) * (slA A6 N c6 (xs.map (Value.int .i64)) * (prA gp m r * (wrA a ps vs * (memA m ws0 * (refA r cf17 ws0 * Asr.emp))))))) (fun s _ => k - (intOf s).toNat)
      case atStart => exact ⟨0, by omega, rfl, H9.out⟩
      case round =>
        clear H9
        obtain ⟨i, hi, rfl, h10⟩ := hrel
        by_cases hlt : i < k
        · have e2 : decide ((i : Int) < (N : Int)) = true := decide_eq_true (by omega)
          obtain ⟨zn, x, hz8, hps, hpz, hvx, hcs⟩ := HP.out i hlt
          obtain ⟨ad, hA6, hat⟩ := (h10.pk2 [1, 0]).slAt2 (k := i) (by omega)
          obtain ⟨bd, hA1, _⟩ := H1.out.numAt (i := i) (by omega)
          subst hA6 hA1
          obtain ⟨gt, hgt, hc0, hft, hst⟩ := h10.setRow (k := zn) (by rw [show (ws0 1).length = 8 from rfl]; omega)
          subst hgt
          clear hc0
          rw [hpz] at hat
          have HST := hid hst
          have c1 := hat wr _ (h10.pk2 [1, 0])
          obtain ⟨bd', hbd, _, hc⟩ := (H1.out.below h10.below).numAt (i := i) (by omega)
          injection hbd with hbd
          subst hbd
          rw [hvx] at hc
          have ct := (row_at h10.row (k := zn) (by rw [show (ws0 1).length = 8 from rfl]; omega))
          obtain ⟨gt', hgt', hg0, hct, hft', hs0⟩ := ct
          clear hs0 hg0
          injection hgt' with hgt'
          injection hgt' with hgt'
          subst hgt'
          have hxz : (((CK ps vs i) 1).map (Value.int .u64))[zn]? = some (.int .u64 (((CK ps vs i) 1).getD zn 0)) := by
            have hl : zn < ((CK ps vs i) 1).length := by rw [CK_len]; exact hz8
            rw [List.getElem?_map, List.getElem?_eq_getElem hl, getD_at hl]; rfl
          rw [hxz] at hct
          generalize ((CK ps vs i) 1).getD zn 0 = old at hct
          have i0 : (0 : Int) ≤ (i : Int) := by omega
          have i1 : (i : Int) < (N : Int) := by omega
          have i2 : (i : Int) < (n1 : Int) := by omega
          have i3 : (0 : Int) ≤ (zn : Int) := by omega
          have i4 : (zn : Int) < ((ws0 1).length : Int) := by rw [show ((ws0 1).length : Int) = 8 from rfl]; omega
          have HAT : Hid (∀ w' R', Hold w w' (slA (some ad) N c6 (xs.map (Value.int .i64)) * R') → w'.cell? (ad.add i) = some (.int .i64 zn)) := hid hat
          have HBT : Hid (∀ w', Below w.heap.size w w' → w'.cell? (bd.add i) = some (.int .u64 x)) := hid fun w' hb => by
            obtain ⟨bd2, hbd2, _, hc2⟩ := (H1.out.below hb).numAt (i := i) (by omega)
            injection hbd2 with hbd2
            subst hbd2
            rw [hvx] at hc2
            exact hc2
          have HCS := hid hcs
          clear hft hst hat hxz hps hpz hvx hc hcs c1
          go_wp2_with fail
          have h11 := h10.drew
          clear h10
          refine wp_region_brk [10] (by kernel_rfl) ?_
          refine wpAnyB_now (fun w' => Hold w w' (rowA 43 (.slice (some ⟨gt, 0, none⟩) (ws0 1).length cT) (ws0 1).length (((CK ps vs i) 1).map (Value.int .u64)) * (slA (some ad) N c6 (xs.map (Value.int .i64)) * (prA gp m r * (wrA a ps vs * (memA m ws0 * (refA r cf17 ws0 * Asr.emp))))))) (fun _ _ => trivial) _ _ _ _ ?_
          refine' wpAnyB_bulk [true, true, true, true, true, true, true, true, true, true] 90 (listed' := #[true, true, true, true, true, true, true, true, true, true, false]) rfl (by kernel_rfl) (by kernel_rfl) (by kernel_rfl) (by kernel_rfl) (by kernel_rfl) (by kernel_rfl) (by decide) (fun _ _ _ _ h => h) rfl h11 (fun wq hq => ?_) ?_; rotate_left 1
          · simp only [maskL]
            have q4 := HAT.out wq _ (hq.pk2 [1, 0])
            have q5 := HBT.out wq hq.below
            repeat (go_big_quiet_step (fail))
            exact wpQuiet_nil rfl
          refine wpAnyB_brk [false, false, false, false, false, false, false, false, false, false, true] (fuel := 0) (by rfl) (by rfl) (by kernel_rfl) (by kernel_rfl) (fun QB hQB hQX => ?_)
          simp only [maskL]
          go_wp2_with fail
          refine hQB.out _ _ ?_
          clear hQB hQX QB
          refine wpAnyB_forget (by kernel_rfl) ?_
          refine wpAnyB_done (by kernel_rfl) ?_ _
          clear hct hft' h11
          have H12 := hid (HST.out (.int .u64 x)).drew
          go_wp2_with fail
          go_round
          case rel => exact ⟨i + 1, by omega, by go_num, by rw [HCS.out, List.map_set]; exact H12.out⟩
          case measure => simp [intOf]; omega
        · obtain rfl : i = k := by omega
          have e2 : decide ((i : Int) < (N : Int)) = false := decide_eq_false (by omega)
          have e2n : decide (i < N) = false := decide_eq_false (by omega)
          have h11 : Hold w wr (wrA a (ps.drop 0) (vs.drop 0) * (memA m (CK ps vs 0) * (rowA 43 (.slice AT (ws0 1).length cT) (ws0 1).length (((CK ps vs i) 1).map (Value.int .u64)) * (prA gp m r * (refA r cf17 ws0 * Asr.emp))))) := h10.pk6 [3, 4, 0, 2, 5]
          have H11 := hid h11
          have e7 : (i == N) = true := by simp; omega
          have e8 : ((i : Int) == (N : Int)) = true := by simp; omega
          clear h10 h11
          go_wp2_with fail
          go_loopw [12] (fun s wr => ∃ j : Nat, j ≤ i ∧ s = .int .i64 j ∧ Hold w wr (wrA a (ps.drop j) (vs.drop j) * (memA m (CK ps vs j) * (rowA 43 (.slice AT (ws0 1).length cT) (ws0 1).length (((CK ps vs i) 1).map (Value.int .u64)) * (prA gp m r * (refA r cf17 ws0 * Asr.emp)))))) (fun s _ => i - (intOf s).toNat)
          case atStart => exact ⟨0, by omega, rfl, H11.out⟩
          case round =>
            clear H11
            obtain ⟨j, hj, rfl, h10⟩ := hrel
            by_cases hlt : j < i
            · have e3 : decide ((j : Int) < 20) = true := decide_eq_true (by omega)
              have hjp : j < ps.length := by have := HL.out.1; omega
              have hjv : j < vs.length := by have := HL.out.2; omega
              obtain ⟨zn, x, hz8, hpz, _⟩ := HP.out j hlt
              have hpd : ps.drop j = ps.getD j 0 :: ps.drop (j + 1) := by rw [getD_at hjp]; exact List.drop_eq_getElem_cons hjp
              have hvd : vs.drop j = vs.getD j 0 :: vs.drop (j + 1) := by rw [getD_at hjv]; exact List.drop_eq_getElem_cons hjv
              have hC : CK ps vs (j + 1) = opC (CK ps vs j) 1 (ps.getD j 0) (vs.getD j 0) true := rfl
              rw [hpd, hvd] at h10
              obtain ⟨pz, hpz2⟩ : ∃ pz, pz = ps.getD j 0 := ⟨_, rfl⟩
              obtain ⟨vz, hvz2⟩ : ∃ vz, vz = vs.getD j 0 := ⟨_, rfl⟩
              rw [← hpz2, ← hvz2] at h10 hC
              have hpr : -9223372036854775808 ≤ pz ∧ pz ≤ 9223372036854775807 := by rw [hpz2, hpz]; omega
              have HC := hid hC
              have p0 := h10.drop.drop.drop.blk.some_ (i := 0) rfl
              clear hpd hvd hC hpz2 hvz2 hpz
              go_wp2_with fail
              refine (wr_done w _ _ a (pz :: ps.drop (j + 1)) (vz :: vs.drop (j + 1)) h10).mono ?_
              rintro e w' ⟨rfl, rfl⟩
              rw [show (pz :: ps.drop (j + 1)).isEmpty = false from rfl]
              go_wp2_with fail
              refine (wr_step w _ _ a m (CK ps vs j) pz vz (ps.drop (j + 1)) (vs.drop (j + 1)) h10 (CK_ok _ _ _) hpr).mono ?_
              rintro e w11 ⟨rfl, h12⟩
              rw [← HC.out] at h12
              have H12 := hid h12
              clear h10 h12 p0
              go_wp2_with fail
              go_round
              case rel => exact ⟨j + 1, by omega, by go_num, H12.out⟩
              case measure => simp [intOf]; omega
            · obtain rfl : j = i := by omega
              have hpd : ps.drop j = [] := by rw [← HL.out.1]; simp
              rw [hpd] at h10
              have p0 := h10.drop.drop.drop.blk.some_ (i := 0) rfl
              clear hpd
              go_wp2_with fail
              refine (wr_done w _ _ a [] (vs.drop j) h10).mono ?_
              rintro e w' ⟨rfl, rfl⟩
              rw [show ([] : List Int).isEmpty = true from rfl]
              go_wp2_with fail
              refine (image_any w _ _ m (CK ps vs j) h10.swap (CK_ok _ _ _)).mono ?_
              rintro e w11 ⟨y, rfl, h12⟩
              have fd := field_data17 (slV (CK ps vs j) y 1) (slV (CK ps vs j) y 2) (.int .u64 (w1 (CK ps vs j) 3)) (.int .u64 (w1 (CK ps vs j) 4)) (.int .u64 (w1 (CK ps vs j) 5)) (slV (CK ps vs j) y 6) (slV (CK ps vs j) y 7) (slV (CK ps vs j) y 8) w11
              unfold imgV
              have hr1 := h12.rowReads
              have hr2 := h12.rest.drop.drop.rowReads
              rw [CK_len] at hr1
              have hsl : slV (CK ps vs j) y 1 = .slice (y.A 1) (ws0 1).length (y.c 1) := by unfold slV; rw [CK_len]
              rw [hsl] at fd ⊢
              have HR1 := hid hr1
              have HR2 := hid hr2
              have h13 := h12.rest
              clear h10 h12 p0 hr1 hr2 hsl
              go_wp2_with fail
              refine (words_any _ _ _ _ _ _ _ _ _ (CK ps vs j 1) (CK ps vs j 1) HR1.out HR2.out (by decide)).mono ?_
              rintro e w12 ⟨rfl, q, rfl⟩
              rw [decide_eq_true (rfl : CK ps vs j 1 = CK ps vs j 1)]
              have h14 := h13.drewN q
              clear h13 fd
              go_wp2_with fail
              refine (awake17_any w _ _ h14).mono ?_
              rintro e w13 ⟨rfl, h15⟩
              have H15 := hid h15.below
              clear h14 h15
              go_wp2_with fail
              go_ret
              exact ⟨rfl, H15.out⟩
end Go.Proofs.Ytddghhddafeojaa
