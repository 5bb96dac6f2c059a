/- The reference's limbo: Take; its drain (strongtxref09): NewDrain, begin, Done, Step; a drain of both, step by step. -/
import Derived.Test.YtopcnaakdldkpaaRlm
import Derived.Test.YtopcnaakdldkpaaLim4
namespace Go.Proofs.Ytopcnaakdldkpaa
open Go.RowKit
set_option linter.unusedVariables false
theorem outE_snoc (lim : Int) (es : List (Int × Int)) (e : Int × Int) : outE lim (es ++ [e]) = if e.2 ≤ lim then outE lim es ++ [e] else outE lim es := by
  unfold outE
  rw [List.filter_append]
  by_cases h : e.2 ≤ lim <;> simp [h]
theorem keptE_snoc (lim : Int) (es : List (Int × Int)) (e : Int × Int) : keptE lim (es ++ [e]) = if lim < e.2 then keptE lim es ++ [e] else keptE lim es := by
  unfold keptE
  rw [List.filter_append]
  by_cases h : lim < e.2 <;> simp [h]
theorem outE_le (lim : Int) (es : List (Int × Int)) : (outE lim es).length ≤ es.length := List.length_filter_le _ _
theorem keptE_le (lim : Int) (es : List (Int × Int)) : (keptE lim es).length ≤ es.length := List.length_filter_le _ _
set_option maxRecDepth 8000 in
set_option maxHeartbeats 16000000 in
theorem rl_take (w0 w : World) (R : Asr) (g : Nat) (es : List (Int × Int)) (lim : Int) (h : Hold w0 w (rlA g es * R)) (he : es.length ≤ 1000) :
    Calls Try.prog 17 #[.pointer (some ⟨g, 0, none⟩), .int .i64 lim] w fun e w' => ∃ A c, e = .returned (.slice A (outE lim es).length c) ∧ Hold w0 w' (queA 3 (.slice A (outE lim es).length c) (bI (outE lim es)) * (rlA g (keptE lim es) * R)) := by
  obtain ⟨iI, hiI, iz0, iz1, iz2⟩ := parts5L info_int18
  obtain ⟨n, hn⟩ : ∃ n, n = es.length := ⟨_, rfl⟩
  obtain ⟨A, c, A', c', h⟩ := rlOpen h
  rw [← hn] at h he
  have HN := hid hn
  clear hn
  have h0 := ((h.nilQue 3).nilQue 3).nilQue 3
  clear h
  have q13 := h0.drop.drop.drop.blk.some_ (i := 13) rfl
  go_enter Try.func17, Try.ntmps17
  go_wp2_with fail
  go_loopw [5, 6, 7, 8] (fun v5 v6 v7 i wr => ∃ (k : Nat) (A5 A6 A7 : Option Addr) (c5 c6 c7 : Nat), k ≤ n ∧ i = .int .i64 (k : Int) ∧ v5 = .slice A5 (outE lim (es.take k)).length c5 ∧ v6 = .slice A6 (keptE lim (es.take k)).length c6 ∧ v7 = .slice A7 (keptE lim (es.take k)).length c7 ∧ Hold w0 wr (queA 3 v5 (bI (outE lim (es.take k))) * (queA 3 v6 (bI (keptE lim (es.take k))) * (queA 3 v7 (vI (keptE lim (es.take k))) * (blkA 61 g (rlC (.slice A n c) (.slice A' n c')) * (queA 3 (.slice A n c) (bI es) * (queA 3 (.slice A' n c') (vI es) * R))))))) (fun _ _ _ i _ => n - (intOf i).toNat)
  case atStart => exact ⟨0, none, none, none, 0, 0, 0, Nat.zero_le _, rfl, rfl, rfl, rfl, h0⟩
  case round =>
    clear h0 q13
    obtain ⟨k, A5, A6, A7, c5, c6, c7, hk, rfl, rfl, rfl, rfl, h⟩ := hrel
    have q13 := h.drop.drop.drop.blk.some_ (i := 13) rfl
    have q14 := h.drop.drop.drop.blk.some_ (i := 14) rfl
    by_cases hlt : k < n
    · have e1 : decide ((k : Int) < (n : Int)) = true := decide_eq_true (by omega)
      have e1' : decide (k < n) = true := decide_eq_true hlt
      have hkl : k < es.length := by rw [← HN.out]; exact hlt
      obtain ⟨x, hx⟩ : ∃ x, x = es[k] := ⟨_, rfl⟩
      have hxk : es[k]? = some x := by rw [hx]; exact List.getElem?_eq_getElem hkl
      have ht : es.take (k + 1) = es.take k ++ [x] := by rw [hx]; exact (List.take_append_getElem hkl).symm
      obtain ⟨-, -, b, hr⟩ := h.drop.drop.drop.drop.queRd
      obtain ⟨ad, hA, -, -⟩ := hr.cellAt hlt
      obtain ⟨-, -, b', hr'⟩ := h.drop.drop.drop.drop.drop.queRd
      obtain ⟨ad', hA', -, -⟩ := hr'.cellAt hlt
      subst hA hA'
      have d0 : wr.cell? (ad.add k) = some (.int .i64 x.1) := h.drop.drop.drop.drop.queAt (by rw [List.getElem?_map, hxk]; rfl)
      have d1 : wr.cell? (ad'.add k) = some (.int .i64 x.2) := h.drop.drop.drop.drop.drop.queAt (by rw [List.getElem?_map, hxk]; rfl)
      have hcl : ∀ w' p q s Z, Hold w0 w' (p * (q * (s * (blkA 61 g (rlC (.slice (some ad) n c) (.slice (some ad') n c')) * (queA 3 (.slice (some ad) n c) (bI es) * (queA 3 (.slice (some ad') n c') (vI es) * Z)))))) → w'.cell? ⟨g, 13, none⟩ = some (.slice (some ad) n c) ∧ w'.cell? ⟨g, 14, none⟩ = some (.slice (some ad') n c') ∧ w'.cell? (ad.add k) = some (.int .i64 x.1) ∧ w'.cell? (ad'.add k) = some (.int .i64 x.2) := fun w' p q s Z h => ⟨h.drop.drop.drop.blk.some_ rfl, h.drop.drop.drop.blk.some_ rfl, h.drop.drop.drop.drop.queAt (by rw [List.getElem?_map, hxk]; rfl), h.drop.drop.drop.drop.drop.queAt (by rw [List.getElem?_map, hxk]; rfl)⟩
      have HCL := hid hcl
      have HT := hid ht
      have k0 : (0 : Int) ≤ (k : Int) := by omega
      have k1 : (k : Int) < (n : Int) := by omega
      have l1 := outE_le lim (es.take k)
      have l2 := keptE_le lim (es.take k)
      have l3 : (es.take k).length ≤ 1000 := by rw [List.length_take]; omega
      have L : Hid ((bI (outE lim (es.take k))).length ≤ 1000000 ∧ (bI (keptE lim (es.take k))).length ≤ 1000000 ∧ (vI (keptE lim (es.take k))).length ≤ 1000000) := hid ⟨by rw [bI_len]; omega, by rw [bI_len]; omega, by rw [vI_len]; omega⟩
      obtain ⟨x1, x2⟩ := x
      simp only at d0 d1
      clear hr hr' ht hx hxk hcl l1 l2 l3
      generalize hks : keptE lim (es.take k) = ks at *
      generalize hos : outE lim (es.take k) = os at *
      have HK := hid hks
      have HO := hid hos
      clear hks hos
      obtain ⟨nk, hnk⟩ : ∃ nk, nk = ks.length := ⟨_, rfl⟩
      obtain ⟨no, hno⟩ : ∃ no, no = os.length := ⟨_, rfl⟩
      rw [← hnk, ← hno] at h
      have HNK := hid (And.intro hnk hno)
      rw [← hnk, ← hno]
      clear hnk hno
      by_cases hp : x2 ≤ lim
      · have e2 : decide (x2 ≤ lim) = true := decide_eq_true hp
        go_wp2_with (at_builtin; refine wpList_que rfl _ _ 39 rfl iI (.int .i64 0) 8 Try.underlying39 hiI iz0 iz1 iz2 rfl (.int .i64 x1) _ rfl h rfl rfl L.out.1 (by decide) ?_)
        intro v5 w3 h5
        obtain ⟨A8, c8, hv⟩ := h5.queForm
        rw [List.length_append, bI_len, ← HNK.out.2, show no + [Value.int .i64 x1].length = no + 1 from rfl] at hv
        subst hv
        have H5 := hid h5
        clear h h5 d0 d1 q13 q14
        go_wp2_with fail
        go_roundw
        case rel =>
          have eO : outE lim (es.take (k + 1)) = os ++ [(x1, x2)] := by rw [HT.out, outE_snoc, HO.out]; exact if_pos hp
          have eK : keptE lim (es.take (k + 1)) = ks := by rw [HT.out, keptE_snoc, HK.out]; exact if_neg (by show ¬ lim < x2; omega)
          refine ⟨k + 1, A8, A6, A7, c8, c6, c7, by omega, by go_num, ?_, ?_, ?_, ?_⟩
          all_goals first | rw [eO] | rw [eK]
          · rw [List.length_append, ← HNK.out.2]; rfl
          · rw [← HNK.out.1]
          · rw [← HNK.out.1]
          · rw [eK]
            unfold bI
            rw [List.map_append]
            exact H5.out
        case measure => simp [intOf]; omega
      · have e2 : decide (x2 ≤ lim) = false := decide_eq_false hp
        have h2 := h.swap
        clear h
        go_wp2_with (at_builtin; refine wpList_que rfl _ _ 39 rfl iI (.int .i64 0) 8 Try.underlying39 hiI iz0 iz1 iz2 rfl (.int .i64 x1) _ rfl h2 rfl rfl L.out.2.1 (by decide) ?_)
        intro v5 w3 h5
        obtain ⟨A8, c8, hv⟩ := h5.queForm
        rw [List.length_append, bI_len, ← HNK.out.1, show nk + [Value.int .i64 x1].length = nk + 1 from rfl] at hv
        subst hv
        clear h2 d0 d1 q13 q14
        obtain ⟨q13, q14, d0, d1⟩ := HCL.out _ _ _ _ _ h5
        have h6 := h5.pk3 [2, 1, 0]
        clear h5
        go_wp2_with (at_builtin; refine wpList_que rfl _ _ 39 rfl iI (.int .i64 0) 8 Try.underlying39 hiI iz0 iz1 iz2 rfl (.int .i64 x2) _ rfl h6 rfl rfl L.out.2.2 (by decide) ?_)
        intro v7 w4 h7
        obtain ⟨A9, c9, hv⟩ := h7.queForm
        rw [List.length_append, vI_len, ← HNK.out.1, show nk + [Value.int .i64 x2].length = nk + 1 from rfl] at hv
        subst hv
        have H7 := hid (h7.pk3 [1, 2, 0])
        clear h6 h7 d0 d1 q13 q14
        go_wp2_with fail
        go_roundw
        case rel =>
          have eO : outE lim (es.take (k + 1)) = os := by rw [HT.out, outE_snoc, HO.out]; exact if_neg (by show ¬ x2 ≤ lim; omega)
          have eK : keptE lim (es.take (k + 1)) = ks ++ [(x1, x2)] := by rw [HT.out, keptE_snoc, HK.out]; exact if_pos (by show lim < x2; omega)
          refine ⟨k + 1, A5, A8, A9, c5, c8, c9, by omega, by go_num, ?_, ?_, ?_, ?_⟩
          all_goals first | rw [eO] | rw [eK]
          · rw [← HNK.out.2]
          · rw [List.length_append, ← HNK.out.1]; rfl
          · rw [List.length_append, ← HNK.out.1]; rfl
          · rw [eK]
            unfold bI vI
            rw [List.map_append, List.map_append]
            exact H7.out
        case measure => simp [intOf]; omega
    · obtain rfl : k = n := by omega
      have e1 : decide ((k : Int) < (k : Int)) = false := decide_eq_false (by omega)
      rw [List.take_of_length_le (by rw [← HN.out]; exact Nat.le_refl _)] at h ⊢
      have h1 := h.pk4 [3, 0, 1, 2]
      have z13 := h1.blk.frozen 13
      have h2 := h1.setBlk 13 (.slice A6 (keptE lim es).length c6)
      have z14 := h2.blk.frozen 14
      have h3 := h2.setBlk 14 (.slice A7 (keptE lim es).length c7)
      have h4 : Hold w0 _ (blkA 61 g (rlC (.slice A6 (keptE lim es).length c6) (.slice A7 (keptE lim es).length c7)) * (queA 3 (.slice A6 (keptE lim es).length c6) (bI (keptE lim es)) * (queA 3 (.slice A7 (keptE lim es).length c7) (vI (keptE lim es)) * (queA 3 (.slice A5 (outE lim es).length c5) (bI (outE lim es)) * R)))) := h3.pk6 [0, 2, 3, 1]
      have H4 := hid ((rlClose h4).swap)
      clear h h1 h2 h3 h4
      go_wp2_with fail
      go_ret
      exact ⟨_, _, rfl, H4.out⟩
/-- The reference's drain: the blocks that are left, the push. -/
abbrev rdC (u v : Value) : Array Value := #[.int .i64 20, .int .i64 4, .int .i64 1, .int .i64 3, .int .i64 2, .int .i64 1, .int .i64 0, .int .i64 1, .int .i64 1, .int .i64 0, .int .i64 0, .int .i64 0, .bool false, u, v]
def ptrQ : Option QM → Value
  | none => .pointer none
  | some q => .pointer (some ⟨q.g, 0, none⟩)
def optQ : Option QM → Asr
  | none => Asr.emp
  | some q => rqA q
def rdA (d : Nat) (bs : List Nat) (p : Option QM) : Asr := Asr.ex fun u => blkA 52 d (rdC u (ptrQ p)) * (queA 3 u (oI bs) * optQ p)
theorem oI_len (bs : List Nat) : (oI bs).length = bs.length := by simp [toI]
theorem rdOpen {w0 w : World} {R : Asr} {d : Nat} {bs : List Nat} {p : Option QM} (h : Hold w0 w (rdA d bs p * R)) : ∃ A c, Hold w0 w (blkA 52 d (rdC (.slice A bs.length c) (ptrQ p)) * (queA 3 (.slice A bs.length c) (oI bs) * (optQ p * R))) := by
  obtain ⟨u, h⟩ := h.exOpen
  have h1 := h.part
  have h2 := h1.imp (Imp.under _ (Imp.assoc _ _ _))
  obtain ⟨A, c, e1⟩ := h2.drop.queForm
  rw [oI_len] at e1
  subst e1
  exact ⟨A, c, h2⟩
theorem rdClose {w0 w : World} {R : Asr} {d : Nat} {u : Value} {bs : List Nat} {p : Option QM} (h : Hold w0 w (blkA 52 d (rdC u (ptrQ p)) * (queA 3 u (oI bs) * (optQ p * R)))) : Hold w0 w (rdA d bs p * R) :=
  Hold.exClose (x := u) ((h.imp (Imp.under _ (Imp.assoc' _ _ _))).join)
/-- The push behind begin. -/
def RdB (bs : List Nat) (p p' : Option QM) : Prop := match bs with
  | [] => p' = p
  | b :: _ => ∃ g, p' = some ⟨g, fcls b, b, 0, 0⟩
set_option maxRecDepth 8000 in
set_option maxHeartbeats 16000000 in
theorem rd_begin (w0 w : World) (R : Asr) (d : Nat) (bs : List Nat) (p : Option QM) (h : Hold w0 w (rdA d bs p * R)) (hb : ∀ b ∈ bs, b < 6) :
    Calls Try.prog 38 #[.pointer (some ⟨d, 0, none⟩)] w fun e w' => ∃ p', e = .returned (.tuple #[]) ∧ RdB bs p p' ∧ Hold w0 w' (rdA d bs p' * R) := by
  obtain ⟨A, c, h⟩ := rdOpen h
  have q13 := h.blk.some_ (i := 13) rfl
  cases bs with
  | nil =>
    have H := hid (rdClose h)
    have e1 : decide ((0 : Int) < (([] : List Nat).length : Int)) = false := rfl
    clear h
    go_enter Try.func38, Try.ntmps38
    go_wp2_with fail
    go_end0
    exact ⟨p, rfl, rfl, H.out⟩
  | cons b bs =>
    have b6 : b < 6 := hb b (by simp)
    have hbI : I64b (b : Int) := by unfold I64b; omega
    have hlc : lcls (b : Int) = (fcls b : Nat) := by rw [lcls_nat (by omega), Int.toNat_natCast]
    have HLC := hid hlc
    obtain ⟨n, hn⟩ : ∃ n, n = bs.length := ⟨_, rfl⟩
    rw [List.length_cons, ← hn] at h q13
    have HN := hid hn
    clear hn hb hlc
    obtain ⟨ga, off, rfl, hat⟩ := queHead (x := .int .i64 (b : Int)) (xs := oI bs) h.drop
    have HAT := hid hat
    have e1 : decide ((0 : Int) < ((n : Int) + 1)) = true := decide_eq_true (by omega)
    clear hat
    go_enter Try.func38, Try.ntmps38
    go_upto_region 1 with fail
    clear q13
    replace h := h.drew
    replace h : Hold w0 w.drew (blkA 52 d (rdC (.slice (some ⟨ga, off, none⟩) (n + 1) c) (ptrQ p)) * (queA 3 (.slice (some ⟨ga, off, none⟩) (n + 1) c) (.int .i64 (b : Int) :: oI bs) * (optQ p * R))) := h
    refine wp_region_brk [21] (by kernel_rfl) ?_
    generalize hW : w.drew = W at h ⊢
    clear hW
    refine wpAnyB_now (fun w' => w'.cell? ⟨ga, off, none⟩ = some (.int .i64 (b : Int)) ∧ ∃ Z, Hold w0 w' (blkA 52 d (rdC (.slice (some ⟨ga, off, none⟩) (n + 1) c) (ptrQ p)) * Z)) (fun _ _ => trivial) _ _ _ _ ?_
    refine' wpAnyB_bulk [true, true, true, true, true, true, true, true, true, true, true, false, true, true, true, true, true, true] 29 (listed' := #[true, true, true, true, true, true, true, true, true, true, true, false, true, true, true, true, true, true, false, false, false, false]) rfl (by kernel_rfl) (by kernel_rfl) (by kernel_rfl) (by kernel_rfl) (by kernel_rfl) (by kernel_rfl) (by decide) (fun _ _ _ _ h => h) rfl ⟨HAT.out _ _ h.drop, _, h⟩ (fun wq hq => ?_) ?_; rotate_left 1
    · simp only [maskL]
      obtain ⟨qx, Z, hq⟩ := hq
      have q0 := hq.blk.some_ (i := 0) rfl
      have q1 := hq.blk.some_ (i := 1) rfl
      have q2 := hq.blk.some_ (i := 2) rfl
      have q3 := hq.blk.some_ (i := 3) rfl
      have q4 := hq.blk.some_ (i := 4) rfl
      have q5 := hq.blk.some_ (i := 5) rfl
      have q6 := hq.blk.some_ (i := 6) rfl
      have q7 := hq.blk.some_ (i := 7) rfl
      have q8 := hq.blk.some_ (i := 8) rfl
      have q9 := hq.blk.some_ (i := 9) rfl
      have q10 := hq.blk.some_ (i := 10) rfl
      have q11 := hq.blk.some_ (i := 11) rfl
      have q12 := hq.blk.some_ (i := 12) rfl
      have q13 := hq.blk.some_ (i := 13) rfl
      clear hq
      repeat (go_big_quiet_step (fail))
      exact wpQuiet_nil rfl
    refine wpAnyB_bar [false, false, false, false, false, false, false, false, false, false, false, true] (fuel := 4) (by rfl) (by rfl) (by kernel_rfl) (fun QB hQB hQX => ?_)
    simp only [maskL]
    go_wp2_with fail
    refine (rclass18 W b hbI).mono ?_
    rintro e y1 ⟨rfl, hc1⟩
    have h1 := h.chg0 hc1
    clear h hc1
    have h := h1
    clear h1
    go_wp2_with fail
    refine hQB.out _ _ ⟨HAT.out _ _ h.drop, _, h⟩ ?_
    clear hQB hQX QB
    refine wpAnyB_bar [false, false, false, false, false, false, false, false, false, false, false, false, false, false, false, false, false, false, true] (fuel := 3) (by rfl) (by rfl) (by kernel_rfl) (fun QB hQB hQX => ?_)
    simp only [maskL]
    go_wp2_with fail
    refine (qu_new w0 _ _ _ _ h).mono ?_
    rintro e y2 ⟨gq, rfl, h2⟩
    clear h
    have h : Hold w0 y2 (blkA 52 d (rdC (.slice (some ⟨ga, off, none⟩) (n + 1) c) (ptrQ p)) * (queA 3 (.slice (some ⟨ga, off, none⟩) (n + 1) c) (.int .i64 (b : Int) :: oI bs) * (quA gq (lcls (b : Int)) b 0 0 * R))) := h2.pk4 [1, 2, 0]
    clear h2
    go_wp2_with fail
    refine hQB.out _ _ ⟨HAT.out _ _ h.drop, _, h⟩ ?_
    clear hQB hQX QB
    refine' wpAnyB_bulkT [false, false, false, false, false, false, false, false, false, false, false, false, false, false, false, false, false, false, false, true, true] 29 (listed' := #[true, true, true, true, true, true, true, true, true, true, true, true, true, true, true, true, true, true, true, true, true, false]) rfl (by kernel_rfl) (by kernel_rfl) (by kernel_rfl) (by kernel_rfl) (by kernel_rfl) (by decide) (fun _ _ _ _ h => h) rfl ⟨HAT.out _ _ h.drop, _, h⟩ (fun wq _ => ?_) ?_; rotate_left 1
    · simp only [maskL]
      repeat (go_big_quiet_step (fail))
      exact wpQuiet_nil rfl
    refine wpAnyB_brk [false, false, false, false, false, false, false, false, false, false, false, false, false, false, false, false, false, false, false, false, false, true] (fuel := 0) (by rfl) (by rfl) (by kernel_rfl) (by kernel_rfl) (fun QB hQB hQX => ?_)
    simp only [maskL]
    have p2 := h.blk.some_ (i := 14) rfl
    have z2 := h.blk.frozen 14
    have H10 := hid (h.setBlk 14 (.pointer (some ⟨gq, 0, none⟩)))
    clear h
    go_wp2_with fail
    refine hQB.out _ _ ?_
    refine wpAnyB_forget (by kernel_rfl) ?_
    refine wpAnyB_done (by kernel_rfl) ?_ _
    have h10 := H10.out
    generalize hW : World.setCell _ _ _ = W4 at h10 ⊢
    clear hW H10
    clear hQB hQX QB p2 z2
    rw [HLC.out] at h10
    have H11 : Hid (Hold w0 W4 (rdA d (b :: bs) (some ⟨gq, fcls b, b, 0, 0⟩) * R)) := hid (rdClose (u := .slice (some ⟨ga, off, none⟩) (n + 1) c) h10)
    clear h10
    go_wp2_with fail
    go_end0
    exact ⟨_, rfl, ⟨_, rfl⟩, H11.out⟩
theorem rd_done (w0 w : World) (R : Asr) (d : Nat) (bs : List Nat) (p : Option QM) (h : Hold w0 w (rdA d bs p * R)) : Calls Try.prog 19 #[.pointer (some ⟨d, 0, none⟩)] w fun e w' => e = .returned (.bool bs.isEmpty) ∧ w = w' := by
  obtain ⟨A, c, h⟩ := rdOpen h
  have q := h.blk.some_ (i := 13) rfl
  have e1 : ((bs.length : Int) == 0) = bs.isEmpty := by cases bs with
    | nil => rfl
    | cons x l => simp; omega
  obtain ⟨b, hb⟩ : ∃ b, b = bs.isEmpty := ⟨_, rfl⟩
  rw [← hb] at e1 ⊢
  clear h hb
  generalize bs.length = n at *
  go_enter Try.func19, Try.ntmps19
  go_wp2
  go_ret
  exact ⟨rfl, rfl⟩
set_option maxRecDepth 8000 in
set_option maxHeartbeats 4000000 in
theorem rd_new (w0 w : World) (R : Asr) (A : Option Addr) (n c : Nat) (bs : List Nat) (h : Hold w0 w (queA 3 (.slice A n c) (oI bs) * R)) (hb : ∀ b ∈ bs, b < 6) :
    Calls Try.prog 16 #[cfH.val, .slice A n c] w fun e w' => ∃ d p, e = .returned (.pointer (some ⟨d, 0, none⟩)) ∧ RdB bs none p ∧ Hold w0 w' (rdA d bs p * R) := by
  have h1 := (h.newBlk (t := 32) (cs := cfC))
  have h2 := (h1.drop).newBlk (t := 52) (cs := rdC (.slice A n c) (.pointer none))
  have h3 : Hold w0 _ (rdA _ bs none * R) := rdClose (h2.imp (Imp.under _ (Imp.under _ (Imp.intro_emp _))))
  have HC := rd_begin w0 _ R _ bs none h3 hb
  have hsz : (w.alloc (.cells cfC 32)).heap.size = w.heap.size + 1 := World.size_alloc _ _
  rw [hsz] at HC
  have HC := hid HC
  have HB := hid h1.blk
  rw [cfC_val]
  clear h h1 h2 h3 hb hsz
  go_enter Try.func16, Try.ntmps16
  go_wp2_with (refine wpList_load rfl 32 _ rfl w.heap.size _ _ rfl Try.isAgg32 _ Try.sizeOf32 HB.out rfl ?_)
  refine HC.out.mono ?_
  rintro e w1 ⟨p, rfl, hp, h4⟩
  have H4 := hid h4
  clear HC HB h4
  go_wp2_with fail
  go_ret
  exact ⟨_, p, rfl, hp, H4.out⟩
/-- What a step leaves of the reference's drain. -/
def RdN (hs : List Int) (q : QM) (bs bs' : List Nat) (p' : Option QM) : Prop :=
  ((pushN hs q).at_ = 3 ∧ bs' = bs.tail ∧ RdB bs.tail (some (pushN hs q)) p') ∨ ((pushN hs q).at_ ≠ 3 ∧ bs' = bs ∧ p' = some (pushN hs q))
set_option maxRecDepth 8000 in
set_option maxHeartbeats 4000000 in
theorem rd_step0 (w0 w : World) (R : Asr) (d r : Nat) (p : Option QM) (h : Hold w0 w (rdA d [] p * R)) :
    Calls Try.prog 22 #[.pointer (some ⟨d, 0, none⟩), .pointer (some ⟨r, 0, none⟩)] w (RAccPost w0 (rdA d [] p * R) acc0) := by
  have h1 := h.newBlk (t := 55) (cs := acC acc0)
  have HD := hid (rd_done w0 _ _ d [] p h1.drop)
  have H1 := hid h1
  clear h h1
  go_enter Try.func22, Try.ntmps22
  go_wp2_with fail
  refine HD.out.mono ?_
  rintro e w1 ⟨rfl, rfl⟩
  clear HD
  go_wp2_with (refine wpList_store rfl 55 _ _ rfl w.heap.size _ _ (acC acc0) rfl rfl _ Try.sizeOf55 H1.out rfl rfl rfl ?_; intro y2 h2)
  have HF : Hid (RAccPost w0 (rdA d [] p * R) acc0 (.returned acc0.val) y2) := hid ⟨rfl, h2.drop⟩
  exact bodyPost_ret (results_blk1 Try.results22 _ rfl Try.isAgg55 _ Try.sizeOf55 h2.blk rfl) rfl HF.out
set_option maxRecDepth 8000 in
set_option maxHeartbeats 4000000 in
theorem rd_step1 (w0 w : World) (R : Asr) (d r : Nat) (C : Nat → List Int) (hs ns : List Int) (B : Int) (q : QM) (bs : List Nat) (h : Hold w0 w (rdA d (q.bk :: bs) (some q) * (refA r cfH C * R))) (v : FV C hs ns) (f : FI hs ns B) (hB : B ≤ 1000) (hq : QW hs ns B q) (hb : ∀ b ∈ bs, b < 6) :
    Calls Try.prog 22 #[.pointer (some ⟨d, 0, none⟩), .pointer (some ⟨r, 0, none⟩)] w fun e w' => ∃ bs' p', RdN hs q (q.bk :: bs) bs' p' ∧ RAccPost w0 (rdA d bs' p' * (refA r cfH (pushC C q) * R)) (pushA hs ns q) e w' := by
  have h1 := h.newBlk (t := 55) (cs := acC acc0)
  have HD := hid (rd_done w0 _ _ d (q.bk :: bs) (some q) h1.drop)
  have H1 := hid h1
  clear h h1
  obtain ⟨a, ha⟩ : ∃ a, a = pushA hs ns q := ⟨_, rfl⟩
  rw [← ha]
  have HA := hid ha
  clear ha
  obtain ⟨gr, hgr⟩ : ∃ g, g = w.heap.size := ⟨_, rfl⟩
  go_enter Try.func22, Try.ntmps22
  go_wp2_with fail
  refine HD.out.mono ?_
  rintro e w1 ⟨rfl, rfl⟩
  clear HD
  have h1 := H1.out
  go_upto_region 3 with fail
  rw [← hgr] at h1 ⊢
  clear H1 hgr
  generalize hW : w.alloc _ = W1 at h1 ⊢
  clear hW
  obtain ⟨A, c, h2⟩ := rdOpen h1.swap
  obtain ⟨n, hn⟩ : ∃ n, n = bs.length := ⟨_, rfl⟩
  rw [List.length_cons, ← hn] at h2
  have HN := hid hn
  clear hn
  obtain ⟨gq, hg⟩ : ∃ g, g = q.g := ⟨_, rfl⟩
  have h3 : Hold w0 W1 (blkA 52 d (rdC (.slice A (n + 1) c) (.pointer (some ⟨q.g, 0, none⟩))) * (queA 3 (.slice A (n + 1) c) (oI (q.bk :: bs)) * (rqA q * (blkA 55 gr (acC acc0) * (refA r cfH C * R))))) := h2
  have k0 := h3.blk.some_ (i := 14) rfl
  have h5 : Hold w0 W1 (rqA q * (refA r cfH C * (blkA 52 d (rdC (.slice A (n + 1) c) (.pointer (some ⟨q.g, 0, none⟩))) * (queA 3 (.slice A (n + 1) c) (oI (q.bk :: bs)) * (blkA 55 gr (acC acc0) * R))))) := h3.pk5 [2, 4, 0, 1, 3]
  have HP := hid (qu_step w0 W1 _ r cfH C hs ns B q h5 v f hB hq)
  clear h1 h2 h3 h5 v f hq
  obtain ⟨q', hq⟩ : ∃ q', q' = pushN hs q := ⟨_, rfl⟩
  have hg' : q'.g = gq := by
    rw [hq, hg]; unfold pushN; split
    · rfl
    split
    · rfl
    split <;> rfl
  rw [← HA.out, ← hq, ← hg] at HP
  rw [← hg] at k0
  have HDN := hid (And.intro True.intro (And.intro hq hg'))
  have HBB := hid hb
  clear hq hg hg' hb
  go_wp2_with fail
  refine HP.out.mono ?_
  rintro e w2 ⟨rfl, h6⟩
  clear HP k0
  have h7 := h6.newBlk (t := 55) (cs := acC acc0)
  have H7 := hid h7
  clear h6 h7
  go_upto_region 4 with (refine wpList_store rfl 55 _ _ rfl w2.heap.size _ _ (acC a) rfl rfl _ Try.sizeOf55 H7.out rfl rfl rfl ?_; intro y2 h8)
  clear H7
  generalize w2.heap.size = gc at h8 ⊢
  have k0 := h8.drop.drop.drop.blk.some_ (i := 14) rfl
  have k1 : y2.cell? ⟨gq, 2, none⟩ = some (.int .i64 (q'.at_ : Int)) := by
    rw [← HDN.out.2.2]; exact h8.drop.blk.some_ (i := 2) rfl
  have h9 : Hold w0 y2 (blkA 52 d (rdC (.slice A (n + 1) c) (.pointer (some ⟨gq, 0, none⟩))) * (queA 3 (.slice A (n + 1) c) (oI (q.bk :: bs)) * (rqA q' * (blkA 55 gc (acC a) * (refA r cfH (pushC C q) * (blkA 55 gr (acC acc0) * R)))))) := h8.pk6 [3, 4, 1, 0, 2, 5]
  clear h8
  by_cases h3 : q'.at_ = 3
  · have e1 : ((q'.at_ : Int) == 3) = true := by rw [h3]; rfl
    obtain ⟨ga, off, hA, -⟩ := queHead (x := .int .i64 (q.bk : Int)) (xs := oI bs) h9.drop
    subst hA
    obtain ⟨A2, hA2⟩ : ∃ A2 : Option Addr, A2 = if c = 1 then some ⟨ga, off, none⟩ else some ((⟨ga, off, none⟩ : Addr).add 1) := ⟨_, rfl⟩
    have hsl : ∀ w, (Instr.slice 39 (.slice (some ⟨ga, off, none⟩) (n + 1) c) (some (.int .i64 1)) none none).run Try.prog w = .ok (.slice A2 n (c - 1)) w := fun w => by
      rw [hA2]; exact slice_tailP 39 (by kernel_rfl) (fun _ => by kernel_rfl) w ⟨ga, off, none⟩ n c
    have k13 := h9.blk.some_ (i := 13) rfl
    have z0 := h9.blk.frozen 13
    have h10 := h9.setBlk 13 (.slice A2 n (c - 1))
    have hA := hid hA2
    have H10 := hid h10
    clear h9 h10 hA2
    go_upto_region 6 with fail
    have h10 := H10.out
    generalize hW : World.setCell _ _ _ = W3 at h10 ⊢
    clear hW H10 z0 k0 k1 k13 hsl
    have h11 : Hold w0 W3 (blkA 52 d (rdC (.slice A2 n (c - 1)) (.pointer (some ⟨gq, 0, none⟩))) * (queA 3 (.slice (some ⟨ga, off, none⟩) (n + 1) c) (.int .i64 (q.bk : Int) :: oI bs) * (rqA q' * (blkA 55 gc (acC a) * (refA r cfH (pushC C q) * (blkA 55 gr (acC acc0) * R)))))) := h10
    clear h10
    have h12 := h11.imp (Imp.under _ (Imp.on _ (Imp.queTail _ _ _ _ _ _)))
    rw [← hA.out] at h12
    have h13 : Hold w0 W3 (rdA d bs (some q') * (blkA 55 gc (acC a) * (refA r cfH (pushC C q) * (blkA 55 gr (acC acc0) * R)))) := rdClose (u := .slice A2 n (c - 1)) (by
      show Hold w0 W3 (blkA _ d (rdC _ (.pointer (some ⟨q'.g, 0, none⟩))) * _)
      rw [HDN.out.2.2]; exact h12)
    have HBG := hid (rd_begin w0 W3 _ d bs (some q') h13 HBB.out)
    clear h11 h12 h13
    go_wp2_with fail
    refine HBG.out.mono ?_
    rintro e w4 ⟨p', rfl, hp', h14⟩
    clear HBG
    have h15 : Hold w0 w4 (blkA 55 gr (acC acc0) * (blkA 55 gc (acC a) * (rdA d bs p' * (refA r cfH (pushC C q) * R)))) := h14.pk4 [3, 1, 0, 2]
    clear h14
    go_wp2_with (first | (refine wpList_load rfl 55 _ rfl gc _ _ rfl Try.isAgg55 _ Try.sizeOf55 h15.drop.blk rfl ?_) | (refine wpList_store rfl 55 _ _ rfl gr _ _ (acC a) rfl rfl _ Try.sizeOf55 h15 rfl rfl rfl ?_; intro y3 h16))
    clear h15
    have HF : Hid (∃ bs' p', RdN hs q (q.bk :: bs) bs' p' ∧ RAccPost w0 (rdA d bs' p' * (refA r cfH (pushC C q) * R)) a (.returned a.val) y3) := hid ⟨bs, p', .inl ⟨by rw [← HDN.out.2.1]; exact h3, rfl, by rw [← HDN.out.2.1]; exact hp'⟩, rfl, h16.drop.drop⟩
    exact bodyPost_ret (results_blk1 Try.results22 _ rfl Try.isAgg55 _ Try.sizeOf55 h16.blk rfl) rfl HF.out
  · have e1 : ((q'.at_ : Int) == 3) = false := by
      have : (q'.at_ : Int) ≠ 3 := by omega
      simpa using this
    have h11 : Hold w0 y2 (blkA 55 gr (acC acc0) * (blkA 55 gc (acC a) * (refA r cfH (pushC C q) * (blkA 52 d (rdC (.slice A (n + 1) c) (.pointer (some ⟨gq, 0, none⟩))) * (queA 3 (.slice A (n + 1) c) (oI (q.bk :: bs)) * (rqA q' * R)))))) := h9.pk6 [5, 3, 4, 0, 1, 2]
    clear h9
    go_wp2_with (first | (refine wpList_load rfl 55 _ rfl gc _ _ rfl Try.isAgg55 _ Try.sizeOf55 h11.drop.blk rfl ?_) | (refine wpList_store rfl 55 _ _ rfl gr _ _ (acC a) rfl rfl _ Try.sizeOf55 h11 rfl rfl rfl ?_; intro y3 h12))
    clear h11
    have h13 : Hold w0 y3 (rdA d (q.bk :: bs) (some q') * (refA r cfH (pushC C q) * R)) := rdClose (u := .slice A (n + 1) c) (by
      show Hold w0 y3 (blkA _ d (rdC _ (.pointer (some ⟨q'.g, 0, none⟩))) * _)
      rw [HDN.out.2.2]; exact h12.pk6 [3, 4, 5, 2])
    have HF : Hid (∃ bs' p', RdN hs q (q.bk :: bs) bs' p' ∧ RAccPost w0 (rdA d bs' p' * (refA r cfH (pushC C q) * R)) a (.returned a.val) y3) := hid ⟨q.bk :: bs, some q', .inr ⟨by rw [← HDN.out.2.1]; exact h3, rfl, by rw [← HDN.out.2.1]⟩, rfl, h13⟩
    exact bodyPost_ret (results_blk1 Try.results22 _ rfl Try.isAgg55 _ Try.sizeOf55 h12.blk rfl) rfl HF.out
end Go.Proofs.Ytopcnaakdldkpaa
