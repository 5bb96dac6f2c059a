/- The reference's limbo (strongtxref12): NewLimbo, Add, Take; its Class of any number. -/
import Derived.Test.YtopcnaakdldkpaaLim3
namespace Go.Proofs.Ytopcnaakdldkpaa
open Go.RowKit
set_option linter.unusedVariables false
abbrev oI (l : List Nat) : List Value := (toI l).map (Value.int .i64)
theorem Hold.queRd {w0 w : World} {R : Asr} {e : TypeId} {A : Option Addr} {n c : Nat} {xs : List Value} (h : Hold w0 w (queA e (.slice A n c) xs * R)) : n = xs.length ∧ n ≤ c ∧ ∃ b, Reads w b A n xs := by
  obtain ⟨fp, h⟩ := h.get
  obtain ⟨h1, h2, _, b, h4, _⟩ := queReads h
  exact ⟨h1, h2, b, h4⟩
theorem clsF {b : Nat} (hb : b < 6) : cls cfH b = fcls b := by
  match b, hb with
  | 0, _ => decide
  | 1, _ => decide
  | 2, _ => decide
  | 3, _ => decide
  | 4, _ => decide
  | 5, _ => decide
set_option maxRecDepth 8000 in
theorem rclass18 (w : World) (b : Int) (hI : I64b b) : Calls Try.prog 28 #[cfH.val, .int .i64 b] w fun e w' => e = .returned (.int .i64 (lcls b)) ∧ Chg [] w w' := by
  by_cases h6 : 0 ≤ b ∧ b < 6
  · obtain ⟨n, rfl⟩ : ∃ n : Nat, b = n := ⟨b.toNat, by omega⟩
    refine (rclass_any w cfH n cfH_ok (by show n < 6; omega)).mono ?_
    rintro e w' ⟨rfl, hc⟩
    refine ⟨?_, hc⟩
    rw [clsF (by omega), lcls_nat h6, Int.toNat_natCast]
  have el : lcls b = -1 := by unfold lcls; repeat' split
                              all_goals omega
  rw [el]
  have C0 := hid ((Chg.refl [] w).alloc (.cells cfH.cells 32))
  clear el
  by_cases h0 : b < 0
  · have e1 : decide (b < 0) = true := decide_eq_true h0
    clear h6 hI
    go_enter Try.func28, Try.ntmps28
    go_wp2_with fail
    go_ret
    exact ⟨rfl, C0.out⟩
  · have e1 : decide (b < 0) = false := decide_eq_false h0
    have e2 : decide ((6 : Int) ≤ b) = true := decide_eq_true (by omega)
    clear h6 hI h0
    go_enter Try.func28, Try.ntmps28
    go_wp2_with fail
    refine (rblocks_any _ cfH cfH_ok).mono ?_
    rintro e w1 ⟨rfl, hc1⟩
    rw [show ((nbl cfH : Nat) : Int) = 6 from rfl]
    have C1 := hid (C0.out.trans hc1 (by simp))
    clear hc1 C0
    go_wp2_with fail
    go_ret
    exact ⟨rfl, C1.out⟩
/-- The reference's limbo. -/
abbrev rlC (u v : Value) : Array Value := #[.int .i64 20, .int .i64 4, .int .i64 1, .int .i64 3, .int .i64 2, .int .i64 1, .int .i64 0, .int .i64 1, .int .i64 1, .int .i64 0, .int .i64 0, .int .i64 0, .bool false, u, v]
abbrev bI (es : List (Int × Int)) : List Value := es.map fun e => .int .i64 e.1
abbrev vI (es : List (Int × Int)) : List Value := es.map fun e => .int .i64 e.2
def rlA (g : Nat) (es : List (Int × Int)) : Asr := Asr.ex fun u => Asr.ex fun v => blkA 61 g (rlC u v) * (queA 3 u (bI es) * queA 3 v (vI es))
theorem rlOpen {w0 w : World} {R : Asr} {g : Nat} {es : List (Int × Int)} (h : Hold w0 w (rlA g es * R)) : ∃ A c A' c', Hold w0 w (blkA 61 g (rlC (.slice A es.length c) (.slice A' es.length c')) * (queA 3 (.slice A es.length c) (bI es) * (queA 3 (.slice A' es.length c') (vI es) * R))) := by
  obtain ⟨u, h⟩ := h.exOpen
  obtain ⟨v, h⟩ := h.exOpen
  have h1 := h.part
  have h2 := h1.imp (Imp.under _ (Imp.assoc _ _ _))
  obtain ⟨A, c, e1⟩ := h2.drop.queForm
  obtain ⟨A', c', e2⟩ := h2.drop.drop.queForm
  rw [List.length_map] at e1 e2
  subst e1 e2
  exact ⟨A, c, A', c', h2⟩
theorem rlClose {w0 w : World} {R : Asr} {g : Nat} {u v : Value} {es : List (Int × Int)} (h : Hold w0 w (blkA 61 g (rlC u v) * (queA 3 u (bI es) * (queA 3 v (vI es) * R)))) : Hold w0 w (rlA g es * R) :=
  Hold.exClose (x := u) (Hold.exClose (x := v) ((h.imp (Imp.under _ (Imp.assoc' _ _ _))).join))
theorem bI_len (es : List (Int × Int)) : (bI es).length = es.length := List.length_map _
theorem vI_len (es : List (Int × Int)) : (vI es).length = es.length := List.length_map _
set_option maxRecDepth 8000 in
theorem rl_new (w0 w : World) (R : Asr) (h : Hold w0 w R) : Calls Try.prog 10 #[cfH.val] w fun e w' => ∃ g, e = .returned (.pointer (some ⟨g, 0, none⟩)) ∧ Hold w0 w' (rlA g [] * R) := by
  have h1 := (h.newBlk (t := 32) (cs := cfC))
  have h2 := ((h1.drop.nilQue 3).nilQue 3).newBlk (t := 61) (cs := rlC (.slice none 0 0) (.slice none 0 0))
  have h3 : Hold w0 _ (rlA _ [] * R) := rlClose (es := []) h2
  simp only [World.size_alloc] at h3
  have H2 := hid h3
  have HB := hid h1.blk
  rw [cfC_val]
  clear h h1 h2 h3
  go_enter Try.func10, Try.ntmps10
  go_wp2_with (refine wpList_load rfl 32 _ rfl w.heap.size _ _ rfl Try.isAgg32 _ Try.sizeOf32 HB.out rfl ?_)
  go_ret
  exact ⟨_, rfl, H2.out⟩
set_option maxRecDepth 8000 in
set_option maxHeartbeats 16000000 in
theorem rl_add (w0 w : World) (R : Asr) (g : Nat) (es : List (Int × Int)) (v : Int) (A : Option Addr) (n c : Nat) (l : List Int) (h : Hold w0 w (rlA g es * (queA 3 (.slice A n c) (l.map (Value.int .i64)) * R))) (hI : ∀ b ∈ l, I64b b) (hn : n ≤ 1000) (he : es.length ≤ 1000) :
    Calls Try.prog 14 #[.pointer (some ⟨g, 0, none⟩), .int .i64 v, .slice A n c] w fun e w' => e = .returned (.tuple #[]) ∧ Hold w0 w' (rlA g (addE es v l) * (queA 3 (.slice A n c) (l.map (Value.int .i64)) * R)) := by
  obtain ⟨iI, hiI, iz0, iz1, iz2⟩ := parts5L info_int18
  have hl : l.length = n := by
    have := h.drop.queRd.1
    simpa using this.symm
  have HI := hid hI
  have HL := hid hl
  clear hI hl
  go_enter Try.func14, Try.ntmps14
  go_wp2_with fail
  go_loopw [6] (fun i wr => ∃ k : Nat, k ≤ n ∧ i = .int .i64 (k : Int) ∧ Hold w0 wr (rlA g (addE es v (l.take k)) * (queA 3 (.slice A n c) (l.map (Value.int .i64)) * R))) (fun i _ => n - (intOf i).toNat)
  case atStart => exact ⟨0, Nat.zero_le _, rfl, by simpa [addE, keepB] using h⟩
  case round =>
    clear h
    obtain ⟨k, hk, rfl, h⟩ := hrel
    by_cases hlt : k < n
    · have e1 : decide ((k : Int) < (n : Int)) = true := decide_eq_true (by omega)
      have e1' : decide (k < n) = true := decide_eq_true hlt
      have hkl : k < l.length := by rw [HL.out]; exact hlt
      obtain ⟨x, hx⟩ : ∃ x, x = l[k] := ⟨_, rfl⟩
      have hxk : (l.map (Value.int .i64))[k]? = some (.int .i64 x) := by rw [List.getElem?_map, List.getElem?_eq_getElem hkl, hx]; rfl
      obtain ⟨-, -, b, hr⟩ := h.drop.queRd
      obtain ⟨ad, hA, -, -⟩ := hr.cellAt hlt
      have ht : l.take (k + 1) = l.take k ++ [x] := by rw [hx]; exact (List.take_append_getElem hkl).symm
      have hxI : I64b x := by rw [hx]; exact HI.out _ (List.getElem_mem hkl)
      have hle : (addE es v (l.take k)).length ≤ 2000 := by
        unfold addE keepB
        rw [List.length_append, List.length_map]
        have := List.length_filter_le (fun b => decide (0 ≤ lcls b)) (l.take k)
        rw [List.length_take] at this
        omega
      have HT := hid ht
      have HXK := hid hxk
      have k0 : (0 : Int) ≤ (k : Int) := by omega
      have k1 : (k : Int) < (n : Int) := by omega
      subst hA
      obtain ⟨A1, c1, A2, c2, h1⟩ := rlOpen h
      generalize hes : addE es v (l.take k) = es1 at *
      have HES := hid hes
      clear h hr ht hx hes hxk
      have hc : ∀ w' Z, Hold w0 w' (queA 3 (.slice (some ad) n c) (l.map (Value.int .i64)) * Z) → w'.cell? (ad.add k) = some (.int .i64 x) := fun w' Z h => h.queAt HXK.out
      have HC := hid hc
      clear hc
      have h := h1.pk4 [0, 3, 1, 2]
      clear h1
      go_upto_region 3 with fail
      replace h := h.drew
      refine wp_region_brk [] (by kernel_rfl) ?_
      generalize hW : wr.drew = W at h ⊢
      clear hW
      refine wpAnyB_now (fun w' => w'.cell? (ad.add k) = some (.int .i64 x) ∧ ∃ Z, Hold w0 w' (blkA 61 g (rlC (.slice A1 es1.length c1) (.slice A2 es1.length c2)) * Z)) (fun _ _ => trivial) _ _ _ _ ?_
      refine' wpAnyB_bulk [true, true, true, true, true, true, true, true] 46 (listed' := #[true, true, true, true, true, true, true, true, false, false]) rfl (by kernel_rfl) (by kernel_rfl) (by kernel_rfl) (by kernel_rfl) (by kernel_rfl) (by kernel_rfl) (by decide) (fun _ _ _ _ h => h) rfl ⟨HC.out _ _ h.drop, _, h⟩ (fun wq hq => ?_) ?_; rotate_left 1
      · simp only [maskL]
        obtain ⟨qx, Z, hq⟩ := hq
        have q0 := hq.blk.some_ (i := 0) rfl
        have q1 := hq.blk.some_ (i := 1) rfl
        have q2 := hq.blk.some_ (i := 2) rfl
        have q3 := hq.blk.some_ (i := 3) rfl
        have q4 := hq.blk.some_ (i := 4) rfl
        have q5 := hq.blk.some_ (i := 5) rfl
        have q6 := hq.blk.some_ (i := 6) rfl
        have q7 := hq.blk.some_ (i := 7) rfl
        have q8 := hq.blk.some_ (i := 8) rfl
        have q9 := hq.blk.some_ (i := 9) rfl
        have q10 := hq.blk.some_ (i := 10) rfl
        have q11 := hq.blk.some_ (i := 11) rfl
        have q12 := hq.blk.some_ (i := 12) rfl
        clear hq
        repeat (go_big_quiet_step (fail))
        exact wpQuiet_nil rfl
      refine wpAnyB_bar [false, false, false, false, false, false, false, false, true] (fuel := 1) (by rfl) (by rfl) (by kernel_rfl) (fun QB hQB hQX => ?_)
      simp only [maskL]
      go_wp2_with fail
      refine (rclass18 W x hxI).mono ?_
      rintro e y1 ⟨rfl, hc1⟩
      have h1 := h.chg0 hc1
      clear h hc1
      have h := h1
      clear h1
      go_wp2_with fail
      refine hQB.out _ _ ⟨HC.out _ _ h.drop, _, h⟩ ?_
      clear hQB hQX QB
      refine' wpAnyB_bulk [false, false, false, false, false, false, false, false, false, true] 46 (listed' := #[true, true, true, true, true, true, true, true, true, true]) rfl (by kernel_rfl) (by kernel_rfl) (by kernel_rfl) (by kernel_rfl) (by kernel_rfl) (by kernel_rfl) (by decide) (fun _ _ _ _ h => h) rfl ⟨HC.out _ _ h.drop, _, h⟩ (fun wq hq => ?_) ?_; rotate_left 1
      · simp only [maskL]
        repeat (go_big_quiet_step (fail))
        exact wpQuiet_nil rfl
      refine wpAnyB_done (by kernel_rfl) ?_ _
      by_cases hp : 0 ≤ lcls x
      · have e2 : decide (0 ≤ lcls x) = true := decide_eq_true hp
        go_upto_region 4 with fail
        replace h := h.drew
        have hpl : (bI es1).length ≤ 1000000 := by rw [bI_len]; omega
        have h9 := h.pk3 [2, 0, 1]
        clear h
        refine wp_region_brk [13] (by kernel_rfl) ?_
        generalize hW : y1.drew = W2 at h9 ⊢
        clear hW
        refine wpAnyB_now (fun w' => w'.cell? (ad.add k) = some (.int .i64 x) ∧ ∃ Z, Hold w0 w' (blkA 61 g (rlC (.slice A1 es1.length c1) (.slice A2 es1.length c2)) * Z)) (fun _ _ => trivial) _ _ _ _ ?_
        refine' wpAnyB_bulk [true, true, true, true, true, true, true, true, true] 46 (listed' := #[true, true, true, true, true, true, true, true, true, false, false, false, false, false]) rfl (by kernel_rfl) (by kernel_rfl) (by kernel_rfl) (by kernel_rfl) (by kernel_rfl) (by kernel_rfl) (by decide) (fun _ _ _ _ h => h) rfl ⟨HC.out _ _ h9.drop.drop, _, h9.drop⟩ (fun wq hq => ?_) ?_; rotate_left 1
        · simp only [maskL]
          obtain ⟨qx, Z, hq⟩ := hq
          have q13 := hq.blk.some_ (i := 13) rfl
          clear hq
          repeat (go_big_quiet_step (fail))
          exact wpQuiet_nil rfl
        refine wpAnyB_bar [false, false, false, false, false, false, false, false, false, true] (fuel := 4) (by rfl) (by rfl) (by kernel_rfl) (fun QB hQB hQX => ?_)
        simp only [maskL]
        go_wp2_with fail
        refine hQB.out _ _ ⟨HC.out _ _ (h9.alloc _).drop.drop, _, (h9.alloc _).drop⟩ ?_
        clear hQB hQX QB
        refine wpAnyB_bar [false, false, false, false, false, false, false, false, false, false, true] (fuel := 3) (by rfl) (by rfl) (by kernel_rfl) (fun QB hQB hQX => ?_)
        simp only [maskL]
        go_wp2_with (at_builtin; refine wpList_que rfl _ _ 39 rfl iI (.int .i64 0) 8 Try.underlying39 hiI iz0 iz1 iz2 rfl (.int .i64 x) _ rfl h9 rfl rfl hpl (by decide) ?_)
        intro v9 y4 h5
        obtain ⟨A9, c9, hv9⟩ := h5.queForm
        rw [List.length_append, bI_len, show es1.length + [Value.int .i64 x].length = es1.length + 1 from rfl] at hv9
        subst hv9
        clear h9
        have h9 := h5
        clear h5
        go_wp2_with fail
        refine hQB.out _ _ ⟨HC.out _ _ h9.drop.drop, _, h9.drop⟩ ?_
        clear hQB hQX QB
        refine' wpAnyB_bulkT [false, false, false, false, false, false, false, false, false, false, false, true, true] 46 (listed' := #[true, true, true, true, true, true, true, true, true, true, true, true, true, false]) rfl (by kernel_rfl) (by kernel_rfl) (by kernel_rfl) (by kernel_rfl) (by kernel_rfl) (by decide) (fun _ _ _ _ h => h) rfl ⟨HC.out _ _ h9.drop.drop, _, h9.drop⟩ (fun wq _ => ?_) ?_; rotate_left 1
        · simp only [maskL]
          repeat (go_big_quiet_step (fail))
          exact wpQuiet_nil rfl
        refine wpAnyB_brk [false, false, false, false, false, false, false, false, false, false, false, false, false, true] (fuel := 0) (by rfl) (by rfl) (by kernel_rfl) (by kernel_rfl) (fun QB hQB hQX => ?_)
        simp only [maskL]
        have p2 := h9.drop.blk.some_ (i := 13) rfl
        have z2 := h9.drop.blk.frozen 13
        have H10 := hid (h9.swap.setBlk 13 (.slice A9 (es1.length + 1) c9))
        clear h9
        go_wp2_with fail
        refine hQB.out _ _ ?_
        refine wpAnyB_forget (by kernel_rfl) ?_
        refine wpAnyB_done (by kernel_rfl) ?_ _
        have h10 := H10.out
        generalize hW : World.setCell _ _ _ = W4 at h10 ⊢
        clear hW H10
        clear hQB hQX QB p2 z2
        have h11 : Hold w0 W4 (queA 3 (.slice A2 es1.length c2) (vI es1) * (blkA 61 g (rlC (.slice A9 (es1.length + 1) c9) (.slice A2 es1.length c2)) * (queA 3 (.slice (some ad) n c) (l.map (Value.int .i64)) * (queA 3 (.slice A9 (es1.length + 1) c9) (bI es1 ++ [Value.int .i64 x]) * R)))) := h10.pk4 [3, 0, 2, 1]
        clear h10
        have q14 := h11.drop.blk.some_ (i := 14) rfl
        have hpl2 : (vI es1).length ≤ 1000000 := by rw [vI_len]; omega
        go_wp2_with (at_builtin; refine wpList_que rfl _ _ 39 rfl iI (.int .i64 0) 8 Try.underlying39 hiI iz0 iz1 iz2 rfl (.int .i64 v) _ rfl h11 rfl rfl hpl2 (by decide) ?_)
        intro v9 y5 h5
        obtain ⟨A8, c8, hv9⟩ := h5.queForm
        rw [List.length_append, vI_len, show es1.length + [Value.int .i64 v].length = es1.length + 1 from rfl] at hv9
        subst hv9
        have p14 := h5.drop.blk.some_ (i := 14) rfl
        have z14 := h5.drop.blk.frozen 14
        have H12 := hid (h5.swap.setBlk 14 (.slice A8 (es1.length + 1) c8))
        clear h11 h5 q14
        go_wp2_with fail
        go_roundw
        case rel =>
          refine ⟨k + 1, by omega, by go_num, ?_⟩
          have e3 : addE es v (l.take (k + 1)) = es1 ++ [(x, v)] := by
            rw [HT.out, ← HES.out]
            unfold addE
            rw [keepB_snoc, if_pos hp, List.map_append, List.append_assoc]; rfl
          rw [e3]
          refine rlClose (u := .slice A9 (es1.length + 1) c9) (v := .slice A8 (es1.length + 1) c8) ?_
          have h13 : Hold w0 _ (blkA 61 g (rlC (.slice A9 (es1.length + 1) c9) (.slice A8 (es1.length + 1) c8)) * (queA 3 (.slice A9 (es1.length + 1) c9) (bI es1 ++ [Value.int .i64 x]) * (queA 3 (.slice A8 (es1.length + 1) c8) (vI es1 ++ [Value.int .i64 v]) * (queA 3 (.slice (some ad) n c) (l.map (Value.int .i64)) * R)))) := H12.out.pk4 [0, 3, 1, 2]
          unfold bI vI
          rw [List.map_append, List.map_append]
          exact h13
        case measure => simp [intOf]; omega
      · have e2 : decide (0 ≤ lcls x) = false := decide_eq_false hp
        have H2 := hid (rlClose (h.pk4 [0, 2, 3, 1]))
        clear h
        go_wp2_with fail
        go_roundw
        case rel =>
          refine ⟨k + 1, by omega, by go_num, ?_⟩
          have e3 : addE es v (l.take (k + 1)) = es1 := by
            rw [HT.out, ← HES.out]
            unfold addE
            rw [keepB_snoc, if_neg (by omega)]
          rw [e3]
          exact H2.out
        case measure => simp [intOf]; omega
    · obtain rfl : k = n := by omega
      have e1 : decide ((k : Int) < (k : Int)) = false := decide_eq_false (by omega)
      rw [List.take_of_length_le (by rw [HL.out]; exact Nat.le_refl _)] at h
      have H := hid h
      clear h
      go_wp2_with fail
      go_end0
      exact ⟨rfl, H.out⟩
end Go.Proofs.Ytopcnaakdldkpaa
