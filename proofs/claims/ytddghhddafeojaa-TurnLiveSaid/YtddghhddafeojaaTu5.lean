/- strongtxlaw10: TurnLive. -/
import Derived.Test.YtddghhddafeojaaTu4
namespace Go.Proofs.Ytddghhddafeojaa
open Go.RowKit
set_option linter.unusedVariables false

/-- As many machines as there are tickets that were not served; each ticket has its machine. -/
structure TL (C : Nat → List Int) (xs : List (Option TM)) (S T : Int) : Prop where
  ti : TI C xs S T
  cnt : (xs.countP Option.isSome : Int) = T - S
  cov : ∀ v : Int, S ≤ v → v < T → ∃ (k : Nat) (m : TM), xs[k]? = some (some m) ∧ m.tk = v
theorem valC_w5 (C : Nat → List Int) : valC C 5 0 = w1 C 5 := by
  unfold valC w1
  rw [show getC C 5 = C 5 from getC_at (k := 5) (by decide) (by decide)]; rfl
theorem live_set {xs : List (Option TM)} {t : Nat} {o a : Option TM} (ht : xs[t]? = some o) : ((xs.set t a).countP Option.isSome : Int) = xs.countP Option.isSome - (if o.isSome then 1 else 0) + (if a.isSome then 1 else 0) := by
  have hl : t < xs.length := (List.getElem?_eq_some_iff.1 ht).1
  have he : xs[t] = o := (List.getElem?_eq_some_iff.1 ht).2
  rw [List.countP_set hl, he]
  have hp : o.isSome = true → 0 < xs.countP Option.isSome := fun h => List.countP_pos_iff.2 ⟨o, he ▸ List.getElem_mem hl, h⟩
  cases h : o.isSome
  · cases a.isSome <;> simp
  · have := hp h
    cases a.isSome <;> simp <;> omega
theorem TL.take {C : Nat → List Int} {xs : List (Option TM)} {S T : Int} (h : TL C xs S T) {t : Nat} (ht : xs[t]? = some none) (g : Nat) (hT : T + 1 ≤ 1000000) : TL (opC C 4 0 (IntKind.u64.wrap (valC C 4 0 + 1)) true) (xs.set t (some ⟨g, valC C 4 0, false⟩)) S (T + 1) := by
  have hl : t < xs.length := (List.getElem?_eq_some_iff.1 ht).1
  refine ⟨h.ti.take ht g hT, ?_, fun v h1 h2 => ?_⟩
  · rw [live_set ht, h.cnt]; simp; omega
  · by_cases hv : v < T
    · obtain ⟨k, m, hk, hm⟩ := h.cov v h1 hv
      refine ⟨k, m, ?_, hm⟩
      have hne : t ≠ k := by rintro rfl; rw [ht] at hk; cases hk
      rw [List.getElem?_set_ne hne]; exact hk
    · exact ⟨t, _, List.getElem?_set_self hl, by show valC C 4 0 = v; rw [h.ti.v4]; omega⟩
theorem TL.step {C : Nat → List Int} {xs : List (Option TM)} {S T : Int} (h : TL C xs S T) {t : Nat} {m : TM} (ht : xs[t]? = some (some m)) : TL C (xs.set t (some ⟨m.g, m.tk, m.dn || (S == m.tk)⟩)) S T := by
  have hl : t < xs.length := (List.getElem?_eq_some_iff.1 ht).1
  refine ⟨h.ti.step ht, ?_, fun v h1 h2 => ?_⟩
  · rw [live_set ht, h.cnt]; simp
  · obtain ⟨k, n, hk, hn⟩ := h.cov v h1 h2
    by_cases hne : t = k
    · subst hne
      rw [ht] at hk
      obtain rfl : m = n := by simpa using hk
      exact ⟨t, _, List.getElem?_set_self hl, hn⟩
    · exact ⟨k, n, by rw [List.getElem?_set_ne hne]; exact hk, hn⟩
theorem TL.pass {C : Nat → List Int} {xs : List (Option TM)} {S T : Int} (h : TL C xs S T) {t : Nat} {m : TM} (ht : xs[t]? = some (some m)) (hd : m.dn = true) : TL (opC C 5 0 (m.tk + 1) true) (xs.set t none) (S + 1) T := by
  have hs := (h.ti.rng t m ht).2.2 hd
  refine ⟨h.ti.pass ht hd, ?_, fun v h1 h2 => ?_⟩
  · rw [live_set ht, h.cnt]; simp; omega
  · obtain ⟨k, n, hk, hn⟩ := h.cov v (by omega) h2
    have hne : t ≠ k := by
      rintro rfl
      rw [ht] at hk
      obtain rfl : m = n := by simpa using hk
      omega
    exact ⟨k, n, by rw [List.getElem?_set_ne hne]; exact hk, hn⟩
/-- Within a round: one was served, or the one whose turn it is comes later. -/
def Rnd (xs : List (Option TM)) (S T : Int) (rd t : Nat) : Prop := T - S + rd + 1 ≤ 4 ∨ (T - S + rd ≤ 4 ∧ ∃ (k : Nat) (m : TM), t ≤ k ∧ xs[k]? = some (some m) ∧ m.tk = S)
theorem TL.begin {C : Nat → List Int} {xs : List (Option TM)} {S T : Int} (h : TL C xs S T) {rd : Nat} (hr : T - S + rd ≤ 4) (h4 : rd < 4) : Rnd xs S T rd 0 := by
  have := h.ti.b
  by_cases he : T = S
  · exact .inl (by omega)
  · obtain ⟨k, m, hk, hm⟩ := h.cov S (by omega) (by omega)
    exact .inr ⟨hr, k, m, by omega, hk, hm⟩
theorem Rnd.none_ {xs : List (Option TM)} {S T : Int} {rd t : Nat} (h : Rnd xs S T rd t) (ht : xs[t]? = some none) : Rnd xs S T rd (t + 1) := by
  rcases h with h | ⟨h, k, m, hk, hx, hm⟩
  · exact .inl h
  · refine .inr ⟨h, k, m, ?_, hx, hm⟩
    have : t ≠ k := by rintro rfl; rw [ht] at hx; cases hx
    omega
theorem Rnd.wait {xs : List (Option TM)} {S T : Int} {rd t : Nat} {m b : TM} (h : Rnd xs S T rd t) (ht : xs[t]? = some (some m)) (hm : m.tk ≠ S) : Rnd (xs.set t (some b)) S T rd (t + 1) := by
  rcases h with h | ⟨h, k, n, hk, hx, hn⟩
  · exact .inl h
  · have hne : t ≠ k := by
      rintro rfl
      rw [ht] at hx
      obtain rfl : m = n := by simpa using hx
      exact hm hn
    exact .inr ⟨h, k, n, by omega, by rw [List.getElem?_set_ne hne]; exact hx, hn⟩
theorem Rnd.pass {xs ys : List (Option TM)} {S T : Int} {rd t u : Nat} (h : Rnd xs S T rd t) : Rnd ys (S + 1) T rd u := by
  rcases h with h | ⟨h, _⟩ <;> exact .inl (by omega)
theorem Rnd.end_ {xs : List (Option TM)} {S T : Int} {rd : Nat} (h : Rnd xs S T rd 4) (hl : xs.length = 4) : T - S + (rd + 1 : Nat) ≤ 4 := by
  rcases h with h | ⟨h, k, m, hk, hx, _⟩
  · omega
  · have := (List.getElem?_eq_some_iff.1 hx).1; omega
theorem TL.over {C : Nat → List Int} {xs : List (Option TM)} {S T : Int} (h : TL C xs S T) (hs : T - S ≤ 0) : xs = [none, none, none, none] ∧ T = S := by
  have hb := h.ti.b
  have hc := h.cnt
  have h0 : xs.countP Option.isSome = 0 := by omega
  rw [List.countP_eq_zero] at h0
  refine ⟨?_, by omega⟩
  match xs, h.ti.len, h0 with
  | [a, b, c, d], _, h0 =>
    have ha := h0 a (by simp)
    have hb := h0 b (by simp)
    have hc := h0 c (by simp)
    have hd := h0 d (by simp)
    have key : ∀ o : Option TM, ¬ o.isSome = true → o = none := fun o h => by cases o; rfl; exact absurd rfl h
    rw [key a ha, key b hb, key c hc, key d hd]
theorem arr_nil_eq (w : World) : Sem.run Try.prog (Op.equalIn 10000 60 (.agg #[.pointer none, .pointer none, .pointer none, .pointer none]) (.agg #[.pointer none, .pointer none, .pointer none, .pointer none])) w = .ok true w := by kernel_rfl
set_option maxRecDepth 8000 in
set_option maxHeartbeats 8000000 in
theorem turnLive_any (l0 l1 l2 l3 l4 : Int) (A1 : Option Addr) (n1 c1 b1 : Nat) (x1 : List Int) (w : World) (hA1 : Reads w b1 A1 n1 (x1.map (Value.int .i64))) (le1 : n1 ≤ 9223372036854775807) :
    Calls Try.prog 8 #[.agg #[.int .i64 l0, .int .i64 l1, .int .i64 l2, .int .i64 l3, .int .i64 l4], .slice A1 n1 c1] w (fun e w' => e = .returned (.bool true) ∧ Below w.heap.size w w') := by
  have HX := hid hA1
  clear hA1
  obtain ⟨c, hc⟩ : ∃ c, c = mkCfg l0 l1 l2 l3 l4 := ⟨_, rfl⟩
  have hok : cfgErr c = 0 := by rw [hc]; exact mkCfg_ok _ _ _ _ _
  have HF : Hid (∀ w, Calls Try.prog 61 #[.int .i64 l0, .int .i64 l1, .int .i64 l2, .int .i64 l3, .int .i64 l4] w (fun e w' => e = .returned c.val ∧ Chg [] w w')) := hid fun w => by rw [hc]; exact config_any w l0 l1 l2 l3 l4
  have HO := hid (new_ok4 hok)
  have HC := hid hok
  have h0 := hid ((Hold.start w).alloc (.cells #[.int .i64 l0, .int .i64 l1, .int .i64 l2, .int .i64 l3, .int .i64 l4] 57))
  clear hok hc
  by_cases hp : 60 < n1
  · have ep : decide ((60 : Int) < (n1 : Int)) = true := decide_eq_true (by omega)
    go_enter Try.func8, Try.ntmps8
    go_wp2_with fail
    refine (awake10_any w _ _ h0.out).mono ?_
    rintro e v3 ⟨rfl, h11⟩
    have H11 := hid h11.below
    clear h11
    go_wp2_with fail
    go_ret
    exact ⟨rfl, H11.out⟩
  have ep : decide ((60 : Int) < (n1 : Int)) = false := decide_eq_false (by omega)
  go_enter Try.func8, Try.ntmps8
  go_wp2_with fail
  refine (lab_small w _ _ c l0 l1 l2 l3 l4 HF.out HC.out h0.out).mono ?_
  rintro e v1 ⟨m, r, rfl, h1⟩
  obtain ⟨C0, hC0⟩ : ∃ C0, C0 = newC c 4 (initL c.words.toNat) := ⟨_, rfl⟩
  have hv4 : valC C0 4 0 = 0 := by rw [hC0]; rfl
  have hv5 : valC C0 5 0 = 0 := by rw [hC0]; rfl
  have hk0 : COk C0 := by rw [hC0]; exact HO.out
  rw [← hC0] at h1
  have h2 := (h1.newBlk (t := 27) (cs := #[.pointer (some ⟨m, 0, none⟩), .pointer (some ⟨r, 0, none⟩)])).newBlk (t := 60) (cs := #[.pointer none, .pointer none, .pointer none, .pointer none])
  simp only [World.size_alloc] at h2
  have H2 := hid h2
  have HI := hid (TL.mk (TI.init hk0 hv4 hv5) (by decide) (fun v h1 h2 => by omega))
  clear h0 h1 h2 hC0 hv4 hv5 hk0 HO HC HF
  go_wp2_with fail
  have h2 := H2.out
  generalize hW : World.alloc _ _ = W2 at h2 ⊢
  generalize v1.heap.size + 1 = ga at h2 ⊢
  generalize v1.heap.size = gp at h2 ⊢
  clear hW H2
  have h3 : Hold w W2 (TS ga m C0 [none, none, none, none] (prA gp m r * Asr.emp)) := Hold.imp (h2.pk4 [0, 2, 1]) (Imp.under _ (Imp.objsEmp (f := tmA) (xs := [none, none, none, none]) (fun x hx => by simp at hx; subst hx; rfl)))
  clear h2
  go_loopw [8] (fun j wr => ∃ (i : Nat) (C : Nat → List Int) (xs : List (Option TM)) (S T : Int), i ≤ n1 ∧ j = .int .i64 i ∧ TL C xs S T ∧ T ≤ i ∧ Hold w wr (TS ga m C xs (prA gp m r * Asr.emp))) (fun j _ => n1 - (intOf j).toNat)
  case atStart => exact ⟨0, C0, _, 0, 0, by omega, rfl, HI.out, by omega, h3⟩
  case round =>
    clear h3 HI
    obtain ⟨i, C, xs, S, T, hi, rfl, hTI, hT, h⟩ := hrel
    have HT := hid hTI
    have hb := hTI.ti.b
    clear hTI
    by_cases hlt : i < n1
    · have e1 : decide ((i : Int) < (n1 : Int)) = true := decide_eq_true (by omega)
      have i0 : (0 : Int) ≤ (i : Int) := by omega
      have i1 : (i : Int) < (n1 : Int) := by omega
      obtain ⟨ad, rfl, adb, hcell⟩ := (HX.out.below h.below).numAt hlt
      obtain ⟨z, hz⟩ : ∃ z, z = x1.getD i 0 := ⟨_, rfl⟩
      obtain ⟨_, hA, _, hold⟩ := HX.out.numAt hlt
      obtain rfl := Option.some.inj hA
      rw [← hz] at hcell hold
      replace hold := hid hold
      clear hz hA
      obtain ⟨t, ht⟩ : ∃ t : Nat, place z 4 = t := ⟨(place z 4).toNat, by have := place_nonneg z 4 (by omega); omega⟩
      have t4 : t < 4 := by have := place_lt z 4 (by omega); omega
      have t4' : (t : Int) < 4 := by omega
      have t0' : (0 : Int) ≤ (t : Int) := by omega
      have Ht := hid ht
      clear ht
      go_wp2_with fail
      refine (place_any _ _ _ (by omega) (by omega)).mono ?_
      rintro e w' ⟨rfl, rfl⟩
      rw [Ht.out]
      clear Ht
      have tl : t < xs.length := by rw [HT.out.ti.len]; exact t4
      have z2 := TS.frozen h t
      cases ho : xs[t]'tl with
      | none =>
        have hx : xs[t]? = some none := by rw [List.getElem?_eq_getElem tl, ho]
        have p2 : wr.cell? ⟨ga, t, none⟩ = some (.pointer none) := TS.at_ h hx
        have HX2 := hid hx
        clear ho hx
        go_wp2_with fail
        refine (turn_new w _ _ h).mono ?_
        rintro e v2 ⟨g, rfl, h4⟩
        clear h p2 z2 hcell
        have p2 : v2.cell? ⟨ga, t, none⟩ = some (.pointer none) := TS.at_ h4.drop HX2.out
        have z2 := TS.frozen h4.drop t
        have H5 := hid (TS.born h4 t)
        clear h4
        go_upto_region 15 with fail
        have h5 := H5.out
        generalize hW : World.setCell _ _ _ = W5 at h5 ⊢
        clear hW H5 p2 z2
        replace h5 := h5.drew
        refine wp_region_brk [] (by kernel_rfl) ?_
        refine wpAnyB_now (fun w' => w'.cell? ⟨ga, t, none⟩ = some (.pointer (some ⟨g, 0, none⟩)) ∧ w'.cell? ⟨gp, 0, none⟩ = some (.pointer (some ⟨m, 0, none⟩))) (fun _ _ => trivial) _ _ _ _ ?_
        refine' wpAnyB_bulk [true, true, true, true, true] 121 (listed' := #[true, true, true, true, true, false]) rfl (by kernel_rfl) (by kernel_rfl) (by kernel_rfl) (by kernel_rfl) (by kernel_rfl) (by kernel_rfl) (by decide) (fun _ _ _ _ h => h) rfl ⟨TN.at_ h5 tl, (TN.rest h5).blk.some_ (i := 0) rfl⟩ (fun wq hq => ?_) ?_; rotate_left 1
        · simp only [maskL]
          obtain ⟨q2, q0⟩ := hq
          repeat (go_big_quiet_step (fail))
          exact wpQuiet_nil rfl
        refine wpAnyB_bar [false, false, false, false, false, true] (fuel := 0) (by rfl) (by rfl) (by kernel_rfl) (fun QB hQB hQX => ?_)
        simp only [maskL]
        go_wp2_with fail
        refine (ts_take w _ h5 HT.out.ti.ok HX2.out).mono ?_
        rintro e v3 ⟨rfl, h6⟩
        clear h5
        go_wp2_with fail
        refine hQB.out _ _ ⟨(TS.at_ h6 (List.getElem?_set_self tl)).trans rfl, (TS.rest h6).blk.some_ (i := 0) rfl⟩ ?_
        clear hQB hQX QB
        refine wpAnyB_done (by kernel_rfl) ?_ _
        have HT2 := hid (HT.out.take HX2.out g (by omega))
        have p3 : v3.cell? ⟨ga, t, none⟩ = some (.pointer (some ⟨g, 0, none⟩)) := (TS.at_ h6 (List.getElem?_set_self tl)).trans rfl
        go_wp2_with fail
        refine (ts_done w _ h6 (List.getElem?_set_self tl)).mono ?_
        rintro e w' ⟨rfl, rfl⟩
        have H6 := hid h6
        clear h6 HT HX2 p3
        go_wp2_with fail
        go_round
        case rel => exact ⟨i + 1, _, _, S, T + 1, by omega, by go_num, HT2.out, by omega, H6.out⟩
        case measure => simp [intOf]; omega
      | some mm =>
        have hx : xs[t]? = some (some mm) := by rw [List.getElem?_eq_getElem tl, ho]
        have p2 : wr.cell? ⟨ga, t, none⟩ = some (.pointer (some ⟨mm.g, 0, none⟩)) := TS.at_ h hx
        have hr := HT.out.ti.rng t mm hx
        have HX2 := hid hx
        have tk0 : 0 ≤ mm.tk := by omega
        have tk1 : mm.tk ≤ 1000000 := by omega
        clear ho hx hr
        go_upto_region 15 with fail
        replace h := h.drew
        refine wp_region_brk [] (by kernel_rfl) ?_
        refine wpAnyB_now (fun w' => w'.cell? ⟨ga, t, none⟩ = some (.pointer (some ⟨mm.g, 0, none⟩)) ∧ w'.cell? ⟨gp, 0, none⟩ = some (.pointer (some ⟨m, 0, none⟩))) (fun _ _ => trivial) _ _ _ _ ?_
        refine' wpAnyB_bulk [true, true, true, true, true] 121 (listed' := #[true, true, true, true, true, false]) rfl (by kernel_rfl) (by kernel_rfl) (by kernel_rfl) (by kernel_rfl) (by kernel_rfl) (by kernel_rfl) (by decide) (fun _ _ _ _ h => h) rfl ⟨TS.at_ h HX2.out, (TS.rest h).blk.some_ (i := 0) rfl⟩ (fun wq hq => ?_) ?_; rotate_left 1
        · simp only [maskL]
          obtain ⟨q2, q0⟩ := hq
          repeat (go_big_quiet_step (fail))
          exact wpQuiet_nil rfl
        refine wpAnyB_bar [false, false, false, false, false, true] (fuel := 0) (by rfl) (by rfl) (by kernel_rfl) (fun QB hQB hQX => ?_)
        simp only [maskL]
        go_wp2_with fail
        refine (ts_step w _ h HT.out.ti.ok HX2.out).mono ?_
        rintro e v3 ⟨rfl, h6⟩
        clear h
        have hacc : ∃ ac : Acc, (if mm.dn then acc0 else ⟨1, 5, 0, valC C 5 0, valC C 5 0, true⟩) = ac := ⟨_, rfl⟩
        obtain ⟨ac, hac⟩ := hacc
        rw [hac]
        clear hac
        go_wp2_with fail
        refine hQB.out _ _ ⟨(TS.at_ h6 (List.getElem?_set_self tl)).trans rfl, (TS.rest h6).blk.some_ (i := 0) rfl⟩ ?_
        clear hQB hQX QB
        refine wpAnyB_done (by kernel_rfl) ?_ _
        rw [HT.out.ti.v5] at h6
        have HT2 := hid (HT.out.step HX2.out)
        obtain ⟨dn2, hdn2⟩ : ∃ dn2, dn2 = (mm.dn || (S == mm.tk)) := ⟨_, rfl⟩
        obtain ⟨xs2, hxs2⟩ : ∃ xs2, xs2 = xs.set t (some ⟨mm.g, mm.tk, dn2⟩) := ⟨_, rfl⟩
        have hx2 : xs2[t]? = some (some ⟨mm.g, mm.tk, dn2⟩) := by rw [hxs2]; exact List.getElem?_set_self tl
        rw [← hdn2, ← hxs2] at h6 HT2
        have tl2 : t < xs2.length := by rw [HT2.out.ti.len]; exact t4
        have hr := HT2.out.ti.rng t _ hx2
        have HX3 := hid hx2
        clear hxs2 hdn2 hx2 hr p2 z2 HT HX2
        have p3 : v3.cell? ⟨ga, t, none⟩ = some (.pointer (some ⟨mm.g, 0, none⟩)) := TS.at_ h6 HX3.out
        replace hcell : v3.cell? (ad.add i) = some (.int .i64 z) := h6.old hold.out
        go_wp2_with fail
        refine (ts_done w _ h6 HX3.out).mono ?_
        rintro e w' ⟨rfl, rfl⟩
        cases dn2
        · have H6 := hid h6
          clear h6 p3
          go_wp2_with fail
          go_round
          case rel => exact ⟨i + 1, C, xs2, S, T, by omega, by go_num, HT2.out, by omega, H6.out⟩
          case measure => simp [intOf]; omega
        · cases he : ((wrap64 (z.tdiv 4)).tmod 2 == 0)
          · have H6 := hid h6
            clear h6 p3
            go_wp2_with fail
            go_round
            case rel => exact ⟨i + 1, C, xs2, S, T, by omega, by go_num, HT2.out, by omega, H6.out⟩
            case measure => simp [intOf]; omega
          · go_upto_region 17 with fail
            replace h6 := h6.drew
            clear p3
            refine wp_region_brk [] (by kernel_rfl) ?_
            refine wpAnyB_now (fun w' => w'.cell? ⟨ga, t, none⟩ = some (.pointer (some ⟨mm.g, 0, none⟩)) ∧ w'.cell? ⟨gp, 0, none⟩ = some (.pointer (some ⟨m, 0, none⟩))) (fun _ _ => trivial) _ _ _ _ ?_
            refine' wpAnyB_bulk [true, true, true, true, true] 121 (listed' := #[true, true, true, true, true, false, false]) rfl (by kernel_rfl) (by kernel_rfl) (by kernel_rfl) (by kernel_rfl) (by kernel_rfl) (by kernel_rfl) (by decide) (fun _ _ _ _ h => h) rfl ⟨TS.at_ h6 HX3.out, (TS.rest h6).blk.some_ (i := 0) rfl⟩ (fun wq hq => ?_) ?_; rotate_left 1
            · simp only [maskL]
              obtain ⟨q2, q0⟩ := hq
              repeat (go_big_quiet_step (fail))
              exact wpQuiet_nil rfl
            refine wpAnyB_bar [false, false, false, false, false, true] (fuel := 1) (by rfl) (by rfl) (by kernel_rfl) (fun QB hQB hQX => ?_)
            simp only [maskL]
            go_wp2_with fail
            refine (ts_ticket w _ h6 HX3.out tk0 (by show mm.tk ≤ 9223372036854775807; omega)).mono ?_
            rintro e w' ⟨rfl, rfl⟩
            go_wp2_with fail
            refine hQB.out _ _ ⟨TS.at_ h6 HX3.out, (TS.rest h6).blk.some_ (i := 0) rfl⟩ ?_
            clear hQB hQX QB
            refine wpAnyB_bar [false, false, false, false, false, false, true] (fuel := 0) (by rfl) (by rfl) (by kernel_rfl) (fun QB hQB hQX => ?_)
            simp only [maskL]
            go_wp2_with fail
            refine (ts_pass w _ h6 HT2.out.ti.ok mm.tk tk0 (by omega)).mono ?_
            rintro e v4 ⟨rfl, h7⟩
            clear h6
            go_wp2_with fail
            refine hQB.out _ _ ⟨TS.at_ h7 HX3.out, (TS.rest h7).blk.some_ (i := 0) rfl⟩ ?_
            clear hQB hQX QB
            refine wpAnyB_done (by kernel_rfl) ?_ _
            have p3 : v4.cell? ⟨ga, t, none⟩ = some (.pointer (some ⟨mm.g, 0, none⟩)) := TS.at_ h7 HX3.out
            have z3 := TS.frozen h7 t
            have HT3 := hid (HT2.out.pass HX3.out rfl)
            have H8 := hid (TS.gone h7 tl2)
            clear h7 HT2 HX3
            go_wp2_with fail
            go_round
            case rel => exact ⟨i + 1, _, _, S + 1, T, by omega, by go_num, HT3.out, by omega, H8.out⟩
            case measure => simp [intOf]; omega
    · obtain rfl : i = n1 := by omega
      have e1 : decide ((i : Int) < (i : Int)) = false := by simp
      have hcap : T - S ≤ 4 := by
        have h1 := HT.out.cnt
        have h2 : xs.countP Option.isSome ≤ xs.length := List.countP_le_length
        rw [HT.out.ti.len] at h2
        omega
      have T60 : T ≤ 60 := by omega
      go_wp2_with fail
      go_loopw [10] (fun q wr => ∃ (rd : Nat) (C : Nat → List Int) (xs : List (Option TM)) (S : Int), rd ≤ 4 ∧ q = .int .i64 rd ∧ TL C xs S T ∧ T - S + rd ≤ 4 ∧ Hold w wr (TS ga m C xs (prA gp m r * Asr.emp))) (fun q _ => 4 - (intOf q).toNat)
      case atStart => exact ⟨0, C, xs, S, by omega, rfl, HT.out, by omega, h⟩
      case round =>
        clear h HT hcap hb
        obtain ⟨rd, C, xs, S, hrd, rfl, hTI, hcap, h⟩ := hrel
        have HT := hid hTI
        by_cases hl4 : rd < 4
        · have e2 : decide ((rd : Int) < 4) = true := decide_eq_true (by omega)
          have HR := hid (hTI.begin hcap hl4)
          clear hTI
          go_wp2_with fail
          go_loopw [11] (fun q wr => ∃ (t : Nat) (C : Nat → List Int) (xs : List (Option TM)) (S : Int), t ≤ 4 ∧ q = .int .i64 t ∧ TL C xs S T ∧ Rnd xs S T rd t ∧ Hold w wr (TS ga m C xs (prA gp m r * Asr.emp))) (fun q _ => 4 - (intOf q).toNat)
          case atStart => exact ⟨0, C, xs, S, by omega, rfl, HT.out, HR.out, h⟩
          case round =>
            clear h HT HR hcap
            obtain ⟨t, C, xs, S, ht4, rfl, hTI, hRnd, h⟩ := hrel
            have HT := hid hTI
            have HR := hid hRnd
            have hb := hTI.ti.b
            clear hTI hRnd
            by_cases t4 : t < 4
            · have e3 : decide ((t : Int) < 4) = true := decide_eq_true (by omega)
              have t4' : (t : Int) < 4 := by omega
              have t0' : (0 : Int) ≤ (t : Int) := by omega
              have tl : t < xs.length := by rw [HT.out.ti.len]; exact t4
              have z2 := TS.frozen h t
              cases ho : xs[t]'tl with
              | none =>
                have hx : xs[t]? = some none := by rw [List.getElem?_eq_getElem tl, ho]
                have p2 : wr.cell? ⟨ga, t, none⟩ = some (.pointer none) := TS.at_ h hx
                have HR2 := hid (HR.out.none_ hx)
                clear ho hx HR
                go_wp2_with fail
                go_round
                case rel => exact ⟨t + 1, C, xs, S, by omega, by go_num, HT.out, HR2.out, h⟩
                case measure => simp [intOf]; omega
              | some mm =>
                have hx : xs[t]? = some (some mm) := by rw [List.getElem?_eq_getElem tl, ho]
                have p2 : wr.cell? ⟨ga, t, none⟩ = some (.pointer (some ⟨mm.g, 0, none⟩)) := TS.at_ h hx
                have hr := HT.out.ti.rng t mm hx
                have HX2 := hid hx
                have tk0 : 0 ≤ mm.tk := by omega
                have tk1 : mm.tk ≤ 1000000 := by omega
                clear ho hx hr
                go_upto_region 26 with fail
                replace h := h.drew
                refine wp_region_brk [] (by kernel_rfl) ?_
                refine wpAnyB_now (fun w' => w'.cell? ⟨ga, t, none⟩ = some (.pointer (some ⟨mm.g, 0, none⟩)) ∧ w'.cell? ⟨gp, 0, none⟩ = some (.pointer (some ⟨m, 0, none⟩))) (fun _ _ => trivial) _ _ _ _ ?_
                refine' wpAnyB_bulk [true, true, true, true, true] 121 (listed' := #[true, true, true, true, true, false]) rfl (by kernel_rfl) (by kernel_rfl) (by kernel_rfl) (by kernel_rfl) (by kernel_rfl) (by kernel_rfl) (by decide) (fun _ _ _ _ h => h) rfl ⟨TS.at_ h HX2.out, (TS.rest h).blk.some_ (i := 0) rfl⟩ (fun wq hq => ?_) ?_; rotate_left 1
                · simp only [maskL]
                  obtain ⟨q2, q0⟩ := hq
                  repeat (go_big_quiet_step (fail))
                  exact wpQuiet_nil rfl
                refine wpAnyB_bar [false, false, false, false, false, true] (fuel := 0) (by rfl) (by rfl) (by kernel_rfl) (fun QB hQB hQX => ?_)
                simp only [maskL]
                go_wp2_with fail
                refine (ts_step w _ h HT.out.ti.ok HX2.out).mono ?_
                rintro e v3 ⟨rfl, h6⟩
                clear h
                have hacc : ∃ ac : Acc, (if mm.dn then acc0 else ⟨1, 5, 0, valC C 5 0, valC C 5 0, true⟩) = ac := ⟨_, rfl⟩
                obtain ⟨ac, hac⟩ := hacc
                rw [hac]
                clear hac
                go_wp2_with fail
                refine hQB.out _ _ ⟨(TS.at_ h6 (List.getElem?_set_self tl)).trans rfl, (TS.rest h6).blk.some_ (i := 0) rfl⟩ ?_
                clear hQB hQX QB
                refine wpAnyB_done (by kernel_rfl) ?_ _
                rw [HT.out.ti.v5] at h6
                have HT2 := hid (HT.out.step HX2.out)
                obtain ⟨dn2, hdn2⟩ : ∃ dn2, dn2 = (mm.dn || (S == mm.tk)) := ⟨_, rfl⟩
                have HR2 : Hid (dn2 = false → Rnd (xs.set t (some ⟨mm.g, mm.tk, dn2⟩)) S T rd (t + 1)) := hid fun hf => HR.out.wait HX2.out (by
                  rw [hdn2] at hf
                  have h1 := (Bool.or_eq_false_iff.1 hf).2
                  rintro h2
                  rw [h2] at h1
                  simp at h1)
                obtain ⟨xs2, hxs2⟩ : ∃ xs2, xs2 = xs.set t (some ⟨mm.g, mm.tk, dn2⟩) := ⟨_, rfl⟩
                have hx2 : xs2[t]? = some (some ⟨mm.g, mm.tk, dn2⟩) := by rw [hxs2]; exact List.getElem?_set_self tl
                rw [← hdn2, ← hxs2] at h6 HT2
                rw [← hxs2] at HR2
                have tl2 : t < xs2.length := by rw [HT2.out.ti.len]; exact t4
                have HX3 := hid hx2
                clear hxs2 hdn2 hx2 p2 z2 HT HX2
                have p3 : v3.cell? ⟨ga, t, none⟩ = some (.pointer (some ⟨mm.g, 0, none⟩)) := TS.at_ h6 HX3.out
                go_wp2_with fail
                refine (ts_done w _ h6 HX3.out).mono ?_
                rintro e w' ⟨rfl, rfl⟩
                cases dn2
                · have H6 := hid h6
                  have HR3 := hid (HR2.out rfl)
                  clear h6 p3 HR2
                  go_wp2_with fail
                  go_round
                  case rel => exact ⟨t + 1, C, xs2, S, by omega, by go_num, HT2.out, HR3.out, H6.out⟩
                  case measure => simp [intOf]; omega
                · go_upto_region 28 with fail
                  replace h6 := h6.drew
                  clear p3 HR2
                  refine wp_region_brk [] (by kernel_rfl) ?_
                  refine wpAnyB_now (fun w' => w'.cell? ⟨ga, t, none⟩ = some (.pointer (some ⟨mm.g, 0, none⟩)) ∧ w'.cell? ⟨gp, 0, none⟩ = some (.pointer (some ⟨m, 0, none⟩))) (fun _ _ => trivial) _ _ _ _ ?_
                  refine' wpAnyB_bulk [true, true, true, true, true] 121 (listed' := #[true, true, true, true, true, false, false]) rfl (by kernel_rfl) (by kernel_rfl) (by kernel_rfl) (by kernel_rfl) (by kernel_rfl) (by kernel_rfl) (by decide) (fun _ _ _ _ h => h) rfl ⟨TS.at_ h6 HX3.out, (TS.rest h6).blk.some_ (i := 0) rfl⟩ (fun wq hq => ?_) ?_; rotate_left 1
                  · simp only [maskL]
                    obtain ⟨q2, q0⟩ := hq
                    repeat (go_big_quiet_step (fail))
                    exact wpQuiet_nil rfl
                  refine wpAnyB_bar [false, false, false, false, false, true] (fuel := 1) (by rfl) (by rfl) (by kernel_rfl) (fun QB hQB hQX => ?_)
                  simp only [maskL]
                  go_wp2_with fail
                  refine (ts_ticket w _ h6 HX3.out tk0 (by show mm.tk ≤ 9223372036854775807; omega)).mono ?_
                  rintro e w' ⟨rfl, rfl⟩
                  go_wp2_with fail
                  refine hQB.out _ _ ⟨TS.at_ h6 HX3.out, (TS.rest h6).blk.some_ (i := 0) rfl⟩ ?_
                  clear hQB hQX QB
                  refine wpAnyB_bar [false, false, false, false, false, false, true] (fuel := 0) (by rfl) (by rfl) (by kernel_rfl) (fun QB hQB hQX => ?_)
                  simp only [maskL]
                  go_wp2_with fail
                  refine (ts_pass w _ h6 HT2.out.ti.ok mm.tk tk0 (by omega)).mono ?_
                  rintro e v4 ⟨rfl, h7⟩
                  clear h6
                  go_wp2_with fail
                  refine hQB.out _ _ ⟨TS.at_ h7 HX3.out, (TS.rest h7).blk.some_ (i := 0) rfl⟩ ?_
                  clear hQB hQX QB
                  refine wpAnyB_done (by kernel_rfl) ?_ _
                  have p3 : v4.cell? ⟨ga, t, none⟩ = some (.pointer (some ⟨mm.g, 0, none⟩)) := TS.at_ h7 HX3.out
                  have z3 := TS.frozen h7 t
                  have HT3 := hid (HT2.out.pass HX3.out rfl)
                  have H8 := hid (TS.gone h7 tl2)
                  clear h7 HT2 HX3
                  go_wp2_with fail
                  go_round
                  case rel => exact ⟨t + 1, _, _, S + 1, by omega, by go_num, HT3.out, HR.out.pass, H8.out⟩
                  case measure => simp [intOf]; omega
            · obtain rfl : t = 4 := by omega
              have e3 : decide (((4 : Nat) : Int) < 4) = false := rfl
              have hcap2 : T - S + (rd + 1 : Nat) ≤ 4 := HR.out.end_ HT.out.ti.len
              clear HR
              go_wp2_with fail
              go_round
              case rel => exact ⟨rd + 1, C, xs, S, by omega, by go_num, HT.out, hcap2, h⟩
              case measure => simp [intOf]; omega
        · obtain rfl : rd = 4 := by omega
          have e2 : decide (((4 : Nat) : Int) < 4) = false := rfl
          obtain ⟨rfl, hTS⟩ := hTI.over (by omega)
          have HK := hid (And.intro hTI.ti.ok (And.intro hTI.ti.v4 hTI.ti.v5))
          have HS := hid hTS
          clear hTI hTS HT hcap
          have p0 := (TS.rest h).blk.some_ (i := 0) rfl
          go_wp2_with fail
          refine (image_any w _ _ m C (h.pk3 [2, 0, 1]) HK.out.1).mono ?_
          rintro e v4 ⟨y, rfl, h4⟩
          unfold imgV
          rw [← valC_w4 C, HK.out.2.1, show w1 C 5 = S from (valC_w5 C).symm.trans HK.out.2.2]
          have h5 := h4.rest
          have h6 : Hold w v4 (TS ga m C [none, none, none, none] (prA gp m r * Asr.emp)) := h5.pk3 [1, 2, 0]
          have H7 := hid (Hold.newBlk (t := 51) (cs := #[slV C y 1, slV C y 2, .int .u64 (w1 C 3), .int .u64 T, .int .u64 S, slV C y 6, slV C y 7, slV C y 8]) h6)
          clear h p0 h4 h5 h6
          go_upto_region 31 with fail
          have h7 := H7.out
          generalize hW : World.alloc _ _ = W7 at h7 ⊢
          generalize v4.heap.size = gi at h7 ⊢
          clear hW H7
          have p3 := h7.blk.some_ (i := 3) rfl
          have p4 := h7.blk.some_ (i := 4) rfl
          have a0 : W7.cell? ⟨ga, 0, none⟩ = some (.pointer none) := TS.at_ h7.drop (t := 0) rfl
          have a1 : W7.cell? ⟨ga, 1, none⟩ = some (.pointer none) := TS.at_ h7.drop (t := 1) rfl
          have a2 : W7.cell? ⟨ga, 2, none⟩ = some (.pointer none) := TS.at_ h7.drop (t := 2) rfl
          have a3 : W7.cell? ⟨ga, 3, none⟩ = some (.pointer none) := TS.at_ h7.drop (t := 3) rfl
          have e4 : (T == S) = true := by simp [HS.out]
          have ae := arr_nil_eq W7
          go_wp2_with fail
          refine (awake10_any w _ _ h7).mono ?_
          rintro e v5 ⟨rfl, h8⟩
          have H8 := hid h8.below
          clear h7 h8 p3 p4 a0 a1 a2 a3 ae
          go_wp2_with fail
          go_ret
          exact ⟨rfl, H8.out⟩
end Go.Proofs.Ytddghhddafeojaa
