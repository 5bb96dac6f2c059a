/- strongtxlaw11: FreelistKeeps. -/
import Derived.Test.YtigjpfhjddkckaaFlkp
import Derived.Test.YtigjpfhjddkckaaFlks
import Derived.Test.YtigjpfhjddkckaaQue
import Derived.Test.YtigjpfhjddkckaaWd
namespace Go.Proofs.Ytigjpfhjddkckaa
open Go.RowKit
set_option linter.unusedVariables false

theorem popN_gk (hs ns : List Int) (m : PM) : (popN hs ns m).g = m.g := by
  unfold popN
  split
  · rfl
  · split
    · rfl
    · split <;> rfl
theorem pushN_gk (hs : List Int) (q : QM) : (pushN hs q).g = q.g := by
  unfold pushN
  split
  · rfl
  · split
    · rfl
    · split <;> rfl
theorem PW.fresh2 {hs ns : List Int} {B : Int} {g k : Nat} (hk : k < 4) : PW hs ns B ⟨g, k, 0, 0, 0, -1⟩ := PW.fresh hk
theorem arr_popK (w0 w : World) (R : Asr) (ga t r : Nat) (C : Nat → List Int) (hs ns : List Int) (B : Int) (xs : List (Option PM)) (m : PM) (h : Hold w0 w (arrP 67 pmA PM.g ga xs * (memA r C * R))) (ht : xs[t]? = some (some m)) (v : FV C hs ns) (f : FI hs ns B) (hB : B ≤ 1000) (p : PW hs ns B m) :
    Calls Try.prog 23 #[.pointer (some ⟨m.g, 0, none⟩), .pointer (some ⟨r, 0, none⟩)] w (RAccPost w0 (arrP 67 pmA PM.g ga (xs.set t (some (popN hs ns m))) * (memA r (popC C m) * R)) (popA hs ns m)) :=
  (po_step w0 w _ r C hs ns B m ((arr_take h ht).pk3 [0, 2, 1]) v f hB p).mono fun e w' ⟨he, h'⟩ => ⟨he, arr_give (h'.pk3 [0, 2, 1]) ht (popN_gk hs ns m)⟩
theorem arr_pushK (w0 w : World) (R : Asr) (gb t r : Nat) (C : Nat → List Int) (hs ns : List Int) (B : Int) (ys : List (Option QM)) (q : QM) (h : Hold w0 w (arrP 68 qmA QM.g gb ys * (memA r C * R))) (ht : ys[t]? = some (some q)) (v : FV C hs ns) (f : FI hs ns B) (hB : B ≤ 1000) (p : QW hs ns B q) :
    Calls Try.prog 27 #[.pointer (some ⟨q.g, 0, none⟩), .pointer (some ⟨r, 0, none⟩)] w (RAccPost w0 (arrP 68 qmA QM.g gb (ys.set t (some (pushN hs q))) * (memA r (pushC C q) * R)) (pushA hs ns q)) :=
  (pu_step w0 w _ r C hs ns B q ((arr_take h ht).pk3 [0, 2, 1]) v f hB p).mono fun e w' ⟨he, h'⟩ => ⟨he, arr_give (h'.pk3 [0, 2, 1]) ht (pushN_gk hs q)⟩
theorem qm_done (w0 w : World) (R : Asr) (q : QM) (h : Hold w0 w (qmA q * R)) : Calls Try.prog 29 #[.pointer (some ⟨q.g, 0, none⟩)] w fun e w' => e = .returned (.bool (q.at_ == 3)) ∧ w = w' := by
  have h1 := pu_done w0 w R q.g q.cl q.bk q.at_ q.hd h
  rw [show (((q.at_ : Nat) : Int) == 3) = (q.at_ == 3) from by
    rw [Bool.eq_iff_iff]; simp; omega] at h1
  exact h1
/-- What a round leaves. -/
structure RK (hs ns : List Int) (L : Nat → List Nat) (held : List Nat) (xs : List (Option PM)) (ys : List (Option QM)) (pv : List Int) (B n : Nat) : Prop where
  ki : KI hs ns L held xs ys B
  xl : xs.length = 4
  yl : ys.length = 4
  pl : pv.length = 4
  pv : ∀ (t : Nat) (q : QM), ys[t]? = some (some q) → pv.getD t 0 = q.bk
  bk : ∀ (t : Nat) (m : PM), xs[t]? = some (some m) → m.bk = -1
  hl : held.length ≤ n
section
variable {hs ns hs2 ns2 : List Int} {L L2 : Nat → List Nat} {held held2 : List Nat} {xs : List (Option PM)} {ys : List (Option QM)} {pv : List Int} {B B2 n n2 t : Nat}
theorem RK.setX (h : RK hs ns L held xs ys pv B n) {o : Option PM} (hki : KI hs2 ns2 L2 held2 (xs.set t o) ys B2) (ho : ∀ m, o = some m → m.bk = -1) (hh : held2.length ≤ n2) : RK hs2 ns2 L2 held2 (xs.set t o) ys pv B2 n2 :=
  ⟨hki, by simp [h.xl], h.yl, h.pl, h.pv, fun k m hk => by
    rcases set_cases hk with ⟨_, he, _⟩ | ⟨_, hk⟩
    · exact ho m he.symm
    · exact h.bk k m hk, hh⟩
theorem RK.setY (h : RK hs ns L held xs ys pv B n) {o : Option QM} (hki : KI hs2 ns2 L2 held2 xs (ys.set t o) B2) (ho : ∀ q, o = some q → pv.getD t 0 = q.bk) (hh : held2.length ≤ n2) : RK hs2 ns2 L2 held2 xs (ys.set t o) pv B2 n2 :=
  ⟨hki, h.xl, by simp [h.yl], h.pl, fun k q hk => by
    rcases set_cases hk with ⟨rfl, he, _⟩ | ⟨_, hk⟩
    · exact ho q he.symm
    · exact h.pv k q hk, h.bk, hh⟩
theorem RK.push {b g : Nat} (h : RK hs ns L (b :: held) xs ys pv B n) (ht : ys[t]? = some none) (hn : held.length ≤ n2) (hB : B ≤ B2) (hB2 : (B2 : Int) ≤ 1000) : RK hs ns L held xs (ys.set t (some ⟨g, fcls b, b, 0, 0⟩)) (pv.set t b) B2 n2 := by
  have htl : t < pv.length := by rw [h.pl, ← h.yl]; exact (List.getElem?_eq_some_iff.1 ht).1
  refine ⟨(h.ki.pushNew ht g).mono (by omega) hB2, h.xl, by simp [h.yl], by simp [h.pl], fun k q hk => ?_, h.bk, hn⟩
  rw [getD_set htl]
  rcases set_cases hk with ⟨rfl, he, _⟩ | ⟨hne, hk⟩
  · obtain rfl := Option.some.inj he
    rw [if_pos rfl]
  · rw [if_neg hne]; exact h.pv k q hk
theorem pvSet (pv : List Int) (t : Nat) (b : Int) : ((pv.map (Value.int .i64)).toArray.setIfInBounds t (.int .i64 b)) = ((pv.set t b).map (Value.int .i64)).toArray := by simp [List.map_set]
theorem queSome {w0 w : World} {R : Asr} {e : TypeId} {A : Option Addr} {n c : Nat} {x : Value} {xs : List Value} (h : Hold w0 w (queA e (.slice A n c) (x :: xs) * R)) : ∃ ad, A = some ad := by
  obtain ⟨fp, h⟩ := h.get
  obtain ⟨h1, _, _, b, h4, _⟩ := queReads h
  obtain ⟨ad, hA, _⟩ := h4.cellAt (k := 0) (by rw [h1]; simp)
  exact ⟨ad, hA⟩
end
set_option maxRecDepth 8000 in
set_option maxHeartbeats 16000000 in
theorem freelistKeeps_any (A0 A1 : Option Addr) (n0 c0 n1 c1 bb0 bb1 : Nat) (x0 x1 : List Int) (w : World) (hA0 : Reads w bb0 A0 n0 (x0.map (Value.int .i64))) (hA1 : Reads w bb1 A1 n1 (x1.map (Value.int .i64))) (le0 : n0 ≤ 9223372036854775807) (le1 : n1 ≤ 9223372036854775807) :
    Calls Try.prog 5 #[.slice A0 n0 c0, .slice A1 n1 c1] w (fun e w' => e = .returned (.bool true) ∧ Below w.heap.size w w') := by
  obtain ⟨iI, hiI, hzI0, hzI1, hzI2⟩ := info_parts info_intF
  have HX0 := hid hA0
  have HX1 := hid hA1
  clear hA0 hA1
  by_cases hp : 90 < n1
  · have ep : decide ((90 : Int) < (n1 : Int)) = true := decide_eq_true (by omega)
    have h := Hold.start w
    go_enter Try.func5, Try.ntmps5
    go_wp2_with fail
    refine (awake11_any w _ _ h).mono ?_
    rintro e v5 ⟨rfl, h6⟩
    have H6 := hid h6.below
    clear h h6
    go_wp2_with fail
    go_ret
    exact ⟨rfl, H6.out⟩
  have ep : decide ((90 : Int) < (n1 : Int)) = false := decide_eq_false (by omega)
  go_enter Try.func5, Try.ntmps5
  go_wp2_with fail
  refine (heap11_any w _ _ (Hold.start w)).mono ?_
  rintro e u1 ⟨rfl, h1⟩
  go_wp2_with fail
  refine (lab_start w _ _ cfH 4 cfH_ok (by decide) h1).mono ?_
  rintro e u2 ⟨m, r, rfl, h2⟩
  replace h2 : Hold w u2 (memA m (cH 4) * (refA r cfH (cH 4) * Asr.emp)) := h2
  have HV := hid (cH_fv (th := 4) (by decide))
  generalize cH 4 = C0 at h2 HV
  have H3 := hid ((h2.newBlk (t := 27) (cs := #[.pointer (some ⟨m, 0, none⟩), .pointer (some ⟨r, 0, none⟩)])).pk3 [1, 2, 0])
  clear h1 h2
  have H3 := hid (((H3.out.newBlk (t := 67) (cs := #[.pointer none, .pointer none, .pointer none, .pointer none])).newBlk (t := 68) (cs := #[.pointer none, .pointer none, .pointer none, .pointer none])).newBlk (t := 30) (cs := #[.int .i64 0, .int .i64 0, .int .i64 0, .int .i64 0]))
  simp only [World.size_alloc] at H3
  go_wp2_with fail
  have h3 := H3.out
  generalize hW : World.alloc _ _ = W3 at h3 ⊢
  clear hW H3 ep
  try rw [show u2.heap.size + 1 + 1 + 1 = u2.heap.size + 3 by omega] at h3
  try rw [show u2.heap.size + 1 + 1 = u2.heap.size + 2 by omega] at h3
  try rw [show u2.heap.size + 1 + 1 = u2.heap.size + 2 by omega]
  try rw [show u2.heap.size + 1 + 1 + 1 = u2.heap.size + 3 by omega]
  generalize u2.heap.size + 3 = gq at h3 ⊢
  generalize u2.heap.size + 2 = gb at h3 ⊢
  generalize u2.heap.size + 1 = ga at h3 ⊢
  generalize u2.heap.size = gp at h3 ⊢
  have h4 : Hold w W3 (arrP 67 pmA PM.g ga [none, none, none, none] * (arrP 68 qmA QM.g gb [none, none, none, none] * (blkA 30 gq ([0, 0, 0, 0].map (Value.int .i64)).toArray * (queA 3 (.slice none 0 0) ((toI []).map (Value.int .i64)) * (memA m C0 * (refA r cfH C0 * (prA gp m r * Asr.emp))))))) := by
    have ha : Hold w W3 (arrP 67 pmA PM.g ga [none, none, none, none] * _) := arr_init (xs := [none, none, none, none]) (h3.pk3 [2, 1, 0]) (by simp)
    have hb : Hold w W3 (arrP 68 qmA QM.g gb [none, none, none, none] * _) := arr_init (xs := [none, none, none, none]) (ha.pk2 [1, 0]) (by simp)
    have hc : Hold w W3 (queA 3 (.slice none 0 0) ((toI []).map (Value.int .i64)) * _) := hb.nilQue 3
    exact hc.pk7 [2, 1, 3, 0, 4, 5, 6]
  have HK0 : Hid (RK hs0 ns0 L0 [] [none, none, none, none] [none, none, none, none] [0, 0, 0, 0] 0 0) := hid ⟨ki0 _ _ (by simp) (by simp), rfl, rfl, rfl, fun t q hq => by
    match t, hq with
    | 0, hq => cases hq
    | 1, hq => cases hq
    | 2, hq => cases hq
    | 3, hq => cases hq
    | t + 4, hq => simp at hq, fun t q hq => by
    match t, hq with
    | 0, hq => cases hq
    | 1, hq => cases hq
    | 2, hq => cases hq
    | 3, hq => cases hq
    | t + 4, hq => simp at hq, Nat.le_refl _⟩
  clear h3
  go_loopw [10, 11, 12] (fun hv s j wr => ∃ (i q : Nat) (C : Nat → List Int) (hs ns : List Int) (L : Nat → List Nat) (held : List Nat) (xs : List (Option PM)) (ys : List (Option QM)) (pv : List Int), i ≤ n1 ∧ q ≤ i ∧ j = .int .i64 i ∧ s = .int .i64 q ∧ FV C hs ns ∧ RK hs ns L held xs ys pv i i ∧ Hold w wr (arrP 67 pmA PM.g ga xs * (arrP 68 qmA QM.g gb ys * (blkA 30 gq (pv.map (Value.int .i64)).toArray * (queA 3 hv ((toI held).map (Value.int .i64)) * (memA m C * (refA r cfH C0 * (prA gp m r * Asr.emp)))))))) (fun _ _ j _ => n1 - (intOf j).toNat)
  case atStart => exact ⟨0, 0, C0, hs0, ns0, L0, [], _, _, _, by omega, by omega, rfl, rfl, HV.out, HK0.out, h4⟩
  case round =>
    clear h4 HK0 HV
    obtain ⟨i, q, C, hs, ns, L, held, xs, ys, pv, hi, hqi, rfl, rfl, hvv, hk, h⟩ := hrel
    have HV := hid hvv
    have HK := hid hk
    have ib : (i : Int) + 1 ≤ 1000 := by omega
    clear hvv hk
    by_cases hlt : i < n1
    · have e1 : decide ((i : Int) < (n1 : Int)) = true := decide_eq_true (by omega)
      have i0 : (0 : Int) ≤ (i : Int) := by omega
      have i1 : (i : Int) < (n1 : Int) := by omega
      obtain ⟨ad, rfl, _, hcell⟩ := (HX1.out.below h.below).numAt hlt
      obtain ⟨z, hz⟩ : ∃ z, z = x1.getD i 0 := ⟨_, rfl⟩
      rw [← hz] at hcell
      have HZ := hid hz
      clear hz
      obtain ⟨t, ht⟩ : ∃ t : Nat, place z 4 = t := ⟨(place z 4).toNat, by have := place_nonneg z 4 (by omega); omega⟩
      have t4 : t < 4 := by have := place_lt z 4 (by omega); omega
      have t4' : (t : Int) < 4 := by omega
      have t0' : (0 : Int) ≤ (t : Int) := by omega
      have Ht := hid ht
      have tlx : t < xs.length := by rw [HK.out.xl]; exact t4
      have tly : t < ys.length := by rw [HK.out.yl]; exact t4
      clear ht
      go_wp2_with fail
      refine (place_any _ _ _ (by omega) (by omega)).mono ?_
      rintro e w' ⟨rfl, rfl⟩
      rw [Ht.out]
      clear Ht hcell
      go_upto_block 2 with fail
      go_cut [10, 11, 12, 13] (fun hv s j tt wx => j = .int .i64 i ∧ tt = .int .i64 t ∧ ∃ (q : Nat) (C : Nat → List Int) (hs ns : List Int) (L : Nat → List Nat) (held : List Nat) (xs : List (Option PM)) (ys : List (Option QM)) (pv : List Int), s = .int .i64 q ∧ q ≤ i + 1 ∧ FV C hs ns ∧ RK hs ns L held xs ys pv (i + 1) (i + 1) ∧ Hold w wx (arrP 67 pmA PM.g ga xs * (arrP 68 qmA QM.g gb ys * (blkA 30 gq (pv.map (Value.int .i64)).toArray * (queA 3 hv ((toI held).map (Value.int .i64)) * (memA m C * (refA r cfH C0 * (prA gp m r * Asr.emp))))))))
      case first =>
        cases hoy : ys[t]'tly with
        | some qm =>
          have hy : ys[t]? = some (some qm) := by rw [List.getElem?_eq_getElem tly, hoy]
          have HY := hid hy
          have p2 := arr_some (h.pk2 [1, 0]) hy
          obtain ⟨q2, hq2⟩ : ∃ q2, q2 = pushN hs qm := ⟨_, rfl⟩
          have hg2 : q2.g = qm.g := by rw [hq2]; exact pushN_gk _ _
          have hst := HK.out.ki.pushStep ib hy
          rw [← hq2] at hst
          have HST := hid hst
          have HQ2 := hid (And.intro hq2 hg2)
          have HY2 : Hid ((ys.set t (some q2))[t]? = some (some q2)) := hid (List.getElem?_set_self tly)
          clear hoy hy hq2 hg2 hst
          go_upto_region 20 with fail
          clear p2
          replace h := h.drew
          refine wp_region_brk [] (by kernel_rfl) ?_
          refine wpAnyB_now (fun w' => w'.cell? ⟨gb, t, none⟩ = some (.pointer (some ⟨qm.g, 0, none⟩)) ∧ w'.cell? ⟨gp, 0, none⟩ = some (.pointer (some ⟨m, 0, none⟩))) (fun _ _ => trivial) _ _ _ _ ?_
          refine' wpAnyB_bulk [true, true, true, true, true] 138 (listed' := #[true, true, true, true, true, false]) rfl (by kernel_rfl) (by kernel_rfl) (by kernel_rfl) (by kernel_rfl) (by kernel_rfl) (by kernel_rfl) (by decide) (fun _ _ _ _ h => h) rfl ⟨arr_some (h.pk2 [1, 0]) HY.out, (h.pk7 [6]).blk.some_ (i := 0) rfl⟩ (fun wq hq => ?_) ?_; rotate_left 1
          · simp only [maskL]
            obtain ⟨q1, q0⟩ := hq
            repeat (go_big_quiet_step (fail))
            exact wpQuiet_nil rfl
          refine wpAnyB_bar [false, false, false, false, false, true] (fuel := 0) (by rfl) (by rfl) (by kernel_rfl) (fun QB hQB hQX => ?_)
          simp only [maskL]
          go_wp2_with fail
          refine (arr_pushK w _ _ gb t m C hs ns i ys qm (h.pk5 [1, 4, 0, 2, 3]) HY.out HV.out HK.out.ki.fi (by omega) (HK.out.ki.qy t qm HY.out)).mono ?_
          rintro e v3 ⟨rfl, h6⟩
          rw [← HQ2.out.1] at h6
          generalize pushA hs ns qm = ac
          clear h
          go_wp2_with fail
          refine hQB.out _ _ ⟨(arr_some h6 HY2.out).trans (by rw [HQ2.out.2]), (h6.pk7 [6]).blk.some_ (i := 0) rfl⟩ ?_
          clear hQB hQX QB
          refine wpAnyB_done (by kernel_rfl) ?_ _
          have HV2 := hid (pushC_fv HV.out HK.out.ki.fi (HK.out.ki.qy t qm HY.out))
          generalize pushC C qm = C2 at h6 HV2
          have p2 := arr_some h6 HY2.out
          have hdn := hid (qm_done w _ _ q2 (arr_take h6 HY2.out))
          go_wp2_with fail
          refine hdn.out.mono ?_
          rintro e w' ⟨rfl, rfl⟩
          clear hdn
          rcases HST.out with ⟨L', h3, hki⟩ | ⟨h3, hbk, hki⟩
          · rw [show (q2.at_ == 3) = true by simp [h3]]
            have z2 := arr_frozen h6 t
            have HRK := hid (HK.out.setY (n2 := i + 1) (B2 := i + 1) (by simpa using hki) (fun q hq => by cases hq) (by have := HK.out.hl; omega))
            have h7 := arr_gone h6 (t := t) (by rw [List.length_set]; exact tly)
            rw [List.set_set] at h7
            have H7 := hid (h7.pk5 [2, 0, 3, 4, 1])
            clear h6 h7 h3 hki HST HQ2 HY2 HK HV
            go_wp2_with fail
            go_meet
            exact ⟨rfl, rfl, q, C2, _, _, L', held, xs, _, pv, rfl, by omega, HV2.out, HRK.out, H7.out⟩
          · rw [show (q2.at_ == 3) = false by simp [h3]]
            have HRK := hid (HK.out.setY (n2 := i + 1) (B2 := i + 1) (by simpa using hki) (fun q hq => by
              obtain rfl := Option.some.inj hq
              rw [hbk]
              exact HK.out.pv t qm HY.out) (by have := HK.out.hl; omega))
            have H7 := hid (h6.pk5 [2, 0, 3, 4, 1])
            clear h6 h3 hki p2 HST HY2 HK HV
            go_wp2_with fail
            go_meet
            exact ⟨rfl, rfl, q, C2, _, _, L, held, xs, _, pv, rfl, by omega, HV2.out, HRK.out, H7.out⟩
        | none =>
          have hy : ys[t]? = some none := by rw [List.getElem?_eq_getElem tly, hoy]
          have HY := hid hy
          have p2 := arr_none (h.pk2 [1, 0]) hy
          clear hoy hy
          cases hox : xs[t]'tlx with
          | some pm =>
            have hx : xs[t]? = some (some pm) := by rw [List.getElem?_eq_getElem tlx, hox]
            have HX := hid hx
            have p3 := arr_some h hx
            obtain ⟨m2, hm2⟩ : ∃ m2, m2 = popN hs ns pm := ⟨_, rfl⟩
            have hg2 : m2.g = pm.g := by rw [hm2]; exact popN_gk _ _ _
            have hst := HK.out.ki.popStep ib hx
            rw [← hm2] at hst
            have HST := hid hst
            have HM2 := hid (And.intro hm2 hg2)
            have HX2 : Hid ((xs.set t (some m2))[t]? = some (some m2)) := hid (List.getElem?_set_self tlx)
            clear hox hx hm2 hg2 hst
            go_upto_region 24 with fail
            clear p2 p3
            replace h := h.drew
            refine wp_region_brk [] (by kernel_rfl) ?_
            refine wpAnyB_now (fun w' => w'.cell? ⟨ga, t, none⟩ = some (.pointer (some ⟨pm.g, 0, none⟩)) ∧ w'.cell? ⟨gp, 0, none⟩ = some (.pointer (some ⟨m, 0, none⟩))) (fun _ _ => trivial) _ _ _ _ ?_
            refine' wpAnyB_bulk [true, true, true, true, true] 138 (listed' := #[true, true, true, true, true, false]) rfl (by kernel_rfl) (by kernel_rfl) (by kernel_rfl) (by kernel_rfl) (by kernel_rfl) (by kernel_rfl) (by decide) (fun _ _ _ _ h => h) rfl ⟨arr_some h HX.out, (h.pk7 [6]).blk.some_ (i := 0) rfl⟩ (fun wq hq => ?_) ?_; rotate_left 1
            · simp only [maskL]
              obtain ⟨q1, q0⟩ := hq
              repeat (go_big_quiet_step (fail))
              exact wpQuiet_nil rfl
            refine wpAnyB_bar [false, false, false, false, false, true] (fuel := 0) (by rfl) (by rfl) (by kernel_rfl) (fun QB hQB hQX => ?_)
            simp only [maskL]
            go_wp2_with fail
            refine (arr_popK w _ _ ga t m C hs ns i xs pm (h.pk5 [0, 4, 1, 2, 3]) HX.out HV.out HK.out.ki.fi (by omega) (HK.out.ki.px t pm HX.out)).mono ?_
            rintro e v3 ⟨rfl, h6⟩
            rw [← HM2.out.1] at h6
            generalize popA hs ns pm = ac
            clear h
            go_wp2_with fail
            refine hQB.out _ _ ⟨(arr_some h6 HX2.out).trans (by rw [HM2.out.2]), (h6.pk7 [6]).blk.some_ (i := 0) rfl⟩ ?_
            clear hQB hQX QB
            refine wpAnyB_done (by kernel_rfl) ?_ _
            have HV2 := hid (popC_fv HV.out HK.out.ki.fi (HK.out.ki.px t pm HX.out))
            generalize popC C pm = C2 at h6 HV2
            have p2 := arr_some h6 HX2.out
            have hdn := hid (pm_done w _ _ m2 (arr_take h6 HX2.out))
            have hbk := hid (pm_block w _ _ m2 (arr_take h6 HX2.out))
            go_wp2_with fail
            refine hdn.out.mono ?_
            rintro e w' ⟨rfl, rfl⟩
            clear hdn
            rcases HST.out with ⟨h3, hb, hki⟩ | ⟨b, L', h3, hb, hb6, hki⟩ | ⟨h3, hb, hki⟩
            · rw [show (m2.at_ == 3) = true by simp [h3]]
              have hb1 : m2.bk = -1 := hb.trans (HK.out.bk t pm HX.out)
              have z2 := arr_frozen h6 t
              have HRK := hid (HK.out.setX (n2 := i + 1) (B2 := i + 1) (by simpa using hki) (fun q hq => by cases hq) (by have := HK.out.hl; omega))
              have h7 := arr_gone h6 (t := t) (by rw [List.length_set]; exact tlx)
              rw [List.set_set] at h7
              have H7 := hid (h7.pk5 [0, 2, 3, 4, 1])
              have HB1 := hid hb1
              clear h6 h7 h3 hki hb hb1 HST HM2 HX2 HK HV
              go_wp2_with fail
              refine hbk.out.mono ?_
              rintro e w' ⟨rfl, rfl⟩
              rw [HB1.out]
              clear hbk
              go_wp2_with fail
              go_meet
              exact ⟨rfl, rfl, q, C2, _, _, L, held, _, ys, pv, rfl, by omega, HV2.out, HRK.out, H7.out⟩
            · rw [show (m2.at_ == 3) = true by simp [h3]]
              have HRK := hid (HK.out.setX (n2 := i + 1) (B2 := i + 1) (by simpa using hki) (fun q hq => by cases hq) (by have := HK.out.hl; simp; omega))
              have eb : decide (0 ≤ (b : Int)) = true := decide_eq_true (by omega)
              have hhl : held.length ≤ 100 := by have := HK.out.hl; omega
              have h7 := h6.pk5 [4, 0, 1, 2, 3]
              have HB1 := hid hb
              clear h6 h3 hki hb HST HM2 HK HV
              go_wp2_with fail
              refine hbk.out.mono ?_
              rintro e w' ⟨rfl, rfl⟩
              rw [HB1.out]
              clear hbk p2
              go_wp2_with (at_builtin; refine wpList_que rfl _ _ 22 rfl iI (.int .i64 0) 8 Try.underlying22 hiI hzI0 hzI1 hzI2 rfl (.int .i64 b) _ rfl h7 rfl rfl (by simp [toI]; omega) (by decide) ?_)
              intro hv2 w8 h8
              rw [show (toI held).map (Value.int .i64) ++ [.int .i64 (b : Int)] = (toI (held ++ [b])).map (Value.int .i64) by simp [toI]] at h8
              have h9 : Hold w w8 (arrP 67 pmA PM.g ga (xs.set t (some m2)) * _) := h8.pk2 [1, 0]
              have p2 := arr_some h9 HX2.out
              have z2 := arr_frozen h9 t
              have h10 := arr_gone h9 (t := t) (by rw [List.length_set]; exact tlx)
              rw [List.set_set] at h10
              have H9 := hid (h10.pk5 [0, 3, 4, 1, 2])
              clear h7 h8 h9 h10 HX2
              go_wp2_with fail
              go_meet
              exact ⟨rfl, rfl, q, C2, _, _, L', _, _, ys, pv, rfl, by omega, HV2.out, HRK.out, H9.out⟩
            · rw [show (m2.at_ == 3) = false by simp [h3]]
              have HRK := hid (HK.out.setX (n2 := i + 1) (B2 := i + 1) (by simpa using hki) (fun q hq => by
                obtain rfl := Option.some.inj hq
                exact hb.trans (HK.out.bk t pm HX.out)) (by have := HK.out.hl; omega))
              have H7 := hid (h6.pk5 [0, 2, 3, 4, 1])
              clear h6 h3 hki hb p2 HST HX2 HK HV hbk
              go_wp2_with fail
              go_meet
              exact ⟨rfl, rfl, q, C2, _, _, L, held, _, ys, pv, rfl, by omega, HV2.out, HRK.out, H7.out⟩
          | none =>
            have hx : xs[t]? = some none := by rw [List.getElem?_eq_getElem tlx, hox]
            have HX := hid hx
            have p3 := arr_none h hx
            clear hox hx
            obtain ⟨ad2, hA2, _, hcell⟩ := (HX1.out.below h.below).numAt hlt
            obtain rfl := Option.some.inj hA2
            rw [← HZ.out] at hcell
            obtain ⟨Ah, ch, hvf⟩ := (h.pk4 [3]).queForm
            rw [show ((toI held).map (Value.int .i64)).length = held.length by simp [toI]] at hvf
            subst hvf
            clear hA2
            cases held with
            | nil =>
              rw [show ([] : List Nat).length = 0 from rfl] at h ⊢
              go_wp2_with fail
              clear hcell
              have hat := at_nat _ A0 n0 c0 _ x0 (q + 1) (HX0.out.below h.below) le0
              rw [show ((q + 1 : Nat) : Int) = (q : Int) + 1 by simp] at hat
              refine hat.mono ?_
              rintro e w' ⟨rfl, rfl⟩
              clear hat
              generalize x0.getD (q + 1) 0 = z2
              obtain ⟨kc, hkc⟩ : ∃ kc : Nat, place z2 4 = kc := ⟨(place z2 4).toNat, by have := place_nonneg z2 4 (by omega); omega⟩
              have kc4 : kc < 4 := by have := place_lt z2 4 (by omega); omega
              have HKC := hid hkc
              clear hkc
              go_wp2_with fail
              refine (place_any _ _ _ (by omega) (by omega)).mono ?_
              rintro e w' ⟨rfl, rfl⟩
              rw [HKC.out]
              clear HKC p2 p3
              go_wp2_with fail
              refine (po_new w _ _ kc h).mono ?_
              rintro e v2 ⟨g, rfl, h4⟩
              replace h4 : Hold w v2 (pmA ⟨g, kc, 0, 0, 0, -1⟩ * (arrP 67 pmA PM.g ga xs * _)) := h4
              have p2 := arr_none h4.drop HX.out
              have z2 := arr_frozen h4.drop t
              have H5 := hid (arr_born h4 tlx)
              clear h h4
              go_upto_region 17 with fail
              have h5 := H5.out
              generalize hW : World.setCell _ _ _ = W5 at h5 ⊢
              clear hW H5 p2 z2
              have HX5 : Hid ((xs.set t (some (⟨g, kc, 0, 0, 0, -1⟩ : PM)))[t]? = some (some ⟨g, kc, 0, 0, 0, -1⟩)) := hid (List.getElem?_set_self tlx)
              have p2 := arr_some h5 HX5.out
              have HRK := hid (HK.out.setX (t := t) (n2 := i + 1) (B2 := i + 1) ((HK.out.ki.mono (B' := ((i + 1 : Nat) : Int)) (by omega) (by omega)).setP (some (⟨g, kc, 0, 0, 0, -1⟩ : PM)) (fun m hm => by
                obtain rfl := Option.some.inj hm
                exact PW.fresh kc4)) (fun m hm => by
                obtain rfl := Option.some.inj hm
                rfl) (Nat.le_trans HK.out.hl (Nat.le_succ i)))
              go_wp2_with fail
              go_meet
              exact ⟨rfl, rfl, q + 1, C, hs, ns, L, _, _, ys, pv, by simp, by omega, HV.out, HRK.out, h5⟩
            | cons b held =>
              rw [show (b :: held).length = held.length + 1 from rfl] at h ⊢
              obtain ⟨n', hn'⟩ : ∃ n', n' = held.length := ⟨_, rfl⟩
              rw [← hn'] at h ⊢
              have HN' := hid hn'
              have e3 : decide ((0 : Int) < (n' : Int) + 1) = true := decide_eq_true (by omega)
              clear hn'
              go_wp2_with fail
              refine (place_any _ _ _ (by omega) (by omega)).mono ?_
              rintro e w' ⟨rfl, rfl⟩
              generalize place _ 2 = d
              by_cases hd : d = 0
              · subst hd
                clear p3 hcell e3
                have hqf : Hold w wr (queA 3 (.slice Ah (n' + 1) ch) (.int .i64 b :: (toI held).map (Value.int .i64)) * _) := h.pk4 [3]
                obtain ⟨ah, rfl⟩ := queSome hqf
                have HAH : Hid (∀ w' R', Hold w w' (queA 3 (.slice (some ah) (n' + 1) ch) ((toI (b :: held)).map (Value.int .i64)) * R') → w'.cell? ah = some (.int .i64 b)) := hid fun w' R' h' => by
                  have := Hold.queAt h' (k := 0) (u := .int .i64 b) rfl
                  rw [add_zeroF] at this; exact this
                have hb0 := HAH.out _ _ (h.pk4 [3])
                have hpl : t < pv.length := by rw [HK.out.pl]; exact t4
                obtain ⟨ov, p4⟩ : ∃ ov, wr.cell? ⟨gq, t, none⟩ = some ov := ⟨_, (h.pk3 [2]).blk.some_ (u := .int .i64 pv[t]) (by simp [hpl])⟩
                have z4 := (h.pk3 [2]).blk.frozen t
                have h5 := (h.pk4 [2, 0, 1, 3]).setBlk t (.int .i64 b)
                rw [pvSet] at h5
                have hb6 : b < 6 := HK.out.ki.hd b (by simp)
                have H5 := hid h5
                clear h h5 hqf hpl
                go_upto_region 32 with fail
                have h5 := H5.out
                generalize hW : World.setCell _ _ _ = W5 at h5 ⊢
                clear hW H5 p4 z4 hb0 p2
                replace h5 := h5.drew
                refine wp_region_brk [11] (by kernel_rfl) ?_
                refine wpAnyB_now (fun w' => w'.cell? ah = some (.int .i64 b)) (fun _ _ => trivial) _ _ _ _ ?_
                refine' wpAnyB_bulk [true, false, true, true, true, false, true, true, true] 138 (listed' := #[true, false, true, true, true, false, true, true, true, false, false, false]) rfl (by kernel_rfl) (by kernel_rfl) (by kernel_rfl) (by kernel_rfl) (by kernel_rfl) (by kernel_rfl) (by decide) (fun _ _ _ _ h => h) rfl (HAH.out _ _ (h5.pk4 [3])) (fun wq hq => ?_) ?_; rotate_left 1
                · simp only [maskL]
                  repeat (go_big_quiet_step (fail))
                  exact wpQuiet_nil rfl
                refine wpAnyB_bar [false, true] (fuel := 4) (by rfl) (by rfl) (by kernel_rfl) (fun QB hQB hQX => ?_)
                simp only [maskL]
                go_wp2_with fail
                refine (heap11_any w _ _ h5).mono ?_
                rintro e v6 ⟨rfl, h6⟩
                clear h5
                go_wp2_with fail
                refine hQB.out _ _ (HAH.out _ _ (h6.pk4 [3])) ?_
                clear hQB hQX QB
                refine wpAnyB_bar [false, false, false, false, false, true] (fuel := 3) (by rfl) (by rfl) (by kernel_rfl) (fun QB hQB hQX => ?_)
                simp only [maskL]
                go_wp2_with fail
                refine (rclass_any _ cfH b cfH_ok (by show b < 6; exact hb6)).mono ?_
                rintro e v7 ⟨rfl, hc7⟩
                rw [cls_cfH hb6]
                have h7 := h6.chg0 hc7
                clear h6 hc7
                go_wp2_with fail
                refine hQB.out _ _ (HAH.out _ _ (h7.pk4 [3])) ?_
                clear hQB hQX QB
                refine wpAnyB_bar [false, false, false, false, false, false, false, false, false, true] (fuel := 2) (by rfl) (by rfl) (by kernel_rfl) (fun QB hQB hQX => ?_)
                simp only [maskL]
                go_wp2_with fail
                refine (pu_new w _ _ (fcls b) b h7).mono ?_
                rintro e v8 ⟨g, rfl, h8⟩
                replace h8 : Hold w v8 (qmA ⟨g, fcls b, b, 0, 0⟩ * (blkA 30 gq ((pv.set t b).map (Value.int .i64)).toArray * (arrP 67 pmA PM.g ga xs * (arrP 68 qmA QM.g gb ys * (queA 3 (.slice (some ah) (n' + 1) ch) ((toI (b :: held)).map (Value.int .i64)) * (memA m C * (refA r cfH C0 * (prA gp m r * Asr.emp)))))))) := h8
                clear h7
                go_wp2_with fail
                refine hQB.out _ _ (HAH.out _ _ (h8.pk5 [4])) ?_
                clear hQB hQX QB
                refine' wpAnyB_bulk [false, false, false, false, false, false, false, false, false, false, true] 138 (listed' := #[true, true, true, true, true, true, true, true, true, true, true, false]) rfl (by kernel_rfl) (by kernel_rfl) (by kernel_rfl) (by kernel_rfl) (by kernel_rfl) (by kernel_rfl) (by decide) (fun _ _ _ _ h => h) rfl (HAH.out _ _ (h8.pk5 [4])) (fun wq hq => ?_) ?_; rotate_left 1
                · simp only [maskL]
                  repeat (go_big_quiet_step (fail))
                  exact wpQuiet_nil rfl
                refine wpAnyB_brk [false, false, false, false, false, false, false, false, false, false, false, true] (fuel := 0) (by rfl) (by rfl) (by kernel_rfl) (by kernel_rfl) (fun QB hQB hQX => ?_)
                simp only [maskL]
                have h9 : Hold w v8 (qmA ⟨g, fcls b, b, 0, 0⟩ * (arrP 68 qmA QM.g gb ys * _)) := h8.pk5 [0, 3, 2, 1, 4]
                have p2 := arr_none h9.drop HY.out
                have z2 := arr_frozen h9.drop t
                have H10 := hid (arr_born h9 tly)
                clear h8 h9
                go_wp2_with fail
                refine hQB.out _ _ ?_
                clear hQB hQX QB
                refine wpAnyB_forget (by kernel_rfl) ?_
                refine wpAnyB_done (by kernel_rfl) ?_ _
                have h10 := H10.out
                generalize hW : World.setCell _ _ _ = W10 at h10 ⊢
                clear hW H10 p2 z2
                have HY2 : Hid ((ys.set t (some (⟨g, fcls b, b, 0, 0⟩ : QM)))[t]? = some (some ⟨g, fcls b, b, 0, 0⟩)) := hid (List.getElem?_set_self tly)
                have t1 := fun w => slice_tailP (P := Try.prog) 22 (by kernel_rfl) sz_intF w ah n' ch
                obtain ⟨A2, hA2⟩ : ∃ A2, A2 = if ch = 1 then some ah else some (ah.add 1) := ⟨_, rfl⟩
                rw [← hA2] at t1
                have h11 : Hold w W10 (queA 3 (.slice A2 n' (ch - 1)) ((toI held).map (Value.int .i64)) * (arrP 68 qmA QM.g gb (ys.set t (some ⟨g, fcls b, b, 0, 0⟩)) * (arrP 67 pmA PM.g ga xs * (blkA 30 gq ((pv.set t b).map (Value.int .i64)).toArray * (memA m C * (refA r cfH C0 * (prA gp m r * Asr.emp))))))) := by
                  rw [hA2]; exact (h10.pk4 [3, 0, 1, 2]).imp (Imp.on _ (Imp.queTail 3 ah n' ch _ _))
                have H12 : Hid (Hold w W10 (arrP 67 pmA PM.g ga xs * (arrP 68 qmA QM.g gb (ys.set t (some ⟨g, fcls b, b, 0, 0⟩)) * (blkA 30 gq ((pv.set t b).map (Value.int .i64)).toArray * (queA 3 (.slice A2 n' (ch - 1)) ((toI held).map (Value.int .i64)) * (memA m C * (refA r cfH C0 * (prA gp m r * Asr.emp)))))))) := hid (h11.pk4 [2, 1, 3, 0])
                have p2 := arr_some (H12.out.pk2 [1, 0]) HY2.out
                have HRK := hid (HK.out.push (g := g) (n2 := i + 1) (B2 := i + 1) HY.out (by have := HK.out.hl; simp at this; omega) (by omega) (by omega))
                clear h10 h11 hA2 HAH
                go_wp2_with fail
                go_meet
                exact ⟨rfl, rfl, q, C, hs, ns, L, held, xs, _, _, rfl, by omega, HV.out, HRK.out, H12.out⟩
              · have ed : (d == 0) = false := by simp [hd]
                go_wp2_with fail
                clear hcell
                have hat := at_nat _ A0 n0 c0 _ x0 (q + 1) (HX0.out.below h.below) le0
                rw [show ((q + 1 : Nat) : Int) = (q : Int) + 1 by simp] at hat
                refine hat.mono ?_
                rintro e w' ⟨rfl, rfl⟩
                clear hat
                generalize x0.getD (q + 1) 0 = z2
                obtain ⟨kc, hkc⟩ : ∃ kc : Nat, place z2 4 = kc := ⟨(place z2 4).toNat, by have := place_nonneg z2 4 (by omega); omega⟩
                have kc4 : kc < 4 := by have := place_lt z2 4 (by omega); omega
                have HKC := hid hkc
                clear hkc
                go_wp2_with fail
                refine (place_any _ _ _ (by omega) (by omega)).mono ?_
                rintro e w' ⟨rfl, rfl⟩
                rw [HKC.out]
                clear HKC p2 p3
                go_wp2_with fail
                refine (po_new w _ _ kc h).mono ?_
                rintro e v2 ⟨g, rfl, h4⟩
                replace h4 : Hold w v2 (pmA ⟨g, kc, 0, 0, 0, -1⟩ * (arrP 67 pmA PM.g ga xs * _)) := h4
                have p2 := arr_none h4.drop HX.out
                have z2 := arr_frozen h4.drop t
                have H5 := hid (arr_born h4 tlx)
                clear h h4
                go_upto_region 17 with fail
                have h5 := H5.out
                generalize hW : World.setCell _ _ _ = W5 at h5 ⊢
                clear hW H5 p2 z2
                have HX5 : Hid ((xs.set t (some (⟨g, kc, 0, 0, 0, -1⟩ : PM)))[t]? = some (some ⟨g, kc, 0, 0, 0, -1⟩)) := hid (List.getElem?_set_self tlx)
                have p2 := arr_some h5 HX5.out
                have HRK := hid (HK.out.setX (t := t) (n2 := i + 1) (B2 := i + 1) ((HK.out.ki.mono (B' := ((i + 1 : Nat) : Int)) (by omega) (by omega)).setP (some (⟨g, kc, 0, 0, 0, -1⟩ : PM)) (fun m hm => by
                  obtain rfl := Option.some.inj hm
                  exact PW.fresh kc4)) (fun m hm => by
                  obtain rfl := Option.some.inj hm
                  rfl) (Nat.le_trans HK.out.hl (Nat.le_succ i)))
                go_wp2_with fail
                go_meet
                exact ⟨rfl, rfl, q + 1, C, hs, ns, L, _, _, ys, pv, by simp, by omega, HV.out, HRK.out, h5⟩
      case rest =>
      clear h HV HK tlx tly
      obtain ⟨rfl, rfl, q, C, hs, ns, L, held, xs, ys, pv, rfl, hq, hvv, hk, h⟩ := hcut
      have HV := hid hvv
      have HK := hid hk
      clear hvv hk hqi
      obtain ⟨Ah, ch, hvf⟩ := (h.pk4 [3]).queForm
      rw [show ((toI held).map (Value.int .i64)).length = held.length by simp [toI]] at hvf
      subst hvf
      obtain ⟨y0, y1, y2, y3, hys⟩ : ∃ y0 y1 y2 y3, ys = [y0, y1, y2, y3] := by
        match ys, HK.out.yl with
        | [a, b, c, d], _ => exact ⟨a, b, c, d, rfl⟩
      obtain ⟨v0, v1, v2, v3, hpv⟩ : ∃ v0 v1 v2 v3, pv = [v0, v1, v2, v3] := by
        match pv, HK.out.pl with
        | [a, b, c, d], _ => exact ⟨a, b, c, d, rfl⟩
      have HA : Hid (∀ w', Hold w w' (arrP 67 pmA PM.g ga xs * (arrP 68 qmA QM.g gb ys * (blkA 30 gq (pv.map (Value.int .i64)).toArray * (queA 3 (.slice Ah held.length ch) ((toI held).map (Value.int .i64)) * (memA m C * (refA r cfH C0 * (prA gp m r * Asr.emp))))))) → (w'.cell? ⟨gp, 0, none⟩ = some (.pointer (some ⟨m, 0, none⟩))) ∧ (w'.cell? ⟨gb, 0, none⟩ = some (ptrV (y0.map QM.g)) ∧ w'.cell? ⟨gb, 1, none⟩ = some (ptrV (y1.map QM.g)) ∧ w'.cell? ⟨gb, 2, none⟩ = some (ptrV (y2.map QM.g)) ∧ w'.cell? ⟨gb, 3, none⟩ = some (ptrV (y3.map QM.g))) ∧ (w'.cell? ⟨gq, 0, none⟩ = some (.int .i64 v0) ∧ w'.cell? ⟨gq, 1, none⟩ = some (.int .i64 v1) ∧ w'.cell? ⟨gq, 2, none⟩ = some (.int .i64 v2) ∧ w'.cell? ⟨gq, 3, none⟩ = some (.int .i64 v3))) := hid fun w' h' => by
        have hb := (h'.pk3 [2]).blk
        rw [hpv] at hb
        have hy : Hold w w' (arrP 68 qmA QM.g gb ys * _) := h'.pk2 [1]
        rw [hys] at hy
        exact ⟨(h'.pk7 [6]).blk.some_ (i := 0) rfl, ⟨arr_at hy (t := 0) rfl, arr_at hy (t := 1) rfl, arr_at hy (t := 2) rfl, arr_at hy (t := 3) rfl⟩, ⟨hb.some_ rfl, hb.some_ rfl, hb.some_ rfl, hb.some_ rfl⟩⟩
      have HYS := hid hys
      have HPV := hid hpv
      clear hys hpv
      go_upto_region 36 with fail
      replace h := h.drew
      refine wp_region_brk [] (by kernel_rfl) ?_
      refine wpAnyB_now (fun w' => (w'.cell? ⟨gp, 0, none⟩ = some (.pointer (some ⟨m, 0, none⟩))) ∧ (w'.cell? ⟨gb, 0, none⟩ = some (ptrV (y0.map QM.g)) ∧ w'.cell? ⟨gb, 1, none⟩ = some (ptrV (y1.map QM.g)) ∧ w'.cell? ⟨gb, 2, none⟩ = some (ptrV (y2.map QM.g)) ∧ w'.cell? ⟨gb, 3, none⟩ = some (ptrV (y3.map QM.g))) ∧ (w'.cell? ⟨gq, 0, none⟩ = some (.int .i64 v0) ∧ w'.cell? ⟨gq, 1, none⟩ = some (.int .i64 v1) ∧ w'.cell? ⟨gq, 2, none⟩ = some (.int .i64 v2) ∧ w'.cell? ⟨gq, 3, none⟩ = some (.int .i64 v3))) (fun _ _ => trivial) _ _ _ _ ?_
      refine' wpAnyB_bulk [true, true, false, true, true, true] 138 (listed' := #[true, true, false, true, true, true, false, false]) rfl (by kernel_rfl) (by kernel_rfl) (by kernel_rfl) (by kernel_rfl) (by kernel_rfl) (by kernel_rfl) (by decide) (fun _ _ _ _ h => h) rfl (HA.out _ h) (fun wq hq => ?_) ?_; rotate_left 1
      · simp only [maskL]
        obtain ⟨q0, ⟨q1, q2, q3, q4⟩, ⟨q5, q6, q7, q8⟩⟩ := hq
        repeat (go_big_quiet_step (fail))
        exact wpQuiet_nil rfl
      refine wpAnyB_bar [false, false, true] (fuel := 2) (by rfl) (by rfl) (by kernel_rfl) (fun QB hQB hQX => ?_)
      simp only [maskL]
      go_wp2_with fail
      refine (image_any w _ _ m C (h.pk5 [4, 0, 1, 2, 3]) HV.out.ok).mono ?_
      rintro e v3x ⟨y, rfl, h3⟩
      clear h
      go_wp2_with fail
      refine hQB.out _ _ (HA.out _ (Hold.pk5 h3.rest [1, 2, 3, 4, 0])) ?_
      clear hQB hQX QB
      have h4 : Hold w v3x (cellK C y 7 * (cellK C y 8 * _)) := h3.pk5 [3, 4]
      have h5 : Hold w v3x ((cellK C y 7 * cellK C y 8) * (queA 3 (.slice Ah held.length ch) ((toI held).map (Value.int .i64)) * (arrP 67 pmA PM.g ga xs * (arrP 68 qmA QM.g gb ys * (blkA 30 gq (pv.map (Value.int .i64)).toArray * (memA m C * (refA r cfH C0 * (prA gp m r * Asr.emp)))))))) := (h4.join).pk6 [0, 5, 2, 3, 4, 1]
      have hkc := kept_any w v3x _ _ _ (slV C y 1) (slV C y 2) (.int .u64 (w1 C 3)) (.int .u64 (w1 C 4)) (.int .u64 (w1 C 5)) (slV C y 6) (y.A 7) (y.A 8) Ah (y.c 7) (y.c 8) ch hs ns L held xs ys pv ((i + 1 : Nat) : Int) (FI.src HV.out HK.out.ki.fi HK.out.ki.bb) HK.out.ki HK.out.yl HK.out.pl HK.out.pv (by have := HK.out.hl; omega) (fun w2 R2 j hj h2 => by
        obtain ⟨ad, hA, hc⟩ := slInt (h2.imp (Imp.on _ (Imp.queSl _ _ _ _ _))) hj
        exact ⟨ad, hA, fun w' R' h' => hc w' R' (h'.imp (Imp.on _ (Imp.queSl _ _ _ _ _)))⟩) h5
      have e7 : (C 7).length = 4 := by rw [HV.out.h7]; exact HK.out.ki.fi.hl
      have e8 : (C 8).length = 6 := by rw [HV.out.h8]; exact HK.out.ki.fi.nl
      have ea : (ys.map (fun o => ptrV (o.map QM.g))).toArray = #[ptrV (y0.map QM.g), ptrV (y1.map QM.g), ptrV (y2.map QM.g), ptrV (y3.map QM.g)] := by rw [HYS.out]; rfl
      have eb : (pv.map (Value.int .i64)).toArray = #[.int .i64 v0, .int .i64 v1, .int .i64 v2, .int .i64 v3] := by rw [HPV.out]; rfl
      have EB := hid eb
      rw [ea, eb] at hkc
      have hiv : imgV C y = .agg #[slV C y 1, slV C y 2, .int .u64 (w1 C 3), .int .u64 (w1 C 4), .int .u64 (w1 C 5), slV C y 6, .slice (y.A 7) 4 (y.c 7), .slice (y.A 8) 6 (y.c 8)] := by unfold imgV slV; rw [e7, e8]
      rw [← hiv] at hkc
      have HKC := hid hkc
      clear hkc e7 e8 hiv h4 h5 ea eb
      refine wpAnyB_bar [false, false, false, false, false, false, true] (fuel := 1) (by rfl) (by rfl) (by kernel_rfl) (fun QB hQB hQX => ?_)
      simp only [maskL]
      go_wp2_with fail
      refine HKC.out.mono ?_
      rintro e v7 ⟨rfl, h6⟩
      rw [← EB.out] at h6
      have h7 : Hold w v7 (arrP 67 pmA PM.g ga xs * (arrP 68 qmA QM.g gb ys * (blkA 30 gq (pv.map (Value.int .i64)).toArray * (queA 3 (.slice Ah held.length ch) ((toI held).map (Value.int .i64)) * (memA m C * (refA r cfH C0 * (prA gp m r * Asr.emp))))))) := h6.pk5 [1, 2, 3, 0, 4]
      clear h6 h3 HKC
      go_wp2_with fail
      refine hQB.out _ _ (HA.out _ h7) ?_
      clear hQB hQX QB
      refine' wpAnyB_bulk [false, false, false, false, false, false, false, true] 138 (listed' := #[true, true, true, true, true, true, true, true]) rfl (by kernel_rfl) (by kernel_rfl) (by kernel_rfl) (by kernel_rfl) (by kernel_rfl) (by kernel_rfl) (by decide) (fun _ _ _ _ h => h) rfl (HA.out _ h7) (fun wq hq => ?_) ?_; rotate_left 1
      · simp only [maskL]
        repeat (go_big_quiet_step (fail))
        exact wpQuiet_nil rfl
      refine wpAnyB_done (by kernel_rfl) ?_ _
      have H8 := hid h7
      clear h7 HA HYS HPV
      go_wp2_with fail
      go_round
      case rel => exact ⟨i + 1, q, C, hs, ns, L, held, xs, ys, pv, by omega, by omega, by go_num, rfl, HV.out, HK.out, H8.out⟩
      case measure => simp [intOf]; omega
    · obtain rfl : i = n1 := by omega
      have e1 : decide ((i : Int) < (i : Int)) = false := by simp
      go_wp2_with fail
      refine (awake11_any w _ _ h).mono ?_
      rintro e v5 ⟨rfl, h6⟩
      have H6 := hid h6.below
      clear h h6
      go_wp2_with fail
      go_ret
      exact ⟨rfl, H6.out⟩
end Go.Proofs.Ytigjpfhjddkckaa
