/- strongtxlaw11: kept. -/
import Derived.Test.YtigjpfhjddkckaaFle
import Derived.Test.YtigjpfhjddkckaaArrP
namespace Go.Proofs.Ytigjpfhjddkckaa
open Go.RowKit
set_option linter.unusedVariables false

def cntA (acc : List Nat) : List Int := (List.range 6).map fun b => ((acc.count b : Nat) : Int)
theorem cntA_len (acc : List Nat) : (cntA acc).length = 6 := by simp [cntA]
theorem cntA_get (acc : List Nat) {b : Nat} (hb : b < 6) : (cntA acc).getD b 0 = acc.count b := by
  simp [cntA, List.getD, hb]
theorem cntA_set (acc : List Nat) {b : Nat} (hb : b < 6) : (cntA acc).set b ((acc.count b : Int) + 1) = cntA (acc ++ [b]) := by
  refine map_range_set _ _ _ hb ?_ (fun i _ hi => ?_)
  · simp
  · rw [List.count_append, List.count_singleton]
    have : (b == i) = false := by simp; omega
    rw [this]; simp
theorem cntA_nil : (List.replicate 6 (0 : Int)) = cntA [] := by simp [cntA, List.range, List.range.loop, List.replicate]
def uptoL (L : Nat → List Nat) : Nat → List Nat
  | 0 => []
  | k + 1 => uptoL L k ++ L k
def pushL (ys : List (Option QM)) : List Nat := ys.filterMap (Option.map QM.bk)
theorem pushL_count (b : Nat) : ∀ ys : List (Option QM), (pushL ys).count b = pcnt ys b
  | [] => rfl
  | none :: ys => by
    have h := pushL_count b ys
    simp [pushL, pcnt, qv] at *; exact h
  | some q :: ys => by
    have h := pushL_count b ys
    have e1 : pushL (some q :: ys) = q.bk :: pushL ys := rfl
    have e2 : pcnt (some q :: ys) b = qv b (some q) + pcnt ys b := by simp [pcnt]
    rw [e1, e2, List.count_cons, h]
    simp only [qv]
    by_cases hq : q.bk = b
    · simp [hq]; omega
    · simp [hq]
theorem pushL_take {ys : List (Option QM)} {t : Nat} {o : Option QM} (h : ys[t]? = some o) : pushL (ys.take (t + 1)) = pushL (ys.take t) ++ pushL [o] := by
  obtain ⟨hl, he⟩ := List.getElem?_eq_some_iff.1 h
  rw [List.take_succ_eq_append_getElem hl, he]
  simp [pushL, List.filterMap_append]
theorem kept_one {hs ns : List Int} {L : Nat → List Nat} {held : List Nat} {xs : List (Option PM)} {ys : List (Option QM)} {B : Int} (h : KI hs ns L held xs ys B) {b : Nat} (hb : b < 6) : (uptoL L 4 ++ held ++ pushL ys).count b = 1 := by
  have h1 := h.ct b hb
  rw [List.count_append, List.count_append, pushL_count]
  have h2 : (uptoL L 4).count b = cntL L b := by simp [uptoL, cntL, List.count_append]; omega
  omega
theorem cls_cfH {b : Nat} (hb : b < 6) : cls cfH b = fcls b := by
  match b, hb with
  | 0, _ => rfl
  | 1, _ => rfl
  | 2, _ => rfl
  | 3, _ => rfl
  | 4, _ => rfl
  | 5, _ => rfl
theorem toI_get {l : List Nat} {j : Nat} (hj : j < l.length) : (toI l).getD j 0 = (l[j] : Nat) := by
  simp [toI, List.getD, List.getElem?_eq_getElem hj]
theorem slInt {w0 w : World} {R : Asr} {A : Option Addr} {n c : Nat} {zs : List Int} (h : Hold w0 w (slA A n c (zs.map (Value.int .i64)) * R)) {j : Nat} (hj : j < n) : ∃ ad, A = some ad ∧ ∀ w' R', Hold w0 w' (slA A n c (zs.map (Value.int .i64)) * R') → w'.cell? (ad.add j) = some (.int .i64 (zs.getD j 0)) := by
  obtain ⟨ad, hA, hc⟩ := h.slAt2 hj
  have hl := h.slLen
  refine ⟨ad, hA, fun w' R' h' => ?_⟩
  rw [hc w' R' h', List.getElem?_map, List.getD_eq_getElem?_getD, List.getElem?_eq_getElem (by simp at hl; omega)]
  rfl
/-- The count at b: what is read there and what a store leaves. -/
theorem cntCell {w0 w : World} {R : Asr} {gc : Nat} {acc : List Nat} (h : Hold w0 w (rowA 3 (.slice (some ⟨gc, 0, none⟩) 6 6) 6 ((cntA (acc)).map (Value.int .i64)) * R)) {b : Nat} (hb : b < 6) (hlen : acc.length ≤ 2000) : ∃ cn : Nat, cn ≤ 2000 ∧ w.cell? ⟨gc, b, none⟩ = some (.int .i64 cn) ∧ w.frozen? ⟨gc, b, none⟩ = false ∧ Hold w0 (w.setCell ⟨gc, b, none⟩ (.int .i64 ((cn : Int) + 1))) (rowA 3 (.slice (some ⟨gc, 0, none⟩) 6 6) 6 ((cntA (acc ++ [b])).map (Value.int .i64)) * R) := by
  obtain ⟨g, hg, hc, hf, hs⟩ := h.setRow hb
  injection hg with hg
  injection hg with hg
  subst hg
  refine ⟨acc.count b, Nat.le_trans List.count_le_length hlen, ?_, hf, ?_⟩
  · have hl : b < (cntA acc).length := by rw [cntA_len]; exact hb
    rw [hc, List.getElem?_map, List.getElem?_eq_getElem hl]
    have := cntA_get acc hb
    rw [List.getD_eq_getElem?_getD, List.getElem?_eq_getElem hl] at this
    simp at this ⊢
    rw [this]
  · have := hs (.int .i64 ((acc.count b : Int) + 1))
    rw [← List.map_set, cntA_set acc hb] at this
    exact this
theorem uptoL_len {L : Nat → List Nat} (h : ∀ k, k < 4 → (L k).length ≤ 6) : ∀ k, k ≤ 4 → (uptoL L k).length ≤ 6 * k
  | 0, _ => by simp [uptoL]
  | k + 1, hk => by
    have := uptoL_len h k (by omega)
    have := h k (by omega)
    simp [uptoL]; omega
set_option maxRecDepth 8000 in
set_option maxHeartbeats 16000000 in
theorem kept_any (w0 w : World) (R p qq : Asr) (v0 v1 v2 v3 v4 v5 : Value) (A7 A8 Ah : Option Addr) (c7 c8 ch : Nat) (hs ns : List Int) (L : Nat → List Nat) (held : List Nat) (xs : List (Option PM)) (ys : List (Option QM)) (pv : List Int) (B : Int) (src : SrcI w0 p A7 A8 hs ns) (hki : KI hs ns L held xs ys B) (hyl : ys.length = 4) (hpl : pv.length = 4) (hpv : ∀ (t : Nat) (q : QM), ys[t]? = some (some q) → pv.getD t 0 = q.bk) (hhl : held.length ≤ 1000) (hqr : ∀ (w : World) (R : Asr) (j : Nat), j < held.length → Hold w0 w (qq * R) → ∃ ad, Ah = some ad ∧ ∀ w' R', Hold w0 w' (qq * R') → w'.cell? (ad.add j) = some (.int .i64 ((toI held).getD j 0))) (h : Hold w0 w (p * (qq * R))) :
    Calls Try.prog 35 #[.agg #[v0, v1, v2, v3, v4, v5, .slice A7 4 c7, .slice A8 6 c8], .slice Ah held.length ch, .agg (ys.map (fun o => ptrV (o.map QM.g))).toArray, .agg (pv.map (Value.int .i64)).toArray] w (BothPost w0 (.bool true) (qq * R)) := by
  obtain ⟨iI, hiI, hzI0, hzI1, hzI2⟩ := info_parts info_intF
  have HSRC := hid src
  have HQR := hid hqr
  clear hqr
  have HKI := hid hki
  have HPV := hid hpv
  have l7 := hki.fi.hl
  have l8 := hki.fi.nl
  have HL6 : Hid (∀ k, k < 4 → (L k).length ≤ 6) := hid fun k hk => by
    have h6 := nodup_len (hki.nodup hk) (hki.ch k hk).lt
    rw [l8] at h6; exact h6
  have HL78 := hid (And.intro l7 l8)
  obtain ⟨y0, y1, y2, y3, rfl⟩ : ∃ y0 y1 y2 y3, ys = [y0, y1, y2, y3] := by
    match ys, hyl with
    | [a, b, c, d], _ => exact ⟨a, b, c, d, rfl⟩
  obtain ⟨p0, p1, p2, p3, rfl⟩ : ∃ p0 p1 p2 p3, pv = [p0, p1, p2, p3] := by
    match pv, hpl with
    | [a, b, c, d], _ => exact ⟨a, b, c, d, rfl⟩
  rw [show ([y0, y1, y2, y3].map (fun o => ptrV (o.map QM.g))).toArray = #[ptrV (y0.map QM.g), ptrV (y1.map QM.g), ptrV (y2.map QM.g), ptrV (y3.map QM.g)] from rfl, show ([p0, p1, p2, p3].map (Value.int .i64)).toArray = #[.int .i64 p0, .int .i64 p1, .int .i64 p2, .int .i64 p3] from rfl]
  have h1 := (((h.newBlk (t := 61) (cs := #[v0, v1, v2, v3, v4, v5, .slice A7 4 c7, .slice A8 6 c8])).newBlk (t := 68) (cs := #[ptrV (y0.map QM.g), ptrV (y1.map QM.g), ptrV (y2.map QM.g), ptrV (y3.map QM.g)])).newBlk (t := 30) (cs := #[.int .i64 p0, .int .i64 p1, .int .i64 p2, .int .i64 p3]))
  simp only [World.size_alloc] at h1
  have H1 := hid (h1.pk3 [2, 1, 0])
  clear src hki hpv l7 l8 h h1 hyl hpl
  go_enter Try.func35, Try.ntmps35
  go_wp2_with (at_make; refine wpList_make_full _ rfl _ _ 22 rfl _ 3 iI (.int .i64 0) 1 Try.underlying22 hiI hzI0 hzI1 .i64 .i64 (6 : Int) (6 : Int) 6 rfl rfl rfl rfl (by rw [hzI2]; omega) (by unfold maxLen; omega) (Nat.le_refl _) ?_)
  intro w1 hown hgrow
  have h2 := H1.out.make (k := .i64) hown hgrow (by simp)
  rw [cntA_nil] at h2
  obtain ⟨gi, hgi⟩ : ∃ gi, gi = w.heap.size := ⟨_, rfl⟩
  obtain ⟨gy, hgy⟩ : ∃ gy, gy = w.heap.size + 1 := ⟨_, rfl⟩
  obtain ⟨gz, hgz⟩ : ∃ gz, gz = w.heap.size + 1 + 1 := ⟨_, rfl⟩
  obtain ⟨gc, hgc⟩ : ∃ gc, gc = w.heap.size + 1 + 1 + 1 := ⟨_, rfl⟩
  have hgz' : w.heap.size + 2 = gz := by omega
  have hgc' : w.heap.size + 3 = gc := by omega
  rw [← hgc, ← hgz, ← hgy, ← hgi] at h2
  try rw [hgc']
  try rw [← hgc]
  try rw [hgz']
  try rw [← hgz]
  rw [← hgy]
  rw [← hgi]
  replace h2 : Hold w0 w1 (rowA 3 (.slice (some ⟨gc, 0, none⟩) 6 6) 6 ((cntA ([])).map (Value.int .i64)) * ((blkA 61 gi #[v0, v1, v2, v3, v4, v5, .slice A7 4 c7, .slice A8 6 c8] * (blkA 68 gy #[ptrV (y0.map QM.g), ptrV (y1.map QM.g), ptrV (y2.map QM.g), ptrV (y3.map QM.g)] * (blkA 30 gz #[.int .i64 p0, .int .i64 p1, .int .i64 p2, .int .i64 p3] * (p * (qq * R))))))) := h2
  clear hgi hgy hgz hgc hgz' hgc' hown hgrow H1
  go_wp2_with fail
  go_loopw [10] (fun u wx => ∃ k : Nat, k ≤ 4 ∧ u = .int .i64 k ∧ Hold w0 wx (rowA 3 (.slice (some ⟨gc, 0, none⟩) 6 6) 6 ((cntA (uptoL L k)).map (Value.int .i64)) * ((blkA 61 gi #[v0, v1, v2, v3, v4, v5, .slice A7 4 c7, .slice A8 6 c8] * (blkA 68 gy #[ptrV (y0.map QM.g), ptrV (y1.map QM.g), ptrV (y2.map QM.g), ptrV (y3.map QM.g)] * (blkA 30 gz #[.int .i64 p0, .int .i64 p1, .int .i64 p2, .int .i64 p3] * (p * (qq * R)))))))) (fun u _ => 4 - (intOf u).toNat)
  case atStart => exact ⟨0, by omega, rfl, h2⟩
  case round =>
    clear h2
    obtain ⟨k, hk, rfl, h⟩ := hrel
    by_cases hk4 : k < 4
    · have e1 : decide ((k : Int) < 4) = true := decide_eq_true (by omega)
      obtain ⟨b0, b1, b2, b3, b4, b5, b6, b7⟩ := blk8 h.drop.blk
      go_wp2_with fail
      have hl := list_any w0 wr _ p v0 v1 v2 v3 v4 v5 A7 A8 c7 c8 hs ns k HSRC.out (h.pk5 [4, 0, 1, 2, 3])
      rw [HL78.out.1, HL78.out.2, HKI.out.listF hk4] at hl
      refine hl.mono ?_
      clear hl b0 b1 b2 b3 b4 b5 b6 b7
      rintro e w2 ⟨A, cp, rfl, h3⟩
      rw [show (toI (L k), (0 : Int)).1.length = (L k).length from toI_len _, show (toI (L k), (0 : Int)).2 = 0 from rfl]
      replace h3 : Hold w0 w2 (rowA 3 (.slice A (toI (L k)).length cp) (toI (L k)).length ((toI (L k)).map (Value.int .i64)) * (p * (rowA 3 (.slice (some ⟨gc, 0, none⟩) 6 6) 6 ((cntA (uptoL L k)).map (Value.int .i64)) * (blkA 61 gi #[v0, v1, v2, v3, v4, v5, .slice A7 4 c7, .slice A8 6 c8] * (blkA 68 gy #[ptrV (y0.map QM.g), ptrV (y1.map QM.g), ptrV (y2.map QM.g), ptrV (y3.map QM.g)] * (blkA 30 gz #[.int .i64 p0, .int .i64 p1, .int .i64 p2, .int .i64 p3] * (qq * R))))))) := h3
      rw [toI_len] at h3
      have h4 : Hold w0 w2 (rowA 3 (.slice (some ⟨gc, 0, none⟩) 6 6) 6 ((cntA (uptoL L k)).map (Value.int .i64)) * (slA A (L k).length cp ((toI (L k)).map (Value.int .i64)) * (blkA 61 gi #[v0, v1, v2, v3, v4, v5, .slice A7 4 c7, .slice A8 6 c8] * (blkA 68 gy #[ptrV (y0.map QM.g), ptrV (y1.map QM.g), ptrV (y2.map QM.g), ptrV (y3.map QM.g)] * (blkA 30 gz #[.int .i64 p0, .int .i64 p1, .int .i64 p2, .int .i64 p3] * (p * (qq * R))))))) := (h3.imp (Imp.on _ (Imp.rowSl _ _ _ _ _))).pk6 [2, 0, 3, 4, 5, 1]
      have hln := HL6.out k hk4
      obtain ⟨n, hn⟩ : ∃ n, n = (L k).length := ⟨_, rfl⟩
      rw [← hn] at h4 hln ⊢
      have Hn := hid hn
      clear h h3 hn
      go_wp2_with fail
      go_loopw [13] (fun u wx => ∃ j : Nat, j ≤ n ∧ u = .int .i64 j ∧ Hold w0 wx (rowA 3 (.slice (some ⟨gc, 0, none⟩) 6 6) 6 ((cntA (uptoL L k ++ (L k).take j)).map (Value.int .i64)) * (slA A n cp ((toI (L k)).map (Value.int .i64)) * (blkA 61 gi #[v0, v1, v2, v3, v4, v5, .slice A7 4 c7, .slice A8 6 c8] * (blkA 68 gy #[ptrV (y0.map QM.g), ptrV (y1.map QM.g), ptrV (y2.map QM.g), ptrV (y3.map QM.g)] * (blkA 30 gz #[.int .i64 p0, .int .i64 p1, .int .i64 p2, .int .i64 p3] * (p * (qq * R)))))))) (fun u _ => n - (intOf u).toNat)
      case atStart => exact ⟨0, by omega, rfl, by rw [show uptoL L k ++ (L k).take 0 = uptoL L k by simp]; exact h4⟩
      case round =>
        clear h4
        obtain ⟨j, hj, rfl, h⟩ := hrel
        by_cases hjn : j < n
        · have e2 : decide ((j : Int) < (n : Int)) = true := decide_eq_true (by omega)
          have hjl : j < (L k).length := by rw [← Hn.out]; exact hjn
          obtain ⟨b, hb⟩ : ∃ b, b = (L k)[j] := ⟨_, rfl⟩
          have hbm : b ∈ L k := by rw [hb]; exact List.getElem_mem hjl
          have hb6 : b < 6 := by
            have h6 := (HKI.out.ch k hk4).lt b hbm
            rw [HL78.out.2] at h6; exact h6
          have hbc := HKI.out.cl k hk4 b hbm
          obtain ⟨ad, rfl, hat⟩ := slInt (j := j) h.swap hjn
          rw [toI_get hjl, ← hb] at hat
          have HAT := hid hat
          have HB := hid (And.intro hb hbc)
          have j0 : (0 : Int) ≤ (j : Int) := by omega
          have j1 : (j : Int) < (n : Int) := by omega
          have b0 : (0 : Int) ≤ (b : Int) := by omega
          have b1 : (b : Int) < 6 := by omega
          have eb0 : decide ((b : Int) < 0) = false := decide_eq_false (by omega)
          have eb6 : decide (6 ≤ (b : Int)) = false := decide_eq_false (by omega)
          have ek : ((k : Int) != (k : Int)) = false := by simp
          clear hat hb hbm hbc
          go_upto_region 11 with fail
          replace h := h.drew
          refine wp_region_brk [] (by kernel_rfl) ?_
          refine wpAnyB_now (fun w' => w'.cell? (ad.add j) = some (.int .i64 b)) (fun _ _ => trivial) _ _ _ _ ?_
          refine' wpAnyB_bulk [true, true, true, true, true, true, true, true, true, true, true, true, true, false, true, true, true, true, false, true] 119 (listed' := #[true, true, true, true, true, true, true, true, true, true, true, true, true, false, true, true, true, true, false, true, false, false]) rfl (by kernel_rfl) (by kernel_rfl) (by kernel_rfl) (by kernel_rfl) (by kernel_rfl) (by kernel_rfl) (by decide) (fun _ _ _ _ h => h) rfl (HAT.out _ _ h.swap) (fun wq hq => ?_) ?_; rotate_left 1
          · simp only [maskL]
            repeat (go_big_quiet_step (fail))
            exact wpQuiet_nil rfl
          refine wpAnyB_bar [false, false, false, false, false, false, false, false, false, false, false, false, false, true] (fuel := 3) (by rfl) (by rfl) (by kernel_rfl) (fun QB hQB hQX => ?_)
          simp only [maskL]
          go_wp2_with fail
          refine (heap11_any w0 _ _ h).mono ?_
          rintro e w3 ⟨rfl, h3⟩
          clear h
          go_wp2_with fail
          refine hQB.out _ _ (HAT.out _ _ h3.swap) ?_
          clear hQB hQX QB
          refine wpAnyB_bar [false, false, false, false, false, false, false, false, false, false, false, false, false, false, false, false, false, false, true] (fuel := 2) (by rfl) (by rfl) (by kernel_rfl) (fun QB hQB hQX => ?_)
          simp only [maskL]
          go_wp2_with fail
          refine (rclass_any _ cfH b cfH_ok (by show b < 6; exact hb6)).mono ?_
          rintro e w4 ⟨rfl, hc4⟩
          rw [cls_cfH hb6, HB.out.2]
          have h4 := h3.chg0 hc4
          clear h3 hc4
          go_wp2_with fail
          refine hQB.out _ _ (HAT.out _ _ h4.swap) ?_
          clear hQB hQX QB
          refine' wpAnyB_bulk [false, false, false, false, false, false, false, false, false, false, false, false, false, false, false, false, false, false, false, false, true, true] 119 (listed' := #[true, true, true, true, true, true, true, true, true, true, true, true, true, true, true, true, true, true, true, true, true, true]) rfl (by kernel_rfl) (by kernel_rfl) (by kernel_rfl) (by kernel_rfl) (by kernel_rfl) (by kernel_rfl) (by decide) (fun _ _ _ _ h => h) rfl (HAT.out _ _ h4.swap) (fun wq hq => ?_) ?_; rotate_left 1
          · simp only [maskL]
            repeat (go_big_quiet_step (fail))
            exact wpQuiet_nil rfl
          refine wpAnyB_done (by kernel_rfl) ?_ _
          clear eb0 eb6 ek
          obtain ⟨cn, hcn, hc, hf, hst⟩ := cntCell h4 hb6 (by have := uptoL_len HL6.out k (by omega); simp; omega)
          have q1 := HAT.out _ _ h4.swap
          have H5 := hid hst
          clear h4 hst
          go_wp2_with fail
          have h5 := H5.out
          rw [List.append_assoc, show (L k).take j ++ [b] = (L k).take (j + 1) by rw [List.take_succ_eq_append_getElem hjl, HB.out.1]] at h5
          have H6 := hid h5
          clear h5 H5
          go_roundw
          case rel => exact ⟨j + 1, by omega, by go_num, H6.out⟩
          case measure => simp [intOf]; omega
        · obtain rfl : j = n := by omega
          have e2 : decide ((j : Int) < (j : Int)) = false := by simp
          have h7 : Hold w0 wr (rowA 3 (.slice (some ⟨gc, 0, none⟩) 6 6) 6 ((cntA (uptoL L (k + 1))).map (Value.int .i64)) * ((blkA 61 gi #[v0, v1, v2, v3, v4, v5, .slice A7 4 c7, .slice A8 6 c8] * (blkA 68 gy #[ptrV (y0.map QM.g), ptrV (y1.map QM.g), ptrV (y2.map QM.g), ptrV (y3.map QM.g)] * (blkA 30 gz #[.int .i64 p0, .int .i64 p1, .int .i64 p2, .int .i64 p3] * (p * (qq * R))))))) := by
            have h5 := h.pk2 [0]
            rw [show (L k).take j = L k by rw [Hn.out]; simp] at h5
            exact h5
          have H7 := hid h7
          clear h h7
          go_wp2_with fail
          go_roundw
          case rel => exact ⟨k + 1, by omega, by go_num, H7.out⟩
          case measure => simp [intOf]; omega
    · obtain rfl : k = 4 := by omega
      have e1 : decide (((4 : Nat) : Int) < 4) = false := rfl
      clear hk hk4
      go_wp2_with fail
      obtain ⟨hn, hhn⟩ : ∃ hn, hn = held.length := ⟨_, rfl⟩
      have HHN := hid hhn
      have hhl' : hn ≤ 1000 := by rw [hhn]; exact hhl
      have H2 : Hid (Hold w0 wr (rowA 3 (.slice (some ⟨gc, 0, none⟩) 6 6) 6 ((cntA (uptoL L 4 ++ held.take 0)).map (Value.int .i64)) * ((blkA 61 gi #[v0, v1, v2, v3, v4, v5, .slice A7 4 c7, .slice A8 6 c8] * (blkA 68 gy #[ptrV (y0.map QM.g), ptrV (y1.map QM.g), ptrV (y2.map QM.g), ptrV (y3.map QM.g)] * (blkA 30 gz #[.int .i64 p0, .int .i64 p1, .int .i64 p2, .int .i64 p3] * (p * (qq * R)))))))) := hid (by rw [show uptoL L 4 ++ held.take 0 = uptoL L 4 by simp]; exact h)
      have HU := hid (uptoL_len HL6.out 4 (by omega))
      rw [← hhn]
      clear h e1 hhn hhl
      go_loopw [14] (fun u wx => ∃ j : Nat, j ≤ hn ∧ u = .int .i64 j ∧ Hold w0 wx (rowA 3 (.slice (some ⟨gc, 0, none⟩) 6 6) 6 ((cntA (uptoL L 4 ++ held.take j)).map (Value.int .i64)) * ((blkA 61 gi #[v0, v1, v2, v3, v4, v5, .slice A7 4 c7, .slice A8 6 c8] * (blkA 68 gy #[ptrV (y0.map QM.g), ptrV (y1.map QM.g), ptrV (y2.map QM.g), ptrV (y3.map QM.g)] * (blkA 30 gz #[.int .i64 p0, .int .i64 p1, .int .i64 p2, .int .i64 p3] * (p * (qq * R)))))))) (fun u _ => hn - (intOf u).toNat)
      case atStart => exact ⟨0, by omega, rfl, H2.out⟩
      case round =>
        clear H2
        obtain ⟨j, hj, rfl, h⟩ := hrel
        by_cases hjn : j < hn
        · have e2 : decide ((j : Int) < (hn : Int)) = true := decide_eq_true (by omega)
          have hjl : j < held.length := by rw [← HHN.out]; exact hjn
          obtain ⟨b, hb⟩ : ∃ b, b = held[j] := ⟨_, rfl⟩
          have hb6 : b < 6 := HKI.out.hd b (by rw [hb]; exact List.getElem_mem hjl)
          have h4 := h.pk6 [5, 0, 1, 2, 3, 4]
          obtain ⟨ad, rfl, hat⟩ := HQR.out _ _ j hjl h4
          rw [toI_get hjl, ← hb] at hat
          have HB := hid hb
          have j0 : (0 : Int) ≤ (j : Int) := by omega
          have j1 : (j : Int) < (hn : Int) := by omega
          have b0 : (0 : Int) ≤ (b : Int) := by omega
          have b1 : (b : Int) < 6 := by omega
          have eb0 : decide ((b : Int) < 0) = false := decide_eq_false (by omega)
          have eb6 : decide (6 ≤ (b : Int)) = false := decide_eq_false (by omega)
          obtain ⟨cn, hcn, hc, hf, hst⟩ := cntCell h hb6 (by have := HU.out; simp; omega)
          have q1 := hat _ _ h4
          have H5 := hid hst
          clear hb h4 hst hat h
          go_wp2_with fail
          have h5 := H5.out
          rw [List.append_assoc, show held.take j ++ [b] = held.take (j + 1) by rw [List.take_succ_eq_append_getElem hjl, HB.out]] at h5
          have H6 := hid h5
          clear h5 H5
          go_roundw
          case rel => exact ⟨j + 1, by omega, by go_num, H6.out⟩
          case measure => simp [intOf]; omega
        · obtain rfl : hn = j := by omega
          have e2 : decide ((hn : Int) < (hn : Int)) = false := by simp
          have h7 : Hold w0 wr (rowA 3 (.slice (some ⟨gc, 0, none⟩) 6 6) 6 ((cntA (uptoL L 4 ++ held ++ pushL ([y0, y1, y2, y3].take 0))).map (Value.int .i64)) * ((blkA 61 gi #[v0, v1, v2, v3, v4, v5, .slice A7 4 c7, .slice A8 6 c8] * (blkA 68 gy #[ptrV (y0.map QM.g), ptrV (y1.map QM.g), ptrV (y2.map QM.g), ptrV (y3.map QM.g)] * (blkA 30 gz #[.int .i64 p0, .int .i64 p1, .int .i64 p2, .int .i64 p3] * (p * (qq * R))))))) := by
            rw [show held.take hn = held by rw [HHN.out]; simp] at h
            rw [show uptoL L 4 ++ held ++ pushL ([y0, y1, y2, y3].take 0) = uptoL L 4 ++ held by simp [pushL]]
            exact h
          have H7 := hid h7
          have HP : Hid (∀ t : Nat, t < 4 → ∃ o, [y0, y1, y2, y3][t]? = some o ∧ (∀ q, o = some q → [p0, p1, p2, p3].getD t 0 = q.bk ∧ q.bk < 6)) := hid fun t ht => by
            obtain ⟨o, ho⟩ : ∃ o, [y0, y1, y2, y3][t]? = some o := ⟨_, List.getElem?_eq_getElem (by simpa using ht)⟩
            refine ⟨o, ho, fun q hq => ?_⟩
            subst hq
            exact ⟨HPV.out t q ho, (HKI.out.qy t q ho).b⟩
          clear h h7 hj hjn
          go_wp2_with fail
          go_loopw [15] (fun u wx => ∃ t : Nat, t ≤ 4 ∧ u = .int .i64 t ∧ Hold w0 wx (rowA 3 (.slice (some ⟨gc, 0, none⟩) 6 6) 6 ((cntA (uptoL L 4 ++ held ++ pushL ([y0, y1, y2, y3].take t))).map (Value.int .i64)) * ((blkA 61 gi #[v0, v1, v2, v3, v4, v5, .slice A7 4 c7, .slice A8 6 c8] * (blkA 68 gy #[ptrV (y0.map QM.g), ptrV (y1.map QM.g), ptrV (y2.map QM.g), ptrV (y3.map QM.g)] * (blkA 30 gz #[.int .i64 p0, .int .i64 p1, .int .i64 p2, .int .i64 p3] * (p * (qq * R)))))))) (fun u _ => 4 - (intOf u).toNat)
          case atStart => exact ⟨0, by omega, rfl, H7.out⟩
          case round =>
            clear H7 e2
            obtain ⟨t, ht, rfl, h⟩ := hrel
            by_cases ht4 : t < 4
            · have e3 : decide ((t : Int) < 4) = true := decide_eq_true (by omega)
              have t0 : (0 : Int) ≤ (t : Int) := by omega
              have t1 : (t : Int) < 4 := by omega
              obtain ⟨o, ho, hq⟩ := HP.out t ht4
              have q1 : wr.cell? ⟨gy, t, none⟩ = some (ptrV (o.map QM.g)) := h.drop.drop.blk.some_ (by
                have := congrArg (Option.map (fun o : Option QM => ptrV (o.map QM.g))) ho
                rw [← List.getElem?_map] at this
                simpa using this)
              have hpt := pushL_take ho
              have HPT := hid hpt
              cases o with
              | none =>
                replace q1 : wr.cell? ⟨gy, t, none⟩ = some (.pointer none) := q1
                clear hpt ho hq
                have h5 : Hold w0 wr (rowA 3 (.slice (some ⟨gc, 0, none⟩) 6 6) 6 ((cntA (uptoL L 4 ++ held ++ pushL ([y0, y1, y2, y3].take (t + 1)))).map (Value.int .i64)) * ((blkA 61 gi #[v0, v1, v2, v3, v4, v5, .slice A7 4 c7, .slice A8 6 c8] * (blkA 68 gy #[ptrV (y0.map QM.g), ptrV (y1.map QM.g), ptrV (y2.map QM.g), ptrV (y3.map QM.g)] * (blkA 30 gz #[.int .i64 p0, .int .i64 p1, .int .i64 p2, .int .i64 p3] * (p * (qq * R))))))) := by
                  rw [HPT.out, show pushL [none] = [] from rfl, List.append_nil]; exact h
                have H5 := hid h5
                clear h h5
                go_wp2_with fail
                go_roundw
                case rel => exact ⟨t + 1, by omega, by go_num, H5.out⟩
                case measure => simp [intOf]; omega
              | some q =>
                replace q1 : wr.cell? ⟨gy, t, none⟩ = some (.pointer (some ⟨q.g, 0, none⟩)) := q1
                obtain ⟨hpb, hb6⟩ := hq q rfl
                obtain ⟨b, hb⟩ : ∃ b, b = q.bk := ⟨_, rfl⟩
                rw [← hb] at hpb hb6
                have q2 : wr.cell? ⟨gz, t, none⟩ = some (.int .i64 b) := h.drop.drop.drop.blk.some_ (by
                  rw [← hpb]
                  have : t = 0 ∨ t = 1 ∨ t = 2 ∨ t = 3 := by omega
                  rcases this with rfl | rfl | rfl | rfl <;> rfl)
                have HB := hid hb
                have b0 : (0 : Int) ≤ (b : Int) := by omega
                have b1 : (b : Int) < 6 := by omega
                obtain ⟨cn, hcn, hc, hf, hst⟩ := cntCell h hb6 (by
                  have h8 := HU.out
                  have h9 : (pushL ([y0, y1, y2, y3].take t)).length ≤ 4 := Nat.le_trans (List.length_filterMap_le _ _) (by simp; omega)
                  simp only [List.length_append]; rw [← HHN.out]; omega)
                have H5 := hid hst
                clear hpt ho hq hpb hb hst h
                go_wp2_with fail
                have h5 := H5.out
                rw [show uptoL L 4 ++ held ++ pushL ([y0, y1, y2, y3].take t) ++ [b] = uptoL L 4 ++ held ++ pushL ([y0, y1, y2, y3].take (t + 1)) by rw [HPT.out, show pushL [some q] = [q.bk] from rfl, ← HB.out, ← List.append_assoc]] at h5
                have H6 := hid h5
                clear h5 H5
                go_roundw
                case rel => exact ⟨t + 1, by omega, by go_num, H6.out⟩
                case measure => simp [intOf]; omega
            · obtain rfl : t = 4 := by omega
              have e3 : decide (((4 : Nat) : Int) < 4) = false := rfl
              have HONE : Hid (∀ b : Nat, b < 6 → (uptoL L 4 ++ held ++ pushL ([y0, y1, y2, y3].take 4)).count b = 1) := hid fun b hb => kept_one HKI.out hb
              obtain ⟨acc, hacc⟩ : ∃ acc, acc = uptoL L 4 ++ held ++ pushL ([y0, y1, y2, y3].take 4) := ⟨_, rfl⟩
              rw [← hacc] at h HONE
              clear hacc ht ht4 HP
              go_wp2_with fail
              go_loopw [16] (fun u wx => ∃ b : Nat, b ≤ 6 ∧ u = .int .i64 b ∧ Hold w0 wx (rowA 3 (.slice (some ⟨gc, 0, none⟩) 6 6) 6 ((cntA (acc)).map (Value.int .i64)) * ((blkA 61 gi #[v0, v1, v2, v3, v4, v5, .slice A7 4 c7, .slice A8 6 c8] * (blkA 68 gy #[ptrV (y0.map QM.g), ptrV (y1.map QM.g), ptrV (y2.map QM.g), ptrV (y3.map QM.g)] * (blkA 30 gz #[.int .i64 p0, .int .i64 p1, .int .i64 p2, .int .i64 p3] * (p * (qq * R)))))))) (fun u _ => 6 - (intOf u).toNat)
              case atStart => exact ⟨0, by omega, rfl, h⟩
              case round =>
                clear h e3
                obtain ⟨b, hb, rfl, h⟩ := hrel
                by_cases hb6 : b < 6
                · have e4 : decide ((b : Int) < 6) = true := decide_eq_true (by omega)
                  have b0 : (0 : Int) ≤ (b : Int) := by omega
                  have b1 : (b : Int) < 6 := by omega
                  have hc : wr.cell? ⟨gc, b, none⟩ = some (.int .i64 1) := by
                    obtain ⟨g, hg, hc, _, _⟩ := h.setRow hb6
                    injection hg with hg
                    injection hg with hg
                    subst hg
                    have hl : b < (cntA acc).length := by rw [cntA_len]; exact hb6
                    rw [hc, List.getElem?_map, List.getElem?_eq_getElem hl]
                    have h1 := cntA_get acc hb6
                    rw [List.getD_eq_getElem?_getD, List.getElem?_eq_getElem hl, HONE.out b hb6] at h1
                    have h1 : (cntA acc)[b] = 1 := h1
                    rw [h1]; rfl
                  go_wp2_with fail
                  go_roundw
                  case rel => exact ⟨b + 1, by omega, by go_num, h⟩
                  case measure => simp [intOf]; omega
                · obtain rfl : b = 6 := by omega
                  have e4 : decide (((6 : Nat) : Int) < 6) = false := rfl
                  have H9 := hid (h.pk6 [5])
                  clear h
                  go_wp2_with fail
                  go_ret
                  exact ⟨rfl, H9.out⟩
end Go.Proofs.Ytigjpfhjddkckaa
