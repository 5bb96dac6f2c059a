/- Decode, of the reference: bytes that begin well. -/
import Derived.Test.YtipafegiobnkpaaRt
namespace Go.Proofs.Ytipafegiobnkpaa
open Go.RowKit
set_option linter.unusedVariables false
def z12 : Array Value := #[.int .i64 0, .int .i64 0, .int .i64 0, .int .i64 0, .int .i64 0, .int .i64 0, .int .i64 0, .int .i64 0, .int .i64 0, .int .i64 0, .int .i64 0, .int .i64 0]
theorem putL12 (c0 c1 c2 c3 c4 c5 c6 c7 c8 c9 c10 c11 : Int) : putL z12 0 [c0, c1, c2, c3, c4, c5, c6, c7, c8, c9, c10, c11] = #[.int .i64 c0, .int .i64 c1, .int .i64 c2, .int .i64 c3, .int .i64 c4, .int .i64 c5, .int .i64 c6, .int .i64 c7, .int .i64 c8, .int .i64 c9, .int .i64 c10, .int .i64 c11] := by
  apply Array.toList_inj.1
  rw [putL_at _ _ _ (by show 0 + 12 ≤ 12; omega)]
  rfl
theorem okR_b {N : Nat} {o : Option (List Nat)} (h : OkR N o) : ∀ r, o = some r → ∀ x ∈ r, x < 256 := fun r hr => (h r hr).1
theorem blk_12 {w : World} {g : Nat} {t : TypeId} {a0 a1 a2 a3 a4 a5 a6 a7 a8 a9 a10 a11 : Value} (h : Blk w g t #[a0, a1, a2, a3, a4, a5, a6, a7, a8, a9, a10, a11]) : (w.cell? ⟨g, 0, none⟩ = some a0 ∧ w.cell? ⟨g, 1, none⟩ = some a1 ∧ w.cell? ⟨g, 2, none⟩ = some a2 ∧ w.cell? ⟨g, 3, none⟩ = some a3 ∧ w.cell? ⟨g, 4, none⟩ = some a4 ∧ w.cell? ⟨g, 5, none⟩ = some a5 ∧ w.cell? ⟨g, 6, none⟩ = some a6 ∧ w.cell? ⟨g, 7, none⟩ = some a7 ∧ w.cell? ⟨g, 8, none⟩ = some a8 ∧ w.cell? ⟨g, 9, none⟩ = some a9 ∧ w.cell? ⟨g, 10, none⟩ = some a10 ∧ w.cell? ⟨g, 11, none⟩ = some a11) ∧ True :=
  ⟨⟨h.some_ rfl, h.some_ rfl, h.some_ rfl, h.some_ rfl, h.some_ rfl, h.some_ rfl, h.some_ rfl, h.some_ rfl, h.some_ rfl, h.some_ rfl, h.some_ rfl, h.some_ rfl⟩, trivial⟩
theorem Hold.set13of {w0 w : World} {R : Asr} {g : Nat} {t : TypeId} {a0 a1 a2 a3 a4 a5 a6 a7 a8 a9 a10 a11 a12 a13 a14 a15 b0 b1 b2 b3 b4 b5 b6 b7 b8 b9 b10 b11 b12 : Value} (h : Hold w0 w (blkA t g #[a0, a1, a2, a3, a4, a5, a6, a7, a8, a9, a10, a11, a12, a13, a14, a15] * R)) : Hold w0 (((((((((((((w.setCell ⟨g, 0, none⟩ b0).setCell ⟨g, 1, none⟩ b1).setCell ⟨g, 2, none⟩ b2).setCell ⟨g, 3, none⟩ b3).setCell ⟨g, 4, none⟩ b4).setCell ⟨g, 5, none⟩ b5).setCell ⟨g, 6, none⟩ b6).setCell ⟨g, 7, none⟩ b7).setCell ⟨g, 8, none⟩ b8).setCell ⟨g, 9, none⟩ b9).setCell ⟨g, 10, none⟩ b10).setCell ⟨g, 11, none⟩ b11).setCell ⟨g, 12, none⟩ b12) (blkA t g #[b0, b1, b2, b3, b4, b5, b6, b7, b8, b9, b10, b11, b12, a13, a14, a15] * R) := by
  have h0 : Hold w0 _ (blkA t g #[b0, a1, a2, a3, a4, a5, a6, a7, a8, a9, a10, a11, a12, a13, a14, a15] * R) := h.setBlk 0 b0
  have h1 : Hold w0 _ (blkA t g #[b0, b1, a2, a3, a4, a5, a6, a7, a8, a9, a10, a11, a12, a13, a14, a15] * R) := h0.setBlk 1 b1
  have h2 : Hold w0 _ (blkA t g #[b0, b1, b2, a3, a4, a5, a6, a7, a8, a9, a10, a11, a12, a13, a14, a15] * R) := h1.setBlk 2 b2
  have h3 : Hold w0 _ (blkA t g #[b0, b1, b2, b3, a4, a5, a6, a7, a8, a9, a10, a11, a12, a13, a14, a15] * R) := h2.setBlk 3 b3
  have h4 : Hold w0 _ (blkA t g #[b0, b1, b2, b3, b4, a5, a6, a7, a8, a9, a10, a11, a12, a13, a14, a15] * R) := h3.setBlk 4 b4
  have h5 : Hold w0 _ (blkA t g #[b0, b1, b2, b3, b4, b5, a6, a7, a8, a9, a10, a11, a12, a13, a14, a15] * R) := h4.setBlk 5 b5
  have h6 : Hold w0 _ (blkA t g #[b0, b1, b2, b3, b4, b5, b6, a7, a8, a9, a10, a11, a12, a13, a14, a15] * R) := h5.setBlk 6 b6
  have h7 : Hold w0 _ (blkA t g #[b0, b1, b2, b3, b4, b5, b6, b7, a8, a9, a10, a11, a12, a13, a14, a15] * R) := h6.setBlk 7 b7
  have h8 : Hold w0 _ (blkA t g #[b0, b1, b2, b3, b4, b5, b6, b7, b8, a9, a10, a11, a12, a13, a14, a15] * R) := h7.setBlk 8 b8
  have h9 : Hold w0 _ (blkA t g #[b0, b1, b2, b3, b4, b5, b6, b7, b8, b9, a10, a11, a12, a13, a14, a15] * R) := h8.setBlk 9 b9
  have h10 : Hold w0 _ (blkA t g #[b0, b1, b2, b3, b4, b5, b6, b7, b8, b9, b10, a11, a12, a13, a14, a15] * R) := h9.setBlk 10 b10
  have h11 : Hold w0 _ (blkA t g #[b0, b1, b2, b3, b4, b5, b6, b7, b8, b9, b10, b11, a12, a13, a14, a15] * R) := h10.setBlk 11 b11
  have h12 : Hold w0 _ (blkA t g #[b0, b1, b2, b3, b4, b5, b6, b7, b8, b9, b10, b11, b12, a13, a14, a15] * R) := h11.setBlk 12 b12
  exact h12
set_option maxRecDepth 8000 in
set_option maxHeartbeats 16000000 in
theorem rdec_good (w0 w : World) (R : Asr) (A : Option Addr) (n c : Nat) (bs : List Nat) (h : Hold w0 w R) (hS : Still w0 R ⟨A, n, c⟩ bs) (hb : ∀ x ∈ bs, x < 256) (hl : bs.length = n) (hbig : ¬ 262144 < n) (h4 : ¬ n < 4) (hmk : bs.take 4 = mark5) (hnc : n ≤ c) (hn : n ≤ 4611686018427387904) :
    Calls Try.prog 15 #[.slice A n c] w (DecPost w0 R (decode5 bs)) := by
  have HS := hid hS
  have HB := hid hb
  have HL := hid hl
  have H1 := hid (h.newBlk (t := 29) (cs := z16))
  clear hS hb hl h
  have e1 : decide ((262144 : Int) < (n : Int)) = false := decide_eq_false (by omega)
  have e2 : decide ((n : Int) < 4) = false := decide_eq_false (by omega)
  have hsl : ∀ w, (Instr.slice 31 (.slice A n c) none (some (.int .i64 4)) none).run Try.prog w = .ok (.slice A 4 c) w := fun w => slice_headP 31 (by kernel_rfl) sz_u8 w A n c 4 (by omega)
  have h1 := H1.out
  obtain ⟨b, hr⟩ := HS.out _ _ h1
  simp only at hr
  obtain ⟨ad, hA, hb9, hc9⟩ := hr.cellAt (k := 0) (by omega)
  have hr4 := hr.take (k := 4) (by omega)
  rw [show (bv bs).take 4 = bv (bs.take 4) by unfold bv; rw [List.map_take]] at hr4
  have hcv := conv_bytes _ A b 4 c (bs.take 4) hr4 (fun h => by rw [hA] at h; cases h)
  unfold z16 at hcv
  have HA := hid hA
  have e3 : ((strB (bs.take 4)).toList == [83, 84, 88, 49]) = decide (bs.take 4 = mark5) := by
    have h9 := strB_beq (bs.take 4) mark5 (fun x hx => HB.out x (List.mem_of_mem_take hx)) (by decide)
    rw [strB_list mark5] at h9
    exact h9
  clear hc9
  clear hr hr4 h1 hA hb9
  rw [decide_eq_true hmk] at e3
  have hD0 : decode5 bs = match scrD (bs.drop 4) with
      | none => (.zero, 30)
      | some s => (s, 0) := by
    unfold decode5
    rw [if_neg (by rw [HL.out]; exact hbig), if_neg (by rw [HL.out]; exact fun h => h.elim h4 (fun h => h hmk))]
    rfl
  have HD0 : Hid (scrD (bs.drop 4) = none → decode5 bs = (.zero, 30)) := hid fun h => by rw [hD0, h]
  have HD1 : Hid (∀ s, scrD (bs.drop 4) = some s → decode5 bs = (s, 0)) := hid fun s h => by rw [hD0, h]
  clear hD0 hmk
  obtain ⟨iuint64, hiuint64, hz0uint64, hz1uint64, hz2uint64⟩ := parts5 info_u64L
  obtain ⟨iint, hiint, hz0int, hz1int, hz2int⟩ := parts5 info_i64L
  obtain ⟨iins, hiins, hz0ins, hz1ins, hz2ins⟩ := parts5 info_insL
  obtain ⟨isl, hisl, hz0sl, hz1sl, hz2sl⟩ := parts5 info_slL
  go_enter Try.func15, Try.ntmps15
  go_upto_region 5 with fail
  have h1 := H1.out
  unfold z16 at h1
  generalize hW : World.alloc _ _ = W at h1 ⊢
  clear hW H1 hcv hsl e3
  generalize w.heap.size = gs at h1 ⊢
  have h2 := (h1.newBlk (t := 82) (cs := #[.slice A n c, .int .i64 4, .bool false])).newBlk (t := 83) (cs := z12)
  simp only [World.size_alloc] at h2
  have H3 := hid (rrClose (S := ⟨A, n, c⟩) (all := bs) (o := some (bs.drop 4)) (k := 4) (b := false) ⟨by simp only; omega, rfl, rfl⟩ h2.swap)
  unfold z12 at H3
  clear h1 h2
  obtain ⟨g, hg⟩ : ∃ g, g = W.heap.size := ⟨_, rfl⟩
  go_wp2_with fail
  have h3 := H3.out
  generalize hW : World.alloc _ _ = W2 at h3 ⊢
  clear hW H3
  rw [← hg] at h3 ⊢
  clear hg
  generalize g + 1 = gl at h3 ⊢
  have h3 : Hold w0 W2 (rrA ⟨A, n, c⟩ bs g (some (bs.drop 4)) * (blkA 83 gl z12 * (blkA 29 gs z16 * R))) := h3
  have hok : OkR 262144 (some (bs.drop 4)) := fun r hr => by
    obtain rfl := Option.some.inj hr
    exact ⟨fun x hx => HB.out x (List.mem_of_mem_drop hx), by rw [List.length_drop, HL.out]; omega⟩
  go_loopw [6] (fun i wr => ∃ (k : Nat) (o : Option (List Nat)) (l : List Int), k ≤ 12 ∧ i = .int .i64 (k : Int) ∧ l.length = k ∧ LeftO decS (many decS 12 (bs.drop 4)) (12 - k) o l ∧ OkR 262144 o ∧ Hold w0 wr (rrA ⟨A, n, c⟩ bs g o * (blkA 83 gl (putL z12 0 l) * (blkA 29 gs z16 * R)))) (fun i _ => 12 - (intOf i).toNat)
  case atStart => exact ⟨0, some (bs.drop 4), [], by omega, rfl, rfl, LeftO.start decS 12 (some (bs.drop 4)), hok, h3⟩
  case round =>
    clear h3 hok
    obtain ⟨k, o, l, hk, rfl, hl, hL, hok, h⟩ := hrel
    by_cases hlt : k < 12
    · have e1 : decide ((k : Int) < (12 : Int)) = true := decide_eq_true (by omega)
      obtain ⟨m, hm⟩ : ∃ m, 12 - k = m + 1 := ⟨12 - k - 1, by omega⟩
      rw [hm] at hL
      have HLs := hid (And.intro (hL.step (res_s o)) (And.intro hm hl))
      have HO := hid (okR_s hok)
      have hor : ∀ r, o = some r → ∀ x ∈ r, x < 256 := fun r hr => (hok r hr).1
      have HC := hid (rr_signed w0 wr _ ⟨A, n, c⟩ bs g o h HS.out.under.under hn HB.out hor)
      have i0 : (0 : Int) ≤ (k : Int) := by omega
      have i1 : (k : Int) < 12 := by omega
      clear hL hm hl h hor hok
      generalize (sR o).map (·.2) = o2 at HLs HO HC
      generalize (sR o).elim 0 (·.1) = v at HLs HC
      go_wp2_with fail
      refine HC.out.mono ?_
      rintro e w3 ⟨rfl, h3⟩
      clear HC
      have h4 := h3.swap
      have z0 := h4.blk.frozen k
      have hs1 : k < (putL z12 0 l).size := by rw [putL_size]; show k < 12; exact hlt
      obtain ⟨u0, c0⟩ : ∃ u, w3.cell? ⟨gl, k, none⟩ = some u := ⟨_, h4.blk.some_ (i := k) (Array.getElem?_eq_getElem hs1)⟩
      have h5 := h4.setBlk k (.int .i64 v)
      rw [show (putL z12 0 l).setIfInBounds k (.int .i64 v) = putL z12 0 (l ++ [v]) by rw [putL_snoc, HLs.out.2.2, Nat.zero_add]] at h5
      have H5 := hid h5.swap
      clear h3 h4 h5 hs1
      go_wp2_with fail
      go_roundw
      case rel => exact ⟨k + 1, o2, l ++ [v], by omega, by go_num, by rw [List.length_append, HLs.out.2.2]; rfl, by rw [show 12 - (k + 1) = m by have := HLs.out.2.1; omega]; exact HLs.out.1, HO.out, H5.out⟩
      case measure => simp [intOf]; omega
    · obtain rfl : k = 12 := by omega
      have e1 : decide (((12 : Nat) : Int) < (12 : Int)) = false := by decide
      have hX : Done (many decS 12 (bs.drop 4)) o l := by
        have h5 := hL
        rw [Nat.sub_self] at h5
        exact h5.done
      obtain ⟨c0, c1, c2, c3, c4, c5, c6, c7, c8, c9, c10, c11, hl12⟩ := twelve hl
      subst hl12
      rw [putL12] at h
      have HX := hid hX
      have HO := hid hok
      clear hL hl hX hok
      have H2 := hid (h.newBlk (t := 29) (cs := z16))
      unfold z16 at H2
      clear h
      go_upto_region 12 with fail
      have h2 := H2.out
      generalize hW : World.alloc _ _ = W3 at h2 ⊢
      generalize wr.heap.size = g7 at h2 ⊢
      clear hW H2
      have h2 : Hold w0 W3 (blkA 29 g7 #[.int .i64 0, .int .i64 0, .int .i64 0, .int .i64 0, .int .i64 0, .int .i64 0, .int .i64 0, .int .i64 0, .int .i64 0, .int .i64 0, .int .i64 0, .int .i64 0, .bool false, .slice none 0 0, .slice none 0 0, .slice none 0 0] * (rrA ⟨A, n, c⟩ bs g o * (blkA 83 gl #[.int .i64 c0, .int .i64 c1, .int .i64 c2, .int .i64 c3, .int .i64 c4, .int .i64 c5, .int .i64 c6, .int .i64 c7, .int .i64 c8, .int .i64 c9, .int .i64 c10, .int .i64 c11] * (blkA 29 gs z16 * R)))) := h2
      obtain ⟨⟨q0, q1, q2, q3, q4, q5, q6, q7, q8, q9, q10, q11⟩, _⟩ := blk_12 (h2.pk3 [2]).blk
      obtain ⟨⟨x0, x1, x2, x3, x4, x5, x6, x7, x8, x9, x10, x11, x12, x13, x14, x15⟩, y0, y1, y2, y3, y4, y5, y6, y7, y8, y9, y10, y11, y12, y13, y14, y15⟩ := blk_16 h2.blk
      have H3 := hid (h2.set13of (b0 := .int .i64 c0) (b1 := .int .i64 c1) (b2 := .int .i64 c2) (b3 := .int .i64 c3) (b4 := .int .i64 c4) (b5 := .int .i64 c5) (b6 := .int .i64 c6) (b7 := .int .i64 c7) (b8 := .int .i64 c8) (b9 := .int .i64 c9) (b10 := .int .i64 c10) (b11 := .int .i64 c11) (b12 := .bool false))
      clear h2
      go_upto_region 13 with fail
      have h3 := H3.out
      generalize hW : World.setCell _ _ _ = W4 at h3 ⊢
      clear hW H3 q0 q1 q2 q3 q4 q5 q6 q7 q8 q9 q10 q11 x0 x1 x2 x3 x4 x5 x6 x7 x8 x9 x10 x11 x12 x13 x14 x15 y0 y1 y2 y3 y4 y5 y6 y7 y8 y9 y10 y11 y12 y13 y14 y15
      have h3 : Hold w0 W4 (rrA ⟨A, n, c⟩ bs g o * (blkA 29 g7 #[.int .i64 c0, .int .i64 c1, .int .i64 c2, .int .i64 c3, .int .i64 c4, .int .i64 c5, .int .i64 c6, .int .i64 c7, .int .i64 c8, .int .i64 c9, .int .i64 c10, .int .i64 c11, .bool false, .slice none 0 0, .slice none 0 0, .slice none 0 0] * (blkA 29 gs z16 * R))) := h3.pk4 [1, 0, 3]
      obtain ⟨p, bb, hat, h4⟩ := rrOpen h3
      obtain ⟨b0, hrd⟩ := HS.out.under.under _ _ h3
      simp only at hrd
      have hpn : p ≤ n := hat.1
      have HAT := hid hat
      clear h3 hat
      have kc1 := h4.blk.some_ (i := 1) rfl
      by_cases hpe : p = n
      · have HD : Hid (decode5 bs = (.zero, 30)) := hid (HD0.out (by
          have hc : cfgD (bs.drop 4) = none := by
            unfold cfgD
            have h5 := HX.out
            have h6 := HAT.out.2
            cases o with
            | none => rw [show many decS 12 (bs.drop 4) = none from h5]; rfl
            | some r =>
              rw [show many decS 12 (bs.drop 4) = some _ from h5]
              have h7 : r = [] := by rw [h6.2]; simp only; rw [hpe, ← HL.out, List.drop_length]
              rw [h7]; rfl
          unfold scrD; rw [hc]; rfl))
        have e5 : ((p : Int) == (n : Int)) = true := by simp; omega
        have h6 : Hold w0 W4 (blkA 29 gs #[.int .i64 0, .int .i64 0, .int .i64 0, .int .i64 0, .int .i64 0, .int .i64 0, .int .i64 0, .int .i64 0, .int .i64 0, .int .i64 0, .int .i64 0, .int .i64 0, .bool false, .slice none 0 0, .slice none 0 0, .slice none 0 0] * R) := (h4.pk3 [2])
        clear hrd hpe h4
        go_upto_region 14 with fail
        clear kc1 e5
        go_wp2_with (refine wpList_store rfl 29 _ _ rfl gs _ _ #[.int .i64 0, .int .i64 0, .int .i64 0, .int .i64 0, .int .i64 0, .int .i64 0, .int .i64 0, .int .i64 0, .int .i64 0, .int .i64 0, .int .i64 0, .int .i64 0, .bool false, .slice none 0 0, .slice none 0 0, .slice none 0 0] rfl rfl _ Try.sizeOf29 h6 rfl rfl rfl ?_; intro y5 h7)
        clear h6
        rw [HD.out]
        have hfin : Hid (DecPost w0 R (.zero, 30) (.returned (.tuple #[scrV .zero (.slice none 0 0) (.slice none 0 0) (.slice none 0 0), .int .i64 30])) y5) := hid ⟨_, _, _, rfl, h7.drop.zeroScr⟩
        exact bodyPost_ret (results_blk Try.results15 _ rfl Try.isAgg29 _ Try.sizeOf29 h7.blk rfl) rfl hfin.out
      have hlt : p < n := by omega
      have e5 : ((p : Int) == (n : Int)) = false := by simp; omega
      obtain ⟨ad2, hA2, hb9, hcell⟩ := hrd.cellAt hlt
      have hpl : p < bs.length := by rw [HL.out]; exact hlt
      obtain ⟨x, hx⟩ : ∃ x, x = bs[p] := ⟨_, rfl⟩
      replace hcell : W4.cell? (ad2.add p) = some (.int .u8 (x : Int)) := by rw [hcell, hx]; simp [bv]
      have hdr : bs.drop p = x :: bs.drop (p + 1) := by rw [hx]; exact List.drop_eq_getElem_cons hpl
      have HDR := hid hdr
      have p0 : (0 : Int) ≤ (p : Int) := by omega
      have p1 : (p : Int) < (n : Int) := by omega
      have HX9 := hid hx
      subst hA2
      clear hrd hb9 hdr hx
      by_cases hbig2 : 1 < x
      · have HD : Hid (decode5 bs = (.zero, 30)) := hid (HD0.out (by
          have hc : cfgD (bs.drop 4) = none := by
            unfold cfgD
            have h5 := HX.out
            have h6 := HAT.out.2
            cases o with
            | none => rw [show many decS 12 (bs.drop 4) = none from h5]; rfl
            | some r =>
              rw [show many decS 12 (bs.drop 4) = some _ from h5]
              rw [show r = x :: bs.drop (p + 1) from h6.2.trans HDR.out]
              simp [byteD, hbig2]
          unfold scrD; rw [hc]; rfl))
        have e6 : decide ((1 : Int) < (x : Int)) = true := decide_eq_true (by omega)
        have h6 : Hold w0 W4 (blkA 29 gs #[.int .i64 0, .int .i64 0, .int .i64 0, .int .i64 0, .int .i64 0, .int .i64 0, .int .i64 0, .int .i64 0, .int .i64 0, .int .i64 0, .int .i64 0, .int .i64 0, .bool false, .slice none 0 0, .slice none 0 0, .slice none 0 0] * R) := (h4.pk3 [2])
        clear h4
        go_upto_region 14 with fail
        clear kc1 e5 e6 hcell
        go_wp2_with (refine wpList_store rfl 29 _ _ rfl gs _ _ #[.int .i64 0, .int .i64 0, .int .i64 0, .int .i64 0, .int .i64 0, .int .i64 0, .int .i64 0, .int .i64 0, .int .i64 0, .int .i64 0, .int .i64 0, .int .i64 0, .bool false, .slice none 0 0, .slice none 0 0, .slice none 0 0] rfl rfl _ Try.sizeOf29 h6 rfl rfl rfl ?_; intro y5 h7)
        clear h6
        rw [HD.out]
        have hfin : Hid (DecPost w0 R (.zero, 30) (.returned (.tuple #[scrV .zero (.slice none 0 0) (.slice none 0 0) (.slice none 0 0), .int .i64 30])) y5) := hid ⟨_, _, _, rfl, h7.drop.zeroScr⟩
        exact bodyPost_ret (results_blk Try.results15 _ rfl Try.isAgg29 _ Try.sizeOf29 h7.blk rfl) rfl hfin.out
      have e6 : decide ((1 : Int) < (x : Int)) = false := decide_eq_false (by omega)
      obtain ⟨sb, hsb⟩ : ∃ sb, sb = (x == 1) := ⟨_, rfl⟩
      have esb : ((x : Int) == 1) = sb := by
        rw [hsb]
        by_cases h : x = 1
        · subst h; rfl
        · have h2 : ((x : Int) == 1) = false := by simp; omega
          rw [h2]
          have h3 : (x == 1) = false := by simp; exact h
          rw [h3]
      have HSB := hid hsb
      have h5 : Hold w0 W4 (blkA 29 g7 #[.int .i64 c0, .int .i64 c1, .int .i64 c2, .int .i64 c3, .int .i64 c4, .int .i64 c5, .int .i64 c6, .int .i64 c7, .int .i64 c8, .int .i64 c9, .int .i64 c10, .int .i64 c11, .bool false, .slice none 0 0, .slice none 0 0, .slice none 0 0] * (blkA 82 g #[SlV.v ⟨some ad2, n, c⟩, .int .i64 (p : Int), .bool bb] * (blkA 29 gs z16 * R))) := h4.swap
      have z12' := h5.blk.frozen 12
      have k12 := h5.blk.some_ (i := 12) rfl
      have h6 : Hold w0 (W4.setCell ⟨g7, 12, none⟩ (.bool sb)) (blkA 29 g7 #[.int .i64 c0, .int .i64 c1, .int .i64 c2, .int .i64 c3, .int .i64 c4, .int .i64 c5, .int .i64 c6, .int .i64 c7, .int .i64 c8, .int .i64 c9, .int .i64 c10, .int .i64 c11, .bool sb, .slice none 0 0, .slice none 0 0, .slice none 0 0] * (blkA 82 g #[SlV.v ⟨some ad2, n, c⟩, .int .i64 (p : Int), .bool bb] * (blkA 29 gs z16 * R))) := h5.setBlk 12 (.bool sb)
      have H6 := hid h6
      clear hsb h4 h5 h6
      go_upto_region 16 with fail
      have h6 := H6.out
      generalize hW : World.setCell _ _ _ = W6 at h6 ⊢
      clear hW H6 z12' k12 kc1 hcell e5 e6 esb
      have h7 := h6.swap
      have kc1 := h7.blk.some_ (i := 1) rfl
      have z1 := h7.blk.frozen 1
      have h8 : Hold w0 (W6.setCell ⟨g, 1, none⟩ (.int .i64 ((p : Int) + 1))) (blkA 82 g #[SlV.v ⟨some ad2, n, c⟩, .int .i64 ((p + 1 : Nat) : Int), .bool bb] * (blkA 29 g7 #[.int .i64 c0, .int .i64 c1, .int .i64 c2, .int .i64 c3, .int .i64 c4, .int .i64 c5, .int .i64 c6, .int .i64 c7, .int .i64 c8, .int .i64 c9, .int .i64 c10, .int .i64 c11, .bool sb, .slice none 0 0, .slice none 0 0, .slice none 0 0] * (blkA 29 gs z16 * R))) := h7.setBlk 1 (.int .i64 ((p : Int) + 1))
      have hat2 : AtR n bs (o.map fun _ => bs.drop (p + 1)) (p + 1, bb) := by
        refine ⟨by simp only; omega, ?_⟩
        have h9 := HAT.out.2
        cases o with
        | none => exact h9
        | some r => exact ⟨h9.1, rfl⟩
      have hcf : Done ((cfgD (bs.drop 4)).map fun y => ([y.1], y.2)) (o.map fun _ => bs.drop (p + 1)) [([c0, c1, c2, c3, c4, c5, c6, c7, c8, c9, c10, c11], sb)] := by
        have h5 := HX.out
        have h6 := HAT.out.2
        cases o with
        | none =>
          have h9 : many decS 12 (bs.drop 4) = none := h5
          show Option.map _ (cfgD (bs.drop 4)) = none
          unfold cfgD; rw [h9]; rfl
        | some r =>
          have h9 : many decS 12 (bs.drop 4) = some ([c0, c1, c2, c3, c4, c5, c6, c7, c8, c9, c10, c11], r) := h5
          show Option.map _ (cfgD (bs.drop 4)) = some ([([c0, c1, c2, c3, c4, c5, c6, c7, c8, c9, c10, c11], sb)], bs.drop (p + 1))
          unfold cfgD
          rw [h9, show r = x :: bs.drop (p + 1) from h6.2.trans HDR.out, HSB.out]
          simp [byteD, hbig2]
      have hok1 : OkR 262144 (o.map fun _ => bs.drop (p + 1)) := fun r hr => by
        cases o with
        | none => cases hr
        | some r' =>
          obtain rfl := Option.some.inj hr
          exact ⟨fun y hy => HB.out y (List.mem_of_mem_drop hy), by rw [List.length_drop, HL.out]; omega⟩
      have HCF := hid hcf
      have H8 := hid (rrClose (S := ⟨some ad2, n, c⟩) (all := bs) hat2 h8)
      clear HAT HDR HX HX9 HO hat2 hcf h6 h7 h8 hpe hlt hbig2 p0 p1 hpl HSB
      generalize (o.map fun _ => bs.drop (p + 1)) = o1 at HCF H8 hok1
      go_upto_region 17 with fail
      have h8 := H8.out
      generalize hW : World.setCell _ _ _ = W8 at h8 ⊢
      clear hW H8 kc1 z1
      go_wp2_with fail
      refine (rr_length w0 _ _ ⟨some ad2, n, c⟩ bs g 1 o1 h8 HS.out.under.under hn HB.out (okR_b hok1) (by decide)).mono ?_
      rintro e y1 ⟨rfl, h9⟩
      have HL0 := hid (start_list codecU (m := 1) (by decide) (fun x _ => encU_pos x) hok1)
      have HOK := hid (okR_l (m := 1) hok1)
      have HNL := hid (lR_le (m := 1) hok1)
      generalize (lR 1 o1).map (·.2) = o2 at h9 HL0 HOK
      generalize (lR 1 o1).elim 0 (·.1) = nl at HL0 HNL ⊢
      clear h8 hok1
      obtain ⟨X13, hX⟩ : ∃ X, X = o1.bind (listD decU) := ⟨_, rfl⟩
      rw [← hX] at HL0
      have HX13 := hid hX
      clear hX
      have hN := (h9.nilRowS 46 1)
      have hN : Hold w0 _ (rrA ⟨some ad2, n, c⟩ bs g o2 * (blkA 29 g7 #[.int .i64 c0, .int .i64 c1, .int .i64 c2, .int .i64 c3, .int .i64 c4, .int .i64 c5, .int .i64 c6, .int .i64 c7, .int .i64 c8, .int .i64 c9, .int .i64 c10, .int .i64 c11, .bool sb, .slice none 0 0, .slice none 0 0, .slice none 0 0] * (uvA (.slice none 0 0) [] * (blkA 29 gs z16 * R)))) := hN.pk3 [1, 2, 0]
      clear h9
      go_wp2_with fail
      go_loopw [8] (fun t8 wr => ∃ (m : Nat) (o1x : Option (List Nat)) (l1 : List Nat) (A1 : Option Addr) (k1 : Nat), t8 = .int .i64 (m : Int) ∧ l1.length + m = nl ∧ LeftO decU X13 m o1x l1 ∧ OkR 262144 o1x ∧ Hold w0 wr (rrA ⟨some ad2, n, c⟩ bs g o1x * (blkA 29 g7 #[.int .i64 c0, .int .i64 c1, .int .i64 c2, .int .i64 c3, .int .i64 c4, .int .i64 c5, .int .i64 c6, .int .i64 c7, .int .i64 c8, .int .i64 c9, .int .i64 c10, .int .i64 c11, .bool sb, .slice A1 l1.length k1, .slice none 0 0, .slice none 0 0] * (uvA (.slice A1 l1.length k1) l1 * (blkA 29 gs z16 * R))))) (fun t8 _ => (intOf t8).toNat)
      case atStart => exact ⟨nl, o2, [], none, 0, rfl, by simp, HL0.out, HOK.out, hN⟩
      case round =>
        clear hN HL0 HOK
        obtain ⟨m, o1x, l1, A1, k1, rfl, hlm, hL, hok, h⟩ := hrel
        by_cases hlt : 0 < m
        · obtain ⟨q, hq⟩ : ∃ q, m = q + 1 := ⟨m - 1, by omega⟩
          rw [hq] at hL
          have HLs := hid (And.intro (hL.step (res_u o1x)) (And.intro hq hlm))
          have HO := hid (okR_u hok)
          have e1 : decide ((0 : Int) < (m : Int)) = true := decide_eq_true (by omega)
          have e1' : decide (0 < m) = true := decide_eq_true hlt
          have h0 := h.drew
          have HC := hid (rr_unsigned w0 _ _ ⟨some ad2, n, c⟩ bs g o1x h0 HS.out.under.under.under hn HB.out)
          have hll : l1.length ≤ 262144 := by have := HNL.out; omega
          have hm9 : m ≤ 262144 := by have := HNL.out; omega
          clear hL hq hlm hok h
          generalize (uR o1x).map (·.2) = o3 at HLs HO HC
          generalize (uR o1x).elim 0 (·.1) = v at HLs HC
          go_upto_region 20 with fail
          refine wp_region_brk [7] (by kernel_rfl) ?_
          refine wpAnyB_now (fun w' => w'.cell? ⟨g7, 13, none⟩ = some (.slice A1 l1.length k1)) (fun _ _ => trivial) _ _ _ _ ?_
          refine' wpAnyB_bulk [true, true, true] 179 (listed' := #[true, true, true, false, false, false, false, false]) rfl (by kernel_rfl) (by kernel_rfl) (by kernel_rfl) (by kernel_rfl) (by kernel_rfl) (by kernel_rfl) (by decide) (fun _ _ _ _ h => h) rfl (h0.drop.blk.some_ (i := 13) rfl) (fun wq hq => ?_) ?_; rotate_left 1
          · simp only [maskL]
            repeat (go_big_quiet_step (fail))
            exact wpQuiet_nil rfl
          refine wpAnyB_bar [false, false, false, true] (fuel := 4) (by rfl) (by rfl) (by kernel_rfl) (fun QB hQB hQX => ?_)
          simp only [maskL]
          go_wp2_with fail
          refine HC.out.mono ?_
          rintro e y3 ⟨rfl, h3⟩
          clear h0 HC
          go_wp2_with fail
          refine hQB.out _ _ (h3.drop.blk.some_ (i := 13) rfl) ?_
          clear hQB hQX QB
          have h4 := h3.pk3 [2, 0, 1]
          refine wpAnyB_bar [false, false, false, false, true] (fuel := 3) (by rfl) (by rfl) (by kernel_rfl) (fun QB hQB hQX => ?_)
          simp only [maskL]
          go_wp2_with fail
          refine hQB.out _ _ ((h3.alloc _).drop.blk.some_ (i := 13) rfl) ?_
          clear hQB hQX QB
          refine wpAnyB_bar [false, false, false, false, false, true] (fuel := 2) (by rfl) (by rfl) (by kernel_rfl) (fun QB hQB hQX => ?_)
          simp only [maskL]
          go_wp2_with (at_builtin; refine wpList_app rfl _ _ 25 rfl 46 iuint64 (.int .u64 0) 1 8 Try.underlying25 hiuint64 hz0uint64 hz1uint64 hz2uint64 rfl (by decide) (.slice A1 l1.length k1) l1.length _ [.int .u64 (v : Int)] _ rfl h4 _ rfl rfl rfl rfl (by omega) (by decide) ?_)
          intro A2 c2' y5 h5
          go_wp2_with fail
          refine hQB.out _ _ (h5.drop.drop.blk.some_ (i := 13) rfl) ?_
          clear hQB hQX QB h3 h4
          refine' wpAnyB_bulk [false, false, false, false, false, false, true] 179 (listed' := #[true, true, true, true, true, true, true, false]) rfl (by kernel_rfl) (by kernel_rfl) (by kernel_rfl) (by kernel_rfl) (by kernel_rfl) (by kernel_rfl) (by decide) (fun _ _ _ _ h => h) rfl (h5.drop.drop.blk.some_ (i := 13) rfl) (fun wq hq => ?_) ?_; rotate_left 1
          · simp only [maskL]
            repeat (go_big_quiet_step (fail))
            exact wpQuiet_nil rfl
          refine wpAnyB_brk [false, false, false, false, false, false, false, true] (fuel := 0) (by rfl) (by rfl) (by kernel_rfl) (by kernel_rfl) (fun QB hQB hQX => ?_)
          simp only [maskL]
          have p2 := h5.drop.drop.blk.some_ (i := 13) rfl
          have z2 := h5.drop.drop.blk.frozen 13
          have H6 := hid (((h5.pk3 [2, 1, 0])).setBlk 13 (.slice A2 (l1.length + 1) c2'))
          clear h5
          go_wp2_with fail
          refine hQB.out _ _ ?_
          refine wpAnyB_forget (by kernel_rfl) ?_
          refine wpAnyB_done (by kernel_rfl) ?_ _
          have h6 := H6.out
          generalize hW : World.setCell _ _ _ = W7 at h6 ⊢
          clear hW H6
          have HFIN : Hold w0 W7 (rrA ⟨some ad2, n, c⟩ bs g o3 * (blkA 29 g7 #[.int .i64 c0, .int .i64 c1, .int .i64 c2, .int .i64 c3, .int .i64 c4, .int .i64 c5, .int .i64 c6, .int .i64 c7, .int .i64 c8, .int .i64 c9, .int .i64 c10, .int .i64 c11, .bool sb, .slice A2 (l1 ++ [v]).length c2', .slice none 0 0, .slice none 0 0] * (uvA (.slice A2 (l1 ++ [v]).length c2') (l1 ++ [v]) * (blkA 29 gs z16 * R)))) := by
            have h7 := h6.pk3 [1, 0, 2]
            unfold uvA
            rw [show (l1 ++ [v]).length = l1.length + 1 by simp, show uv (l1 ++ [v]) = uv l1 ++ [.int .u64 (v : Int)] by simp [uv]]
            exact h7
          have HFIN := hid HFIN
          clear h6
          go_wp2_with fail
          go_round
          case rel => exact ⟨q, o3, l1 ++ [v], A2, c2', by rw [HLs.out.2.1]; go_num, by have := HLs.out.2.1; have := HLs.out.2.2; rw [List.length_append, List.length_singleton]; omega, HLs.out.1, HO.out, HFIN.out⟩
          case measure => have := HLs.out.2.1; simp [intOf]; omega
        · obtain rfl : m = 0 := by omega
          have HR1 : Hid (Res (listD decU) o1 o1x l1) := hid (res_list (by rw [← HX13.out]; exact hL.done))
          have hl1 : l1.length ≤ 262144 := by have := HNL.out; omega
          clear hL hlm hlt HNL HX13
          go_wp2_with fail
          refine (rr_length w0 _ _ ⟨some ad2, n, c⟩ bs g 1 o1x h HS.out.under.under.under hn HB.out (okR_b hok) (by decide)).mono ?_
          rintro e y1 ⟨rfl, h9⟩
          have HL0 := hid (start_list codecLI (m := 1) (by decide) (fun x _ => encL_pos _ x) hok)
          have HOK := hid (okR_l (m := 1) hok)
          have HNL := hid (lR_le (m := 1) hok)
          generalize (lR 1 o1x).map (·.2) = o2 at h9 HL0 HOK
          generalize (lR 1 o1x).elim 0 (·.1) = nl at HL0 HNL ⊢
          clear h hok
          obtain ⟨X14, hX⟩ : ∃ X, X = o1x.bind (listD (listD insD)) := ⟨_, rfl⟩
          rw [← hX] at HL0
          have HX14 := hid hX
          clear hX
          have hN := h9.nilProg
          have hN : Hold w0 _ (rrA ⟨some ad2, n, c⟩ bs g o2 * (blkA 29 g7 #[.int .i64 c0, .int .i64 c1, .int .i64 c2, .int .i64 c3, .int .i64 c4, .int .i64 c5, .int .i64 c6, .int .i64 c7, .int .i64 c8, .int .i64 c9, .int .i64 c10, .int .i64 c11, .bool sb, .slice A1 l1.length k1, .slice none 0 0, .slice none 0 0] * (progA (.slice none 0 0) [] * (uvA (.slice A1 l1.length k1) l1 * (blkA 29 gs z16 * R))))) := hN.pk4 [1, 2, 0, 3]
          clear h9
          go_wp2_with fail
          go_loopw [9] (fun t8 wr => ∃ (m : Nat) (o2x : Option (List Nat)) (l2 : List (List (List Int))) (A2v : Option Addr) (k2 : Nat), t8 = .int .i64 (m : Int) ∧ l2.length + m = nl ∧ LeftO (listD insD) X14 m o2x l2 ∧ OkR 262144 o2x ∧ Hold w0 wr (rrA ⟨some ad2, n, c⟩ bs g o2x * (blkA 29 g7 #[.int .i64 c0, .int .i64 c1, .int .i64 c2, .int .i64 c3, .int .i64 c4, .int .i64 c5, .int .i64 c6, .int .i64 c7, .int .i64 c8, .int .i64 c9, .int .i64 c10, .int .i64 c11, .bool sb, .slice A1 l1.length k1, .slice A2v l2.length k2, .slice none 0 0] * (progA (.slice A2v l2.length k2) l2 * (uvA (.slice A1 l1.length k1) l1 * (blkA 29 gs z16 * R)))))) (fun t8 _ => (intOf t8).toNat)
          case atStart => exact ⟨nl, o2, [], none, 0, rfl, by simp, HL0.out, HOK.out, hN⟩
          case round =>
            clear hN HL0 HOK
            obtain ⟨m, o2x, l2, A2v, k2, rfl, hlm, hL, hok, h⟩ := hrel
            by_cases hlt : 0 < m
            · obtain ⟨q, hq⟩ : ∃ q, m = q + 1 := ⟨m - 1, by omega⟩
              rw [hq] at hL
              have HLs := hid (And.intro hL (And.intro hq hlm))
              have e1 : decide ((0 : Int) < (m : Int)) = true := decide_eq_true (by omega)
              have e1' : decide (0 < m) = true := decide_eq_true hlt
              have hll : l2.length ≤ 262144 := by have := HNL.out; omega
              have hm9 : m ≤ 262144 := by have := HNL.out; omega
              clear hL hq hlm
              have HC := hid (rr_length w0 wr _ ⟨some ad2, n, c⟩ bs g 5 o2x h HS.out.under.under.under.under hn HB.out (okR_b hok) (by decide))
              have HK0 := hid (start_list codecI (m := 5) (by decide) (fun x hx => encI5_ge hx) hok)
              have HKO := hid (okR_l (m := 5) hok)
              have HKL := hid (lR_le (m := 5) hok)
              have HOK2 := hid hok
              clear h hok
              generalize (lR 5 o2x).map (·.2) = o3 at HC HK0 HKO
              generalize (lR 5 o2x).elim 0 (·.1) = nk at HC HK0 HKL
              go_wp2_with fail
              refine HC.out.mono ?_
              rintro e y2 ⟨rfl, h9⟩
              clear HC
              obtain ⟨XP, hX⟩ : ∃ X, X = o2x.bind (listD insD) := ⟨_, rfl⟩
              rw [← hX] at HK0
              have HXP := hid hX
              clear hX
              have hN := h9.nilRowS 57 5
              have hN : Hold w0 _ (rrA ⟨some ad2, n, c⟩ bs g o3 * (insA (.slice none 0 0) [] * (blkA 29 g7 #[.int .i64 c0, .int .i64 c1, .int .i64 c2, .int .i64 c3, .int .i64 c4, .int .i64 c5, .int .i64 c6, .int .i64 c7, .int .i64 c8, .int .i64 c9, .int .i64 c10, .int .i64 c11, .bool sb, .slice A1 l1.length k1, .slice A2v l2.length k2, .slice none 0 0] * (progA (.slice A2v l2.length k2) l2 * (uvA (.slice A1 l1.length k1) l1 * (blkA 29 gs z16 * R)))))) := hN.swap
              clear h9
              go_wp2_with fail
              go_loopw [10, 11] (fun t10 t8 wr => ∃ (m3 : Nat) (o3x : Option (List Nat)) (l3 : List (List Int)) (A3 : Option Addr) (k3 : Nat), t8 = .int .i64 (m3 : Int) ∧ t10 = .slice A3 l3.length k3 ∧ l3.length + m3 = nk ∧ LeftO insD XP m3 o3x l3 ∧ OkR 262144 o3x ∧ Hold w0 wr (rrA ⟨some ad2, n, c⟩ bs g o3x * (insA (.slice A3 l3.length k3) l3 * (blkA 29 g7 #[.int .i64 c0, .int .i64 c1, .int .i64 c2, .int .i64 c3, .int .i64 c4, .int .i64 c5, .int .i64 c6, .int .i64 c7, .int .i64 c8, .int .i64 c9, .int .i64 c10, .int .i64 c11, .bool sb, .slice A1 l1.length k1, .slice A2v l2.length k2, .slice none 0 0] * (progA (.slice A2v l2.length k2) l2 * (uvA (.slice A1 l1.length k1) l1 * (blkA 29 gs z16 * R))))))) (fun _ t8 _ => (intOf t8).toNat)
              case atStart => exact ⟨nk, o3, [], none, 0, rfl, rfl, by simp, HK0.out, HKO.out, hN⟩
              case round =>
                clear hN HK0 HKO
                obtain ⟨m3, o3x, l3, A3, k3, rfl, rfl, hlm3, hL3, hok3, h⟩ := hrel
                by_cases hlt3 : 0 < m3
                · obtain ⟨q3, hq3⟩ : ∃ q, m3 = q + 1 := ⟨m3 - 1, by omega⟩
                  rw [hq3] at hL3
                  have e3 : decide ((0 : Int) < (m3 : Int)) = true := decide_eq_true (by omega)
                  have e3' : decide (0 < m3) = true := decide_eq_true hlt3
                  have hll3 : l3.length ≤ 262144 := by have := HKL.out; omega
                  have hm93 : m3 ≤ 262144 := by have := HKL.out; omega
                  obtain ⟨F, hF⟩ : ∃ F, F = insA (.slice A3 l3.length k3) l3 * (blkA 29 g7 #[.int .i64 c0, .int .i64 c1, .int .i64 c2, .int .i64 c3, .int .i64 c4, .int .i64 c5, .int .i64 c6, .int .i64 c7, .int .i64 c8, .int .i64 c9, .int .i64 c10, .int .i64 c11, .bool sb, .slice A1 l1.length k1, .slice A2v l2.length k2, .slice none 0 0] * (progA (.slice A2v l2.length k2) l2 * (uvA (.slice A1 l1.length k1) l1 * (blkA 29 gs z16 * R)))) := ⟨_, rfl⟩
                  have HF := hid hF
                  have hSF : Still w0 F ⟨some ad2, n, c⟩ bs := by rw [hF]; exact HS.out.under.under.under.under.under
                  have HSF := hid hSF
                  rw [← hF] at h
                  have HLs3 := hid (And.intro hL3 (And.intro hq3 hlm3))
                  have HOK3 := hid hok3
                  clear hL3 hq3 hlm3 hF hSF hok3
                  have HC1 := hid (rr_signed w0 _ _ ⟨some ad2, n, c⟩ bs g o3x h HSF.out hn HB.out (okR_b HOK3.out))
                  have HR1 := hid (res_s o3x)
                  have HO1 := hid (okR_s HOK3.out)
                  generalize (sR o3x).map (·.2) = oa at HC1 HR1 HO1
                  generalize (sR o3x).elim 0 (·.1) = u1 at HC1 HR1
                  clear h
                  go_wp2_with fail
                  refine HC1.out.mono ?_
                  rintro e w10 ⟨rfl, hd1⟩
                  clear HC1
                  have he1 := (hd1.newBlk (t := 57) (cs := #[.int .i64 u1, .int .i64 0, .int .i64 0, .int .i64 0, .int .i64 0]))
                  have HE1 := hid he1.swap
                  clear hd1 he1
                  go_upto_region 29 with fail
                  have hc1 := HE1.out
                  generalize hW : World.alloc _ _ = V1 at hc1 ⊢
                  generalize w10.heap.size = gt at hc1 ⊢
                  clear hW HE1
                  have HC2 := hid (rr_signed w0 _ _ ⟨some ad2, n, c⟩ bs g oa hc1 HSF.out.under hn HB.out (okR_b HO1.out))
                  have HR2 := hid (res_s oa)
                  have HO2 := hid (okR_s HO1.out)
                  generalize (sR oa).map (·.2) = ob at HC2 HR2 HO2
                  generalize (sR oa).elim 0 (·.1) = u2 at HC2 HR2
                  clear hc1
                  go_wp2_with fail
                  refine HC2.out.mono ?_
                  rintro e w11 ⟨rfl, hd2⟩
                  clear HC2
                  have he2 := hd2.swap
                  have zz := he2.blk.frozen 1
                  have kk := he2.blk.some_ (i := 1) rfl
                  have HE2 := hid (he2.setBlk 1 (.int .i64 u2)).swap
                  clear hd2 he2
                  go_upto_region 30 with fail
                  have hc2 := HE2.out
                  generalize hW : World.setCell _ _ _ = V2 at hc2 ⊢
                  clear hW HE2 zz kk
                  have HC3 := hid (rr_signed w0 _ _ ⟨some ad2, n, c⟩ bs g ob hc2 HSF.out.under hn HB.out (okR_b HO2.out))
                  have HR3 := hid (res_s ob)
                  have HO3 := hid (okR_s HO2.out)
                  generalize (sR ob).map (·.2) = oc at HC3 HR3 HO3
                  generalize (sR ob).elim 0 (·.1) = u3 at HC3 HR3
                  clear hc2
                  go_wp2_with fail
                  refine HC3.out.mono ?_
                  rintro e w12 ⟨rfl, hd3⟩
                  clear HC3
                  have he3 := hd3.swap
                  have zz := he3.blk.frozen 2
                  have kk := he3.blk.some_ (i := 2) rfl
                  have HE3 := hid (he3.setBlk 2 (.int .i64 u3)).swap
                  clear hd3 he3
                  go_upto_region 31 with fail
                  have hc3 := HE3.out
                  generalize hW : World.setCell _ _ _ = V3 at hc3 ⊢
                  clear hW HE3 zz kk
                  have HC4 := hid (rr_signed w0 _ _ ⟨some ad2, n, c⟩ bs g oc hc3 HSF.out.under hn HB.out (okR_b HO3.out))
                  have HR4 := hid (res_s oc)
                  have HO4 := hid (okR_s HO3.out)
                  generalize (sR oc).map (·.2) = od at HC4 HR4 HO4
                  generalize (sR oc).elim 0 (·.1) = u4 at HC4 HR4
                  clear hc3
                  go_wp2_with fail
                  refine HC4.out.mono ?_
                  rintro e w13 ⟨rfl, hd4⟩
                  clear HC4
                  have he4 := hd4.swap
                  have zz := he4.blk.frozen 3
                  have kk := he4.blk.some_ (i := 3) rfl
                  have HE4 := hid (he4.setBlk 3 (.int .i64 u4)).swap
                  clear hd4 he4
                  go_upto_region 32 with fail
                  have hc4 := HE4.out
                  generalize hW : World.setCell _ _ _ = V4 at hc4 ⊢
                  clear hW HE4 zz kk
                  have HC5 := hid (rr_signed w0 _ _ ⟨some ad2, n, c⟩ bs g od hc4 HSF.out.under hn HB.out (okR_b HO4.out))
                  have HR5 := hid (res_s od)
                  have HO5 := hid (okR_s HO4.out)
                  generalize (sR od).map (·.2) = oe at HC5 HR5 HO5
                  generalize (sR od).elim 0 (·.1) = u5 at HC5 HR5
                  clear hc4
                  go_wp2_with fail
                  refine HC5.out.mono ?_
                  rintro e w14 ⟨rfl, hd5⟩
                  clear HC5
                  have he5 := hd5.swap
                  have zz := he5.blk.frozen 4
                  have kk := he5.blk.some_ (i := 4) rfl
                  have he6 : Hold w0 (w14.setCell ⟨gt, 4, none⟩ (.int .i64 u5)) (blkA 57 gt #[.int .i64 u1, .int .i64 u2, .int .i64 u3, .int .i64 u4, .int .i64 u5] * (rrA ⟨some ad2, n, c⟩ bs g oe * F)) := he5.setBlk 4 (.int .i64 u5)
                  have HE5 := hid he6
                  clear hd5 he5 he6
                  go_upto_region 33 with fail
                  have hc5 := HE5.out
                  generalize hW : World.setCell _ _ _ = V5 at hc5 ⊢
                  clear hW HE5 zz kk
                  have HBLK := hid hc5
                  clear hc5
                  have h6 := HBLK.out
                  obtain ⟨⟨y0, yy1, yy2, yy3, yy4⟩, _⟩ := blk_five h6.blk
                  rw [HF.out] at h6
                  have h7 : Hold w0 V5 (insA (.slice A3 l3.length k3) l3 * (rrA ⟨some ad2, n, c⟩ bs g oe * (blkA 29 g7 #[.int .i64 c0, .int .i64 c1, .int .i64 c2, .int .i64 c3, .int .i64 c4, .int .i64 c5, .int .i64 c6, .int .i64 c7, .int .i64 c8, .int .i64 c9, .int .i64 c10, .int .i64 c11, .bool sb, .slice A1 l1.length k1, .slice A2v l2.length k2, .slice none 0 0] * (progA (.slice A2v l2.length k2) l2 * (uvA (.slice A1 l1.length k1) l1 * (blkA 29 gs z16 * R)))))) := h6.pk3 [2, 1]
                  have hr5 := res_five HR1.out HR2.out HR3.out HR4.out HR5.out
                  have HST := hid (HLs3.out.1.step hr5)
                  have HOK4 := hid (HOK3.out.res codecI hr5)
                  clear h6 hr5
                  go_wp2_with (at_builtin; refine wpList_app rfl _ _ 54 rfl 57 iins (.agg #[.int .i64 0, .int .i64 0, .int .i64 0, .int .i64 0, .int .i64 0]) 5 40 Try.underlying54 hiins hz0ins hz1ins hz2ins rfl (by decide) (.slice A3 l3.length k3) l3.length _ [.int .i64 u1, .int .i64 u2, .int .i64 u3, .int .i64 u4, .int .i64 u5] _ rfl h7 _ rfl rfl rfl rfl (by omega) (by decide) ?_)
                  intro A4 k4 y9 h8
                  have h9 : Hold w0 y9 (rrA ⟨some ad2, n, c⟩ bs g oe * (insA (.slice A4 (l3 ++ [[u1, u2, u3, u4, u5]]).length k4) (l3 ++ [[u1, u2, u3, u4, u5]]) * (blkA 29 g7 #[.int .i64 c0, .int .i64 c1, .int .i64 c2, .int .i64 c3, .int .i64 c4, .int .i64 c5, .int .i64 c6, .int .i64 c7, .int .i64 c8, .int .i64 c9, .int .i64 c10, .int .i64 c11, .bool sb, .slice A1 l1.length k1, .slice A2v l2.length k2, .slice none 0 0] * (progA (.slice A2v l2.length k2) l2 * (uvA (.slice A1 l1.length k1) l1 * (blkA 29 gs z16 * R)))))) := by
                    have h10 := h8.swap
                    unfold insA
                    rw [show (l3 ++ [[u1, u2, u3, u4, u5]]).length = l3.length + 1 by simp, show (l3 ++ [[u1, u2, u3, u4, u5]]).flatten.map (Value.int .i64) = l3.flatten.map (Value.int .i64) ++ [.int .i64 u1, .int .i64 u2, .int .i64 u3, .int .i64 u4, .int .i64 u5] by simp]
                    first | exact h10 | (rw [List.map_flatten]; exact h10)
                  have H9 := hid h9
                  clear h7 h8 h9 y0 yy1 yy2 yy3 yy4
                  go_wp2_with fail
                  go_roundw
                  case rel => exact ⟨q3, oe, l3 ++ [[u1, u2, u3, u4, u5]], A4, k4, by rw [HLs3.out.2.1]; go_num, by rw [List.length_append]; rfl, by have := HLs3.out.2.1; have := HLs3.out.2.2; rw [List.length_append, List.length_singleton]; omega, HST.out, HOK4.out, H9.out⟩
                  case measure => have := HLs3.out.2.1; simp [intOf]; omega
                · obtain rfl : m3 = 0 := by omega
                  have hRP : Res (listD insD) o2x o3x l3 := res_list (by rw [← HXP.out]; exact hL3.done)
                  have hl3 : l3.length ≤ 262144 := by have := HKL.out; omega
                  have HST := hid (HLs.out.1.step hRP)
                  have HO := hid (HOK2.out.res codecLI hRP)
                  clear hL3 hlm3 hlt3 HKL HXP hRP hok3
                  have k14 := h.drop.drop.blk.some_ (i := 14) rfl
                  obtain ⟨vs, hv⟩ := progOpen ((h.pk4 [3, 0, 1, 2]))
                  have hv : Hold w0 wr (rowS 54 1 (.slice A2v l2.length k2) l2.length vs * (insRows vs l2 * (rrA ⟨some ad2, n, c⟩ bs g o3x * (insA (.slice A3 l3.length k3) l3 * (blkA 29 g7 #[.int .i64 c0, .int .i64 c1, .int .i64 c2, .int .i64 c3, .int .i64 c4, .int .i64 c5, .int .i64 c6, .int .i64 c7, .int .i64 c8, .int .i64 c9, .int .i64 c10, .int .i64 c11, .bool sb, .slice A1 l1.length k1, .slice A2v l2.length k2, .slice none 0 0] * (uvA (.slice A1 l1.length k1) l1 * (blkA 29 gs z16 * R))))))) := hv
                  clear h
                  go_wp2_with (at_builtin; refine wpList_app rfl _ _ 26 rfl 54 isl (.slice none 0 0) 1 24 Try.underlying26 hisl hz0sl hz1sl hz2sl rfl (by decide) (.slice A2v l2.length k2) l2.length vs [.slice A3 l3.length k3] _ rfl hv _ rfl rfl rfl rfl (by omega) (by decide) ?_)
                  intro A4 k4 y9 h5
                  have h6 : Hold w0 y9 (progA (.slice A4 (l2.length + 1) k4) (l2 ++ [l3]) * (rrA ⟨some ad2, n, c⟩ bs g o3x * (blkA 29 g7 #[.int .i64 c0, .int .i64 c1, .int .i64 c2, .int .i64 c3, .int .i64 c4, .int .i64 c5, .int .i64 c6, .int .i64 c7, .int .i64 c8, .int .i64 c9, .int .i64 c10, .int .i64 c11, .bool sb, .slice A1 l1.length k1, .slice A2v l2.length k2, .slice none 0 0] * (uvA (.slice A1 l1.length k1) l1 * (blkA 29 gs z16 * R))))) := progClose (by
                    rw [show (l2 ++ [l3]).length = l2.length + 1 by simp]
                    exact (h5.pk4 [0, 3, 1, 2]).imp (Imp.under _ ((Imp.assoc' _ _ _).trans (Imp.on _ (insRows_snoc _ _ _ _)))))
                  have h7 := h6.pk3 [2, 1, 0]
                  have z14 := h7.blk.frozen 14
                  have k14 := h7.blk.some_ (i := 14) rfl
                  have h8 := h7.setBlk 14 (.slice A4 (l2.length + 1) k4)
                  have H9 := hid (h8.pk3 [1, 0, 2])
                  clear hv h5 h6 h7 h8
                  go_wp2_with fail
                  have h9 := H9.out
                  generalize hW : World.setCell _ _ _ = W9 at h9 ⊢
                  clear hW H9 z14 k14
                  have HFIN : Hid (Hold w0 W9 (rrA ⟨some ad2, n, c⟩ bs g o3x * (blkA 29 g7 #[.int .i64 c0, .int .i64 c1, .int .i64 c2, .int .i64 c3, .int .i64 c4, .int .i64 c5, .int .i64 c6, .int .i64 c7, .int .i64 c8, .int .i64 c9, .int .i64 c10, .int .i64 c11, .bool sb, .slice A1 l1.length k1, .slice A4 (l2 ++ [l3]).length k4, .slice none 0 0] * (progA (.slice A4 (l2 ++ [l3]).length k4) (l2 ++ [l3]) * (uvA (.slice A1 l1.length k1) l1 * (blkA 29 gs z16 * R)))))) := hid (by
                    rw [show (l2 ++ [l3]).length = l2.length + 1 by simp]
                    exact h9)
                  clear h9
                  go_round
                  case rel => exact ⟨q, o3x, l2 ++ [l3], A4, k4, by rw [HLs.out.2.1]; go_num, by have := HLs.out.2.1; have := HLs.out.2.2; rw [List.length_append, List.length_singleton]; omega, HST.out, HO.out, HFIN.out⟩
                  case measure => have := HLs.out.2.1; simp [intOf]; omega
            · obtain rfl : m = 0 := by omega
              have HR2p : Hid (Res (listD (listD insD)) o1x o2x l2) := hid (res_list (by rw [← HX14.out]; exact hL.done))
              have hl2 : l2.length ≤ 262144 := by have := HNL.out; omega
              clear hL hlm hlt HNL HX14
              go_wp2_with fail
              refine (rr_length w0 _ _ ⟨some ad2, n, c⟩ bs g 1 o2x h HS.out.under.under.under.under hn HB.out (okR_b hok) (by decide)).mono ?_
              rintro e y1 ⟨rfl, h9⟩
              have HL0 := hid (start_list codecS (m := 1) (by decide) (fun x _ => encU_pos _) hok)
              have HOK := hid (okR_l (m := 1) hok)
              have HNL := hid (lR_le (m := 1) hok)
              generalize (lR 1 o2x).map (·.2) = o2 at h9 HL0 HOK
              generalize (lR 1 o2x).elim 0 (·.1) = nl at HL0 HNL ⊢
              clear h hok
              obtain ⟨X15, hX⟩ : ∃ X, X = o2x.bind (listD decS) := ⟨_, rfl⟩
              rw [← hX] at HL0
              have HX15 := hid hX
              clear hX
              have hN := (h9.nilRowS 3 1)
              have hN : Hold w0 _ (rrA ⟨some ad2, n, c⟩ bs g o2 * (blkA 29 g7 #[.int .i64 c0, .int .i64 c1, .int .i64 c2, .int .i64 c3, .int .i64 c4, .int .i64 c5, .int .i64 c6, .int .i64 c7, .int .i64 c8, .int .i64 c9, .int .i64 c10, .int .i64 c11, .bool sb, .slice A1 l1.length k1, .slice A2v l2.length k2, .slice none 0 0] * (ivA (.slice none 0 0) [] * (progA (.slice A2v l2.length k2) l2 * (uvA (.slice A1 l1.length k1) l1 * (blkA 29 gs z16 * R)))))) := hN.pk3 [1, 2, 0]
              clear h9
              go_wp2_with fail
              go_loopw [13] (fun t8 wr => ∃ (m : Nat) (o3x : Option (List Nat)) (l3 : List Int) (A3 : Option Addr) (k3 : Nat), t8 = .int .i64 (m : Int) ∧ l3.length + m = nl ∧ LeftO decS X15 m o3x l3 ∧ OkR 262144 o3x ∧ Hold w0 wr (rrA ⟨some ad2, n, c⟩ bs g o3x * (blkA 29 g7 #[.int .i64 c0, .int .i64 c1, .int .i64 c2, .int .i64 c3, .int .i64 c4, .int .i64 c5, .int .i64 c6, .int .i64 c7, .int .i64 c8, .int .i64 c9, .int .i64 c10, .int .i64 c11, .bool sb, .slice A1 l1.length k1, .slice A2v l2.length k2, .slice A3 l3.length k3] * (ivA (.slice A3 l3.length k3) l3 * (progA (.slice A2v l2.length k2) l2 * (uvA (.slice A1 l1.length k1) l1 * (blkA 29 gs z16 * R))))))) (fun t8 _ => (intOf t8).toNat)
              case atStart => exact ⟨nl, o2, [], none, 0, rfl, by simp, HL0.out, HOK.out, hN⟩
              case round =>
                clear hN HL0 HOK
                obtain ⟨m, o3x, l3, A3, k3, rfl, hlm, hL, hok, h⟩ := hrel
                by_cases hlt : 0 < m
                · obtain ⟨q, hq⟩ : ∃ q, m = q + 1 := ⟨m - 1, by omega⟩
                  rw [hq] at hL
                  have HLs := hid (And.intro (hL.step (res_s o3x)) (And.intro hq hlm))
                  have HO := hid (okR_s hok)
                  have e1 : decide ((0 : Int) < (m : Int)) = true := decide_eq_true (by omega)
                  have e1' : decide (0 < m) = true := decide_eq_true hlt
                  have h0 := h.drew
                  have HC := hid (rr_signed w0 _ _ ⟨some ad2, n, c⟩ bs g o3x h0 HS.out.under.under.under.under.under hn HB.out (okR_b hok))
                  have hll : l3.length ≤ 262144 := by have := HNL.out; omega
                  have hm9 : m ≤ 262144 := by have := HNL.out; omega
                  clear hL hq hlm hok h
                  generalize (sR o3x).map (·.2) = o3 at HLs HO HC
                  generalize (sR o3x).elim 0 (·.1) = v at HLs HC
                  go_upto_region 38 with fail
                  refine wp_region_brk [7] (by kernel_rfl) ?_
                  refine wpAnyB_now (fun w' => w'.cell? ⟨g7, 15, none⟩ = some (.slice A3 l3.length k3)) (fun _ _ => trivial) _ _ _ _ ?_
                  refine' wpAnyB_bulk [true, true, true] 179 (listed' := #[true, true, true, false, false, false, false, false]) rfl (by kernel_rfl) (by kernel_rfl) (by kernel_rfl) (by kernel_rfl) (by kernel_rfl) (by kernel_rfl) (by decide) (fun _ _ _ _ h => h) rfl (h0.drop.blk.some_ (i := 15) rfl) (fun wq hq => ?_) ?_; rotate_left 1
                  · simp only [maskL]
                    repeat (go_big_quiet_step (fail))
                    exact wpQuiet_nil rfl
                  refine wpAnyB_bar [false, false, false, true] (fuel := 4) (by rfl) (by rfl) (by kernel_rfl) (fun QB hQB hQX => ?_)
                  simp only [maskL]
                  go_wp2_with fail
                  refine HC.out.mono ?_
                  rintro e y3 ⟨rfl, h3⟩
                  clear h0 HC
                  go_wp2_with fail
                  refine hQB.out _ _ (h3.drop.blk.some_ (i := 15) rfl) ?_
                  clear hQB hQX QB
                  have h4 := h3.pk3 [2, 0, 1]
                  refine wpAnyB_bar [false, false, false, false, true] (fuel := 3) (by rfl) (by rfl) (by kernel_rfl) (fun QB hQB hQX => ?_)
                  simp only [maskL]
                  go_wp2_with fail
                  refine hQB.out _ _ ((h3.alloc _).drop.blk.some_ (i := 15) rfl) ?_
                  clear hQB hQX QB
                  refine wpAnyB_bar [false, false, false, false, false, true] (fuel := 2) (by rfl) (by rfl) (by kernel_rfl) (fun QB hQB hQX => ?_)
                  simp only [maskL]
                  go_wp2_with (at_builtin; refine wpList_app rfl _ _ 27 rfl 3 iint (.int .i64 0) 1 8 Try.underlying27 hiint hz0int hz1int hz2int rfl (by decide) (.slice A3 l3.length k3) l3.length _ [.int .i64 v] _ rfl h4 _ rfl rfl rfl rfl (by omega) (by decide) ?_)
                  intro A2 c2' y5 h5
                  go_wp2_with fail
                  refine hQB.out _ _ (h5.drop.drop.blk.some_ (i := 15) rfl) ?_
                  clear hQB hQX QB h3 h4
                  refine' wpAnyB_bulk [false, false, false, false, false, false, true] 179 (listed' := #[true, true, true, true, true, true, true, false]) rfl (by kernel_rfl) (by kernel_rfl) (by kernel_rfl) (by kernel_rfl) (by kernel_rfl) (by kernel_rfl) (by decide) (fun _ _ _ _ h => h) rfl (h5.drop.drop.blk.some_ (i := 15) rfl) (fun wq hq => ?_) ?_; rotate_left 1
                  · simp only [maskL]
                    repeat (go_big_quiet_step (fail))
                    exact wpQuiet_nil rfl
                  refine wpAnyB_brk [false, false, false, false, false, false, false, true] (fuel := 0) (by rfl) (by rfl) (by kernel_rfl) (by kernel_rfl) (fun QB hQB hQX => ?_)
                  simp only [maskL]
                  have p2 := h5.drop.drop.blk.some_ (i := 15) rfl
                  have z2 := h5.drop.drop.blk.frozen 15
                  have H6 := hid (((h5.pk3 [2, 1, 0])).setBlk 15 (.slice A2 (l3.length + 1) c2'))
                  clear h5
                  go_wp2_with fail
                  refine hQB.out _ _ ?_
                  refine wpAnyB_forget (by kernel_rfl) ?_
                  refine wpAnyB_done (by kernel_rfl) ?_ _
                  have h6 := H6.out
                  generalize hW : World.setCell _ _ _ = W7 at h6 ⊢
                  clear hW H6
                  have HFIN : Hold w0 W7 (rrA ⟨some ad2, n, c⟩ bs g o3 * (blkA 29 g7 #[.int .i64 c0, .int .i64 c1, .int .i64 c2, .int .i64 c3, .int .i64 c4, .int .i64 c5, .int .i64 c6, .int .i64 c7, .int .i64 c8, .int .i64 c9, .int .i64 c10, .int .i64 c11, .bool sb, .slice A1 l1.length k1, .slice A2v l2.length k2, .slice A2 (l3 ++ [v]).length c2'] * (ivA (.slice A2 (l3 ++ [v]).length c2') (l3 ++ [v]) * (progA (.slice A2v l2.length k2) l2 * (uvA (.slice A1 l1.length k1) l1 * (blkA 29 gs z16 * R)))))) := by
                    have h7 := h6.pk3 [1, 0, 2]
                    unfold ivA
                    rw [show (l3 ++ [v]).length = l3.length + 1 by simp, show (l3 ++ [v]).map (Value.int .i64) = l3.map (Value.int .i64) ++ [.int .i64 v] by simp]
                    exact h7
                  have HFIN := hid HFIN
                  clear h6
                  go_wp2_with fail
                  go_round
                  case rel => exact ⟨q, o3, l3 ++ [v], A2, c2', by rw [HLs.out.2.1]; go_num, by have := HLs.out.2.1; have := HLs.out.2.2; rw [List.length_append, List.length_singleton]; omega, HLs.out.1, HO.out, HFIN.out⟩
                  case measure => have := HLs.out.2.1; simp [intOf]; omega
                · obtain rfl : m = 0 := by omega
                  have HR3 : Hid (Res (listD decS) o2x o3x l3) := hid (res_list (by rw [← HX15.out]; exact hL.done))
                  have hl3 : l3.length ≤ 262144 := by have := HNL.out; omega
                  clear hL hlm hlt HNL HX15
                  have hD := scrD_done HCF.out HR1.out HR2p.out HR3.out
                  iterate 19 (first | go_step | go_values)
                  exact rdec_tail hD HD0.out HD1.out HL.out hn hl1 hl2 hl3 h
end Go.Proofs.Ytipafegiobnkpaa
