/- strongtxlaw14: ReaderSnapshot. -/
import Derived.Test.YtddghhddafeojaaRd3
import Derived.Test.YtddghhddafeojaaArg4
namespace Go.Proofs.Ytddghhddafeojaa
open Go.RowKit
set_option linter.unusedVariables false

/-- The orec's word after k writes of the writer. -/
def sW (k : Int) : Int := if k % 3 = 0 then k / 3 * 64 else k / 3 * 64 + 2
theorem sW_bd {k : Int} (h : 0 ≤ k ∧ k ≤ 40) : 0 ≤ sW k ∧ sW k ≤ 1000 := by unfold sW; split <;> omega
theorem sW_ok {k : Int} (h : 0 ≤ k) (hs : sW k % 64 = 0 ∧ sW k / 64 ≤ 0) : sW k = 0 := by unfold sW at hs ⊢; split at hs <;> split <;> omega
theorem sW_zero {k : Int} (h : 0 ≤ k) (hs : sW k = 0) : k = 0 := by unfold sW at hs; split at hs <;> omega
theorem sW_0 {k : Int} (h : k % 3 = 0) : k / 3 * 64 + 1 + 1 = sW (k + 1) := by unfold sW; rw [if_neg (by omega)]; omega
theorem sW_1 {k : Int} (h : k % 3 = 1) : sW k = sW (k + 1) := by unfold sW; rw [if_neg (by omega), if_neg (by omega)]; omega
theorem sW_2 {k : Int} (h : k % 3 = 2) : (k / 3 + 1) * 64 = sW (k + 1) := by unfold sW; rw [if_pos (by omega)]; omega
/-- The cells after k writes. -/
structure SNc (was a o : Int) (C : Nat → List Int) (k : Int) : Prop where
  ok : COk C
  h1 : hasC C 1 a
  h2 : hasC C 2 o
  v2 : valC C 2 o = sW k
  v1 : k ≤ 1 → valC C 1 a = was
  kb : 0 ≤ k ∧ k ≤ 40
structure SNr (was k at' bf vl : Int) (cf : Bool) : Prop where
  ab : 0 ≤ at' ∧ at' ≤ 3
  b0 : at' = 1 ∨ at' = 2 → bf = 0
  w2 : at' = 2 → k = 0 → vl = was
  w3 : at' = 3 → cf = false → vl = was
theorem SNr.mono {was k at' bf vl : Int} {cf : Bool} (h : SNr was k at' bf vl cf) (hk : 0 ≤ k) : SNr was (k + 1) at' bf vl cf := ⟨h.ab, h.b0, fun _ h0 => by omega, h.w3⟩
theorem SNc.orec {was a o : Int} {C : Nat → List Int} {k v : Int} (h : SNc was a o C k) (hk : k + 1 ≤ 40) (hv : v = sW (k + 1)) (hm : k = 1 → False) : SNc was a o (opC C 2 o v true) (k + 1) :=
  ⟨h.ok.opC _ _ _ _, hasC_opC h.h1, hasC_opC h.h2, (valC_op_same h.h2).trans hv, fun h1 => (valC_op_ne (by decide)).trans (h.v1 (by omega)), by have := h.kb; omega⟩
theorem SNc.data {was a o : Int} {C : Nat → List Int} {k v : Int} (h : SNc was a o C k) (hk : k + 1 ≤ 40) (hm : k % 3 = 1) : SNc was a o (opC C 1 a v true) (k + 1) :=
  ⟨h.ok.opC _ _ _ _, hasC_opC h.h1, hasC_opC h.h2, (valC_op_ne (by decide)).trans (h.v2.trans (sW_1 hm)), fun h1 => by have := h.kb; omega, by have := h.kb; omega⟩
theorem sn_step (w0 w : World) (R : Asr) (g m : Nat) (C : Nat → List Int) (was a o at' bf vl k : Int) (cf : Bool) (h : Hold w0 w (rdA g a o 0 at' bf vl cf * (memA m C * R))) (hc : SNc was a o C k) (hr : SNr was k at' bf vl cf) (hx : a ≤ 9223372036854775807) (ho : o ≤ 9223372036854775807) :
    Calls Try.prog 43 #[.pointer (some ⟨g, 0, none⟩), .pointer (some ⟨m, 0, none⟩)] w (fun e w' => ∃ (ac : Acc) (at2 bf2 vl2 : Int) (cf2 : Bool), e = .returned ac.val ∧ Hold w0 w' (rdA g a o 0 at2 bf2 vl2 cf2 * (memA m C * R)) ∧ SNr was k at2 bf2 vl2 cf2) := by
  have ho2 : opA C 1 2 o (valC C 2 o) true = ⟨1, 2, o, sW k, sW k, true⟩ := by rw [(op_yes hc.h2 1 _).1, hc.v2]
  have ho1 := (op_yes hc.h1 1 (valC C 1 a)).1
  have b1 := hc.h1.1
  have b2 := hc.h2.1
  have kb := hc.kb
  have sb := sW_bd kb
  have ab := hr.ab
  rcases (show at' = 0 ∨ at' = 1 ∨ at' = 2 ∨ at' = 3 by omega) with rfl | rfl | rfl | rfl
  · by_cases hb : sW k % 64 = 0 ∧ sW k / 64 ≤ 0
    · exact (rd_step0_ok w0 w R g m C a o 0 bf vl cf _ h hc.ok ⟨by omega, ho⟩ ho2 (by show 0 ≤ sW k ∧ sW k < 18446744073709551616; omega) hb).mono fun e w' ⟨he, h'⟩ => ⟨_, _, _, _, _, he, h', ⟨by omega, fun _ => sW_ok kb.1 hb, fun h0 => by omega, fun h0 => by omega⟩⟩
    · exact (rd_step0_bad w0 w R g m C a o 0 bf vl cf _ h hc.ok ⟨by omega, ho⟩ ho2 (by show 0 ≤ sW k ∧ sW k < 18446744073709551616; omega) (by show sW k % 64 ≠ 0 ∨ 0 < sW k / 64; omega)).mono fun e w' ⟨he, h'⟩ => ⟨_, _, _, _, _, he, h', ⟨by omega, fun h0 => by omega, fun h0 => by omega, fun _ h0 => by cases h0⟩⟩
  · exact (rd_step1 w0 w R g m C a o 0 bf vl cf _ h hc.ok ⟨by omega, hx⟩ ho1).mono fun e w' ⟨he, h'⟩ => ⟨_, _, _, _, _, he, h', ⟨by omega, fun _ => hr.b0 (Or.inl rfl), fun _ h0 => hc.v1 (by omega), fun h0 => by omega⟩⟩
  · refine (rd_step2 w0 w R g m C a o 0 bf vl cf _ h hc.ok ⟨by omega, ho⟩ ho2).mono fun e w' ⟨he, h'⟩ => ⟨_, _, _, _, _, he, h', ⟨by omega, fun h0 => by omega, fun h0 => by omega, fun _ h0 => ?_⟩⟩
    have hbf := hr.b0 (Or.inr rfl)
    have h1 : sW k = bf := by simpa using h0
    exact hr.w2 rfl (sW_zero kb.1 (h1.trans hbf))
  · exact (rd_step3 w0 w (memA m C * R) g _ a o 0 bf vl cf h).mono fun e w' ⟨he, h'⟩ => ⟨_, _, _, _, _, he, h', hr⟩
section
variable {w0 w : World} {R : Asr} {r : Nat} {c : Cfg} {C : Nat → List Int} {x : Lay}
theorem Hold.refData (h : Hold w0 w (refF r c C x R)) {i : Nat} (hi : i < (C 1).length) : ∃ gr, w.cell? ⟨gr, i, none⟩ = some (.int .u64 (valC C 1 i)) ∧ w.cell? ⟨r, 13, none⟩ = some (.slice (some ⟨gr, 0, none⟩) (C 1).length (x.c 1)) := by
  obtain ⟨_, hR, _⟩ := h.refRow1
  obtain ⟨gr, hA, hc, _⟩ := set_at (zs := C 1) (k := .u64) (A := x.A 1) (cp := x.c 1) (n := (C 1).length) (e := 43) hR (i := i) hi
  refine ⟨gr, ?_, ?_⟩
  · rw [hc]
    unfold valC
    rw [show getC C 1 = C 1 from getC_at (k := 1) (by decide) (by decide)]
    rfl
  · have := h.blk.some_ (i := 13) (u := slV C x 1) rfl
    unfold slV at this
    rw [hA] at this
    exact this
end
set_option maxRecDepth 8000 in
set_option maxHeartbeats 8000000 in
theorem readerSnapshot_any (l0 l1 l2' l3 l4 : Int) (a1 : Int) (A2 A3 : Option Addr) (n2 c2 b2 n3 c3 : Nat) (x2 : List Int) (w : World) (hA2 : Reads w b2 A2 n2 (x2.map (Value.int .u64))) (l2 : n2 ≤ 9223372036854775807) (hA3 : IsStructs [.bool] w A3 n3 c3) :
    Calls Try.prog 10 #[.agg #[.int .i64 l0, .int .i64 l1, .int .i64 l2', .int .i64 l3, .int .i64 l4], .int .i64 a1, .slice A2 n2 c2, .slice A3 n3 c3] w (fun e w' => e = .returned (.bool true) ∧ Below w.heap.size w w') := by
  have H2' := hid hA2
  have H3 := hid hA3
  clear hA2 hA3
  obtain ⟨c, hc⟩ : ∃ c, c = mkCfg l0 l1 l2' l3 l4 := ⟨_, rfl⟩
  have hok : cfgErr c = 0 := by rw [hc]; exact mkCfg_ok _ _ _ _ _
  have hcb : (4 ≤ c.words ∧ c.words ≤ 12) ∧ (1 ≤ c.orecs ∧ c.orecs ≤ 8) := by
    rw [hc]
    have := (mk_bd l0 l1 l2' l3 l4).1
    have := place_nonneg l1 8 (by omega); have := place_lt l1 8 (by omega)
    exact ⟨(mk_bd l0 l1 l2' l3 l4).1, by show 1 ≤ 1 + place l1 8; omega, by show 1 + place l1 8 ≤ 8; omega⟩
  have HF : Hid (∀ w, Calls Try.prog 61 #[.int .i64 l0, .int .i64 l1, .int .i64 l2', .int .i64 l3, .int .i64 l4] w (fun e w' => e = .returned c.val ∧ Chg [] w w')) := hid fun w => by rw [hc]; exact config_any w l0 l1 l2' l3 l4
  have HO := hid (new_ok4 hok)
  have HC := hid hok
  have h0 := hid ((Hold.start w).alloc (.cells #[.int .i64 l0, .int .i64 l1, .int .i64 l2', .int .i64 l3, .int .i64 l4] 57))
  clear hok hc
  go_enter Try.func10, Try.ntmps10
  go_wp2_with fail
  refine (lab_small w _ _ c l0 l1 l2' l3 l4 HF.out HC.out h0.out).mono ?_
  rintro e v1 ⟨m, r, rfl, h1⟩
  obtain ⟨C0, hC0⟩ : ∃ C0, C0 = newC c 4 (initL c.words.toNat) := ⟨_, rfl⟩
  have hk0 : COk C0 := by rw [hC0]; exact HO.out
  have hg1 : ∀ k : Int, 0 ≤ k → k < c.words → hasC C0 1 k := fun k k0 k1 => by
    obtain ⟨n, rfl⟩ : ∃ n : Nat, k = n := ⟨k.toNat, by omega⟩
    rw [hC0]
    refine has_new (j := 1) (k := n) (by decide) (by decide) ?_
    show n < (initL c.words.toNat ++ zerosN (nbl c)).length
    rw [List.length_append, initL_len]; omega
  have hg2 : ∀ k : Int, 0 ≤ k → k < c.orecs → hasC C0 2 k := fun k k0 k1 => by
    obtain ⟨n, rfl⟩ : ∃ n : Nat, k = n := ⟨k.toNat, by omega⟩
    rw [hC0]
    refine has_new (j := 2) (k := n) (by decide) (by decide) ?_
    show n < (zerosN c.orecs.toNat).length
    simp [zerosN]; omega
  have HG : Hid (∀ k, valC C0 2 k = 0) := hid fun k => by
    rw [hC0]
    unfold valC
    rw [show getC (newC c 4 (initL c.words.toNat)) 2 = zerosN c.orecs.toNat from getC_at (C := newC c 4 (initL c.words.toNat)) (k := 2) (by decide) (by decide)]
    simp only [zerosN, List.getD, List.getElem?_replicate]
    split <;> rfl
  rw [← hC0] at h1
  have h2 := h1.newBlk (t := 27) (cs := #[.pointer (some ⟨m, 0, none⟩), .pointer (some ⟨r, 0, none⟩)])
  have H4 := hid h2
  have HK0 := hid (And.intro hk0 (And.intro hg1 hg2))
  clear h0 h1 h2 hC0 hk0 hg1 hg2 HO
  by_cases hp : 40 < n3
  · have ep : decide ((40 : Int) < (n3 : Int)) = true := decide_eq_true (by omega)
    go_wp2_with fail
    have h2 := H4.out
    generalize hW : World.alloc _ _ = W2 at h2 ⊢
    clear hW H4
    refine (awake14_any w _ _ h2).mono ?_
    rintro e v3 ⟨rfl, h11⟩
    have H11 := hid h11.below
    clear h2 h11
    go_wp2_with fail
    go_ret
    exact ⟨rfl, H11.out⟩
  have ep : decide ((40 : Int) < (n3 : Int)) = false := decide_eq_false (by omega)
  go_upto_region 4 with fail
  have h2 := H4.out
  generalize hW : World.alloc _ _ = W2 at h2 ⊢
  generalize v1.heap.size = gp at h2 ⊢
  clear hW H4
  have p1 := h2.blk.some_ (i := 1) rfl
  obtain ⟨x, h3⟩ := (h2.pk3 [2, 0, 1]).refOpen
  have d0 := h3.blk.some_ (i := 0) rfl
  have d1 := h3.blk.some_ (i := 1) rfl
  have d2 := h3.blk.some_ (i := 2) rfl
  have d3 := h3.blk.some_ (i := 3) rfl
  have d4 := h3.blk.some_ (i := 4) rfl
  have d5 := h3.blk.some_ (i := 5) rfl
  have d6 := h3.blk.some_ (i := 6) rfl
  have d7 := h3.blk.some_ (i := 7) rfl
  have d8 := h3.blk.some_ (i := 8) rfl
  have d9 := h3.blk.some_ (i := 9) rfl
  have d10 := h3.blk.some_ (i := 10) rfl
  have d11 := h3.blk.some_ (i := 11) rfl
  have d12 := h3.blk.some_ (i := 12) rfl
  go_upto_region 5 with fail
  have h4 := h3.newBlk (t := 32) (cs := c.cells)
  have h5 : Hold w (World.alloc W2 (.cells c.cells 32)) (blkA 32 W2.heap.size c.cells * (refA r c C0 * (prA gp m r * (memA m C0 * Asr.emp)))) := h4.refShut2
  replace h5 := h5.pk4 [2, 0, 3, 1]
  have H5 := hid h5
  clear h2 h3 h4 h5 d0 d1 d2 d3 d4 d5 d6 d7 d8 d9 d10 d11 d12 p1
  have h5 := H5.out
  generalize hW : World.alloc _ _ = W5 at h5 ⊢
  generalize W2.heap.size = gc at h5 ⊢
  clear hW H5
  replace h5 : Hold w W5 (prA gp m r * (blkA 32 gc c.cells * (memA m C0 * (refA r c C0 * Asr.emp)))) := h5
  clear ep
  obtain ⟨an, ha⟩ : ∃ an : Nat, (an : Int) = place a1 c.words := ⟨(place a1 c.words).toNat, by have := place_nonneg a1 c.words (by omega); omega⟩
  have a1' : (an : Int) < c.words := by rw [ha]; exact place_lt a1 _ (by omega)
  obtain ⟨o, ho⟩ : ∃ o, o = (an : Int) % c.orecs := ⟨_, rfl⟩
  have o0 : 0 ≤ o := by rw [ho]; exact Int.emod_nonneg _ (by omega)
  have o1 : o < c.orecs := by rw [ho]; exact Int.emod_lt_of_pos _ (by omega)
  have HA := hid (And.intro ha ho)
  clear ha ho
  have d0 := h5.drop.blk.some_ (i := 0) rfl
  have d1 := h5.drop.blk.some_ (i := 1) rfl
  go_wp2_with fail
  refine (place_any _ _ _ (by omega) (by omega)).mono ?_
  rintro e w' ⟨rfl, rfl⟩
  rw [← HA.out.1]
  have ne0 : c.orecs ≠ 0 := by omega
  have an0 : (0 : Int) ≤ (an : Int) := by omega
  go_wp2_with fail
  rw [← HA.out.2]
  refine (rd_new w _ _ an o 0 h5).mono ?_
  rintro e w7 ⟨g, rfl, h6⟩
  clear d0 d1 h5
  have p1 := h6.drop.blk.some_ (i := 1) rfl
  have hl1 : an < (C0 1).length := by
    have := (HK0.out.2.1 an (by omega) a1').2
    rw [show getC C0 1 = C0 1 from getC_at (k := 1) (by decide) (by decide)] at this
    omega
  obtain ⟨y, h7⟩ := (h6.pk5 [4, 0, 1, 3]).refOpen
  obtain ⟨gr, y0, y1⟩ := h7.refData hl1
  obtain ⟨was, hwas⟩ : ∃ was, was = valC C0 1 an := ⟨_, rfl⟩
  rw [← hwas] at y0
  obtain ⟨L1, hL⟩ : ∃ L1, L1 = (C0 1).length := ⟨_, rfl⟩
  rw [← hL] at y1 hl1
  have i1 : (an : Int) < (L1 : Int) := by omega
  have HC1 : Hid (SNc was an o C0 0) := hid ⟨HK0.out.1, HK0.out.2.1 an (by omega) a1', HK0.out.2.2 o o0 o1, (HG.out o).trans rfl, fun _ => hwas.symm, by omega⟩
  have h8 : Hold w w7 (rdA g an o 0 0 0 0 false * (memA m C0 * (refA r c C0 * (prA gp m r * Asr.emp)))) := h6.pk5 [0, 3, 4, 1]
  clear h7 h6 hL hwas HK0
  obtain ⟨a, hae⟩ : ∃ a : Int, a = (an : Int) := ⟨_, rfl⟩
  go_wp2_with fail
  clear y0 y1 p1 i1 hl1
  rw [← hae] at h8 HC1 ⊢
  have a0 : 0 ≤ a := by omega
  have a2' : a ≤ 9223372036854775807 := by omega
  have o2' : o ≤ 9223372036854775807 := by omega
  clear hae
  go_loopw [16, 17, 18] (fun s v j wr => ∃ (i : Nat) (k : Int) (C : Nat → List Int) (at' bf vl : Int) (cf : Bool), i ≤ n3 ∧ (0 ≤ k ∧ k ≤ i) ∧ j = .int .i64 i ∧ s = .int .i64 k ∧ (∃ ver : Int, ver = k / 3 ∧ v = .int .i64 ver) ∧ SNc was a o C k ∧ SNr was k at' bf vl cf ∧ Hold w wr (rdA g a o 0 at' bf vl cf * (memA m C * (refA r c C * (prA gp m r * Asr.emp))))) (fun _ _ j _ => n3 - (intOf j).toNat)
  case atStart => exact ⟨0, 0, C0, 0, 0, 0, false, by omega, by omega, rfl, rfl, ⟨0, rfl, rfl⟩, HC1.out, ⟨by omega, fun h => by omega, fun h => by omega, fun h => by omega⟩, h8⟩
  case round =>
    clear h8 HC1
    obtain ⟨i, k, C, at', bf, vl, cf, hi, hkb, rfl, rfl, ⟨ver, hver, rfl⟩, hc, hr, h9⟩ := hrel
    have HC1 := hid hc
    have HR1 := hid hr
    have HV := hid hver
    have v0 : 0 ≤ ver ∧ ver ≤ 40 := by have := hc.kb; omega
    clear hc hr hver
    by_cases hlt : i < n3
    · have e1 : decide ((i : Int) < (n3 : Int)) = true := decide_eq_true (by omega)
      have i0 : (0 : Int) ≤ (i : Int) := by omega
      have i1 : (i : Int) < (n3 : Int) := by omega
      obtain ⟨ad, hA3, hcell⟩ := H3.out.at_ h9.below hlt
      obtain ⟨bv, hb, b, hbe⟩ := hcell 0 .bool rfl
      rw [hbe] at hb
      have hb' : wr.cell? (ad.add i) = some (.bool b) := by simpa using hb
      clear hb hcell hbe
      subst hA3
      have p0 := h9.drop.drop.drop.blk.some_ (i := 0) rfl
      have p1 := h9.drop.drop.drop.blk.some_ (i := 1) rfl
      cases b
      · have hkb40 : k + 1 ≤ 40 := by omega
        have hm3 : k % 3 = 0 ∨ k % 3 = 1 ∨ k % 3 = 2 := by omega
        rcases hm3 with hm | hm | hm
        · have m0 : (k % 3 == 0) = true := by simp [hm]
          have m1 : (k % 3 == 1) = false := by simp [hm]
          go_wp2_with fail
          refine (rheld_any _ _ _ (by omega) (by omega) (by omega) (by omega)).mono ?_
          rintro e w' ⟨rfl, rfl⟩
          clear m0 m1
          go_wp2_with fail
          refine (pair_set w _ _ m r c C 2 o _ (h9.pk4 [1, 2, 0, 3]) HC1.out.ok HC1.out.h2 (by omega)).mono ?_
          rintro e v3 ⟨rfl, h10⟩
          obtain ⟨C2, hC2⟩ : ∃ C2, C2 = opC C 2 o (ver * 64 + 1 + 1) true := ⟨_, rfl⟩
          rw [← hC2] at h10
          have hc2 : SNc was a o C2 (k + 1) := by rw [hC2]; exact HC1.out.orec (by omega) (by rw [HV.out]; exact sW_0 hm) (by omega)
          have hr := HR1.out
          clear hC2 HC1 h9 p0 p1
          replace h9 : Hold w v3 (rdA g a o 0 at' bf vl cf * (memA m C2 * (refA r c C2 * (prA gp m r * Asr.emp)))) := h10.pk4 [2, 0, 1, 3]
          have HC2 := hid hc2
          have HR2 := hid (hr.mono hkb.1)
          have hst : at' ≠ 3 ∨ (at' = 3 ∧ cf = true) ∨ (at' = 3 ∧ cf = false ∧ vl = was) := by
            by_cases h3 : at' = 3
            · cases cf
              · exact Or.inr (Or.inr ⟨h3, rfl, hr.w3 h3 rfl⟩)
              · exact Or.inr (Or.inl ⟨h3, rfl⟩)
            · exact Or.inl h3
          clear h10 hc2 hr
          go_wp2_with fail
          rcases hst with hst | ⟨rfl, rfl⟩ | ⟨rfl, rfl, rfl⟩
          · have e3 : (at' == 3) = false := by simp [hst]
            refine (rd_done w _ _ g a o 0 at' bf vl cf h9).mono ?_
            rintro e w' ⟨rfl, rfl⟩
            rw [e3]
            clear e3 hst
            go_wp2_with fail
            go_round
            case rel => exact ⟨i + 1, k + 1, C2, at', bf, vl, cf, by omega, by omega, by go_num, rfl, ⟨_, by have := HV.out; omega, rfl⟩, HC2.out, HR2.out, h9⟩
            case measure => simp [intOf]; omega
          · refine (rd_done w _ _ g a o 0 3 bf vl true h9).mono ?_
            rintro e w' ⟨rfl, rfl⟩
            go_wp2_with fail
            refine (rd_conflict w _ _ g a o 0 3 bf vl true h9).mono ?_
            rintro e w' ⟨rfl, rfl⟩
            go_wp2_with fail
            go_round
            case rel => exact ⟨i + 1, k + 1, C2, 3, bf, vl, true, by omega, by omega, by go_num, rfl, ⟨_, by have := HV.out; omega, rfl⟩, HC2.out, HR2.out, h9⟩
            case measure => simp [intOf]; omega
          · refine (rd_done w _ _ g a o 0 3 bf vl false h9).mono ?_
            rintro e w' ⟨rfl, rfl⟩
            go_wp2_with fail
            refine (rd_conflict w _ _ g a o 0 3 bf vl false h9).mono ?_
            rintro e w' ⟨rfl, rfl⟩
            go_wp2_with fail
            refine (rd_value w _ _ g a o 0 3 bf vl false h9).mono ?_
            rintro e w' ⟨rfl, rfl⟩
            rw [show rdVal 3 vl false = vl from rfl]
            have e3 : (vl != vl) = false := bne_self_eq_false vl
            go_wp2_with fail
            go_round
            case rel => exact ⟨i + 1, k + 1, C2, 3, bf, vl, false, by omega, by omega, by go_num, rfl, ⟨_, by have := HV.out; omega, rfl⟩, HC2.out, HR2.out, h9⟩
            case measure => simp [intOf]; omega
        · have m0 : (k % 3 == 0) = false := by simp [hm]
          have m1 : (k % 3 == 1) = true := by simp [hm]
          go_wp2_with fail
          obtain ⟨q, hq⟩ : ∃ q : Nat, k / 3 = q := ⟨(k / 3).toNat, by omega⟩
          rw [hq]
          refine (word_nat _ A2 n2 c2 _ x2 q (H2'.out.below h9.below) l2).mono ?_
          rintro e w' ⟨rfl, rfl⟩
          generalize x2.getD q 0 = xv
          clear hq
          clear m0 m1
          go_wp2_with fail
          refine (pair_set w _ _ m r c C 1 a _ (h9.pk4 [1, 2, 0, 3]) HC1.out.ok HC1.out.h1 (by omega)).mono ?_
          rintro e v3 ⟨rfl, h10⟩
          obtain ⟨C2, hC2⟩ : ∃ C2, C2 = opC C 1 a xv true := ⟨_, rfl⟩
          rw [← hC2] at h10
          have hc2 : SNc was a o C2 (k + 1) := by rw [hC2]; exact HC1.out.data (by omega) hm
          have hr := HR1.out
          clear hC2 HC1 h9 p0 p1
          replace h9 : Hold w v3 (rdA g a o 0 at' bf vl cf * (memA m C2 * (refA r c C2 * (prA gp m r * Asr.emp)))) := h10.pk4 [2, 0, 1, 3]
          have HC2 := hid hc2
          have HR2 := hid (hr.mono hkb.1)
          have hst : at' ≠ 3 ∨ (at' = 3 ∧ cf = true) ∨ (at' = 3 ∧ cf = false ∧ vl = was) := by
            by_cases h3 : at' = 3
            · cases cf
              · exact Or.inr (Or.inr ⟨h3, rfl, hr.w3 h3 rfl⟩)
              · exact Or.inr (Or.inl ⟨h3, rfl⟩)
            · exact Or.inl h3
          clear h10 hc2 hr
          go_wp2_with fail
          rcases hst with hst | ⟨rfl, rfl⟩ | ⟨rfl, rfl, rfl⟩
          · have e3 : (at' == 3) = false := by simp [hst]
            refine (rd_done w _ _ g a o 0 at' bf vl cf h9).mono ?_
            rintro e w' ⟨rfl, rfl⟩
            rw [e3]
            clear e3 hst
            go_wp2_with fail
            go_round
            case rel => exact ⟨i + 1, k + 1, C2, at', bf, vl, cf, by omega, by omega, by go_num, rfl, ⟨_, by have := HV.out; omega, rfl⟩, HC2.out, HR2.out, h9⟩
            case measure => simp [intOf]; omega
          · refine (rd_done w _ _ g a o 0 3 bf vl true h9).mono ?_
            rintro e w' ⟨rfl, rfl⟩
            go_wp2_with fail
            refine (rd_conflict w _ _ g a o 0 3 bf vl true h9).mono ?_
            rintro e w' ⟨rfl, rfl⟩
            go_wp2_with fail
            go_round
            case rel => exact ⟨i + 1, k + 1, C2, 3, bf, vl, true, by omega, by omega, by go_num, rfl, ⟨_, by have := HV.out; omega, rfl⟩, HC2.out, HR2.out, h9⟩
            case measure => simp [intOf]; omega
          · refine (rd_done w _ _ g a o 0 3 bf vl false h9).mono ?_
            rintro e w' ⟨rfl, rfl⟩
            go_wp2_with fail
            refine (rd_conflict w _ _ g a o 0 3 bf vl false h9).mono ?_
            rintro e w' ⟨rfl, rfl⟩
            go_wp2_with fail
            refine (rd_value w _ _ g a o 0 3 bf vl false h9).mono ?_
            rintro e w' ⟨rfl, rfl⟩
            rw [show rdVal 3 vl false = vl from rfl]
            have e3 : (vl != vl) = false := bne_self_eq_false vl
            go_wp2_with fail
            go_round
            case rel => exact ⟨i + 1, k + 1, C2, 3, bf, vl, false, by omega, by omega, by go_num, rfl, ⟨_, by have := HV.out; omega, rfl⟩, HC2.out, HR2.out, h9⟩
            case measure => simp [intOf]; omega
        · have m0 : (k % 3 == 0) = false := by simp [hm]
          have m1 : (k % 3 == 1) = false := by simp [hm]
          go_wp2_with fail
          refine (rfree_any _ _ (by omega) (by omega)).mono ?_
          rintro e w' ⟨rfl, rfl⟩
          clear m0 m1
          go_wp2_with fail
          refine (pair_set w _ _ m r c C 2 o _ (h9.pk4 [1, 2, 0, 3]) HC1.out.ok HC1.out.h2 (by omega)).mono ?_
          rintro e v3 ⟨rfl, h10⟩
          obtain ⟨C2, hC2⟩ : ∃ C2, C2 = opC C 2 o ((ver + 1) * 64) true := ⟨_, rfl⟩
          rw [← hC2] at h10
          have hc2 : SNc was a o C2 (k + 1) := by rw [hC2]; exact HC1.out.orec (by omega) (by rw [HV.out]; exact sW_2 hm) (by omega)
          have hr := HR1.out
          clear hC2 HC1 h9 p0 p1
          replace h9 : Hold w v3 (rdA g a o 0 at' bf vl cf * (memA m C2 * (refA r c C2 * (prA gp m r * Asr.emp)))) := h10.pk4 [2, 0, 1, 3]
          have HC2 := hid hc2
          have HR2 := hid (hr.mono hkb.1)
          have hst : at' ≠ 3 ∨ (at' = 3 ∧ cf = true) ∨ (at' = 3 ∧ cf = false ∧ vl = was) := by
            by_cases h3 : at' = 3
            · cases cf
              · exact Or.inr (Or.inr ⟨h3, rfl, hr.w3 h3 rfl⟩)
              · exact Or.inr (Or.inl ⟨h3, rfl⟩)
            · exact Or.inl h3
          clear h10 hc2 hr
          go_wp2_with fail
          rcases hst with hst | ⟨rfl, rfl⟩ | ⟨rfl, rfl, rfl⟩
          · have e3 : (at' == 3) = false := by simp [hst]
            refine (rd_done w _ _ g a o 0 at' bf vl cf h9).mono ?_
            rintro e w' ⟨rfl, rfl⟩
            rw [e3]
            clear e3 hst
            go_wp2_with fail
            go_round
            case rel => exact ⟨i + 1, k + 1, C2, at', bf, vl, cf, by omega, by omega, by go_num, rfl, ⟨_, by have := HV.out; omega, rfl⟩, HC2.out, HR2.out, h9⟩
            case measure => simp [intOf]; omega
          · refine (rd_done w _ _ g a o 0 3 bf vl true h9).mono ?_
            rintro e w' ⟨rfl, rfl⟩
            go_wp2_with fail
            refine (rd_conflict w _ _ g a o 0 3 bf vl true h9).mono ?_
            rintro e w' ⟨rfl, rfl⟩
            go_wp2_with fail
            go_round
            case rel => exact ⟨i + 1, k + 1, C2, 3, bf, vl, true, by omega, by omega, by go_num, rfl, ⟨_, by have := HV.out; omega, rfl⟩, HC2.out, HR2.out, h9⟩
            case measure => simp [intOf]; omega
          · refine (rd_done w _ _ g a o 0 3 bf vl false h9).mono ?_
            rintro e w' ⟨rfl, rfl⟩
            go_wp2_with fail
            refine (rd_conflict w _ _ g a o 0 3 bf vl false h9).mono ?_
            rintro e w' ⟨rfl, rfl⟩
            go_wp2_with fail
            refine (rd_value w _ _ g a o 0 3 bf vl false h9).mono ?_
            rintro e w' ⟨rfl, rfl⟩
            rw [show rdVal 3 vl false = vl from rfl]
            have e3 : (vl != vl) = false := bne_self_eq_false vl
            go_wp2_with fail
            go_round
            case rel => exact ⟨i + 1, k + 1, C2, 3, bf, vl, false, by omega, by omega, by go_num, rfl, ⟨_, by have := HV.out; omega, rfl⟩, HC2.out, HR2.out, h9⟩
            case measure => simp [intOf]; omega
      · go_wp2_with fail
        refine (sn_step w _ _ g m C was a o at' bf vl k cf h9 HC1.out HR1.out a2' o2').mono ?_
        rintro e v2 ⟨ac, at2, bf2, vl2, cf2, rfl, h10, hr2⟩
        have HR2 := hid hr2
        clear h9 p0 p1 hr2
        go_wp2_with fail
        go_round
        case rel => exact ⟨i + 1, k, C, at2, bf2, vl2, cf2, by omega, by omega, by go_num, rfl, ⟨ver, HV.out, rfl⟩, HC1.out, HR2.out, h10⟩
        case measure => simp [intOf]; omega
    · obtain rfl : i = n3 := by omega
      have e1 : decide ((i : Int) < (i : Int)) = false := by simp
      clear hlt
      have hr := HR1.out
      have hst : at' ≠ 3 ∨ (at' = 3 ∧ cf = true) ∨ (at' = 3 ∧ cf = false ∧ vl = was) := by
        by_cases h3 : at' = 3
        · cases cf
          · exact Or.inr (Or.inr ⟨h3, rfl, hr.w3 h3 rfl⟩)
          · exact Or.inr (Or.inl ⟨h3, rfl⟩)
        · exact Or.inl h3
      clear hr
      rcases hst with hst | ⟨rfl, rfl⟩ | ⟨rfl, rfl, rfl⟩
      · have e3 : (at' == 3) = false := by simp [hst]
        go_wp2_with fail
        refine (rd_done w _ _ g a o 0 at' bf vl cf h9).mono ?_
        rintro e w' ⟨rfl, rfl⟩
        rw [e3]
        clear e3 hst
        go_wp2_with fail
        refine (awake14_any w _ _ h9).mono ?_
        rintro e v3 ⟨rfl, h11⟩
        have H11 := hid h11.below
        clear h9 h11
        go_wp2_with fail
        go_ret
        exact ⟨rfl, H11.out⟩
      · go_wp2_with fail
        refine (rd_done w _ _ g a o 0 3 bf vl true h9).mono ?_
        rintro e w' ⟨rfl, rfl⟩
        go_wp2_with fail
        refine (rd_conflict w _ _ g a o 0 3 bf vl true h9).mono ?_
        rintro e w' ⟨rfl, rfl⟩
        go_wp2_with fail
        refine (awake14_any w _ _ h9).mono ?_
        rintro e v3 ⟨rfl, h11⟩
        have H11 := hid h11.below
        clear h9 h11
        go_wp2_with fail
        go_ret
        exact ⟨rfl, H11.out⟩
      · go_wp2_with fail
        refine (rd_done w _ _ g a o 0 3 bf vl false h9).mono ?_
        rintro e w' ⟨rfl, rfl⟩
        go_wp2_with fail
        refine (rd_conflict w _ _ g a o 0 3 bf vl false h9).mono ?_
        rintro e w' ⟨rfl, rfl⟩
        go_wp2_with fail
        refine (rd_value w _ _ g a o 0 3 bf vl false h9).mono ?_
        rintro e w' ⟨rfl, rfl⟩
        rw [show rdVal 3 vl false = vl from rfl]
        have e3 : (vl == vl) = true := by simp
        go_wp2_with fail
        refine (awake14_any w _ _ h9).mono ?_
        rintro e v3 ⟨rfl, h11⟩
        have H11 := hid h11.below
        clear h9 h11
        go_wp2_with fail
        go_ret
        exact ⟨rfl, H11.out⟩
end Go.Proofs.Ytddghhddafeojaa
