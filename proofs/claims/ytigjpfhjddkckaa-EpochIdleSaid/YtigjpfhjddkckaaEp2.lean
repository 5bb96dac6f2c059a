/- strongtxlaw09: the clock and the slots; awake; EpochSlots, EpochIdle. -/
import Derived.Test.YtigjpfhjddkckaaEp
import Derived.Test.YtigjpfhjddkckaaSmall
import Derived.Test.YtigjpfhjddkckaaMake
namespace Go.Proofs.Ytigjpfhjddkckaa
open Go.RowKit
set_option linter.unusedVariables false

theorem valC_op_same {C : Nat → List Int} {cell i x : Int} (hh : hasC C cell i) : valC (opC C cell i x true) cell i = x := by
  rw [(op_yes hh 2 x).2.1]; exact (valC_setK hh).1
theorem valC_op_ne {C : Nat → List Int} {cell cell' i j x : Int} (hc : cell'.toNat ≠ cell.toNat) : valC (opC C cell i x true) cell' j = valC C cell' j := by
  have hg : getC (opC C cell i x true) cell' = getC C cell' := by
    unfold getC opC
    split
    · split
      · exact setK_ne hc
      · rfl
    · rfl
  unfold valC
  rw [hg]
theorem new_ok4 {c : Cfg} (hok : cfgErr c = 0) : COk (newC c 4 (initL c.words.toNat)) := COk.newC hok (by decide) (by rw [initL_len]; have := (cfgOk_of hok).w; omega)
def cf0 : Cfg := mkCfg 0 0 0 0 0
/-- The clock and the four slots. -/
structure SL (C : Nat → List Int) (ck : Int) (s : Nat → Int) : Prop where
  ok : COk C
  l6 : (C 6).length = 4
  clk : valC C 3 0 = ck
  sl : ∀ k : Nat, k < 4 → valC C 6 k = s k
theorem SL.has3 {C : Nat → List Int} {ck : Int} {s : Nat → Int} (h : SL C ck s) : hasC C 3 0 := ⟨by decide, by rw [show getC C 3 = C 3 from getC_at (k := 3) (by decide) (by decide), h.ok.l3]; decide⟩
theorem SL.has6 {C : Nat → List Int} {ck : Int} {s : Nat → Int} (h : SL C ck s) {k : Nat} (hk : k < 4) : hasC C 6 k := ⟨by omega, by rw [show getC C 6 = C 6 from getC_at (k := 6) (by decide) (by decide), h.l6]; omega⟩
theorem SL.clock {C : Nat → List Int} {ck : Int} {s : Nat → Int} (h : SL C ck s) (v : Int) : SL (opC C 3 0 v true) v s :=
  ⟨h.ok.opC _ _ _ _, by rw [opC_len2]; exact h.l6, valC_op_same h.has3, fun k hk => (valC_op_ne (by decide)).trans (h.sl k hk)⟩
theorem SL.slot {C : Nat → List Int} {ck : Int} {s : Nat → Int} (h : SL C ck s) {t : Nat} (ht : t < 4) (v : Int) : SL (opC C 6 t v true) ck (fun k => if k = t then v else s k) := by
  refine ⟨h.ok.opC _ _ _ _, by rw [opC_len2]; exact h.l6, (valC_op_ne (by decide)).trans h.clk, fun k hk => ?_⟩
  by_cases he : k = t
  · subst he
    rw [if_pos rfl]
    exact valC_op_same (h.has6 hk)
  · rw [if_neg he, (op_yes (h.has6 ht) 2 v).2.1]
    unfold valC
    rw [show getC (setK C (6 : Int).toNat (t : Int).toNat v) 6 = setK C (6 : Int).toNat (t : Int).toNat v 6 from getC_at (C := setK C (6 : Int).toNat (t : Int).toNat v) (k := 6) (by decide) (by decide)]
    have h2 := h.sl k hk
    unfold valC at h2
    rw [show getC C 6 = C 6 from getC_at (k := 6) (by decide) (by decide)] at h2
    rw [← h2]
    unfold setK
    rw [if_pos (by decide)]
    have hne : (t : Int).toNat ≠ (k : Int).toNat := by omega
    simp only [List.getD, List.getElem?_set_ne hne]
theorem SL.eq {C : Nat → List Int} {ck : Int} {s s' : Nat → Int} (h : SL C ck s) (he : ∀ k, k < 4 → s k = s' k) : SL C ck s' := ⟨h.ok, h.l6, h.clk, fun k hk => (h.sl k hk).trans (he k hk)⟩
theorem SL.init {c : Cfg} (hok : cfgErr c = 0) : SL (newC c 4 (initL c.words.toNat)) 0 (fun _ => 0) := by
  refine ⟨new_ok4 hok, by show (zerosN 4).length = 4; rfl, rfl, fun k hk => ?_⟩
  unfold valC
  rw [show getC (newC c 4 (initL c.words.toNat)) 6 = zerosN 4 from getC_at (C := newC c 4 (initL c.words.toNat)) (k := 6) (by decide) (by decide)]
  simp only [zerosN, List.getD, List.getElem?_replicate]
  split <;> rfl
theorem SL.op3 {C : Nat → List Int} {ck : Int} {s : Nat → Int} (h : SL C ck s) : opA C 1 3 0 (valC C 3 0) true = ⟨1, 3, 0, ck, ck, true⟩ := by
  rw [(op_yes h.has3 1 _).1, h.clk]
theorem SL.op6 {C : Nat → List Int} {ck : Int} {s : Nat → Int} (h : SL C ck s) {k : Nat} (hk : k < 4) : opA C 1 6 k (valC C 6 k) true = ⟨1, 6, k, s k, s k, true⟩ := by
  rw [(op_yes (h.has6 hk) 1 _).1, h.sl k hk]
theorem SL.st6 {C : Nat → List Int} {ck : Int} {s : Nat → Int} (h : SL C ck s) {k : Nat} (hk : k < 4) (v : Int) : opA C 2 6 k v true = ⟨2, 6, k, s k, v, true⟩ := by
  rw [(op_yes (h.has6 hk) 2 _).1, h.sl k hk]
/-- The slots of an image. -/
theorem img_slots {w0 w : World} {R : Asr} {C : Nat → List Int} {y : Lay} {ck : Int} {s : Nat → Int} (h : Hold w0 w (sepR (refL C y) R)) (hs : SL C ck s) :
    ∃ ad c, slV C y 6 = .slice (some ad) 4 c ∧ ∀ k : Nat, k < 4 → w.cell? (ad.add k) = some (.int .u64 (s k)) := by
  have h6 := h.imgR.r6
  have hl := hs.l6
  obtain ⟨ad, hA, _, _⟩ := h6.numAt (i := 0) (by omega)
  refine ⟨ad, y.c 6, by unfold slV; rw [hA, hl], fun k hk => ?_⟩
  obtain ⟨ad2, hA2, _, hc⟩ := h6.numAt (i := k) (by omega)
  rw [hA] at hA2
  obtain rfl := Option.some.inj hA2
  rw [hc]
  have h2 := hs.sl k hk
  unfold valC at h2
  rw [show getC C 6 = C 6 from getC_at (k := 6) (by decide) (by decide)] at h2
  rw [← h2]; rfl
theorem field_slot (v0 v1 v2 v3 v4 v5 v6 v7 : Value) (w : World) : (Instr.field 61 (.agg #[v0, v1, v2, v3, v4, v5, v6, v7]) 5).run Try.prog w = .ok v5 w := by kernel_rfl
set_option maxRecDepth 8000 in
set_option maxHeartbeats 8000000 in
theorem awake09_any (w0 w : World) (R : Asr) (h : Hold w0 w R) : Calls Try.prog 39 #[] w (BothPost w0 (.bool true) R) := by
  have hok : cfgErr cf0 = 0 := mkCfg_ok _ _ _ _ _
  have HC0 := hid hok
  have HS0 := hid (SL.init hok)
  clear hok
  go_enter Try.func39, Try.ntmps39
  go_wp2_with fail
  refine (lab_small w0 _ _ cf0 0 0 0 0 0 (fun w => config_any w 0 0 0 0 0) HC0.out h).mono ?_
  rintro e v1 ⟨m, r, rfl, h1⟩
  obtain ⟨C0, hC0⟩ : ∃ C0, C0 = newC cf0 4 (initL cf0.words.toNat) := ⟨_, rfl⟩
  rw [← hC0] at h1
  have HS1 : Hid (SL C0 0 (fun _ => 0)) := hid (by rw [hC0]; exact HS0.out)
  have H2 := hid (h1.newBlk (t := 27) (cs := #[.pointer (some ⟨m, 0, none⟩), .pointer (some ⟨r, 0, none⟩)]))
  clear h h1 hC0 HS0 HC0
  go_upto_region 2 with fail
  have h2 := H2.out
  generalize hW : World.alloc _ _ = W2 at h2 ⊢
  generalize v1.heap.size = gp at h2 ⊢
  clear hW H2
  have p0 := h2.blk.some_ (i := 0) rfl
  have p1 := h2.blk.some_ (i := 1) rfl
  go_wp2_with fail
  refine (pair_set w0 _ _ m r cf0 C0 3 0 5 (h2.pk3 [1, 2, 0]) HS1.out.ok HS1.out.has3 (by decide)).mono ?_
  rintro e v2 ⟨rfl, h3⟩
  obtain ⟨C1, hC1⟩ : ∃ C1, C1 = opC C0 3 0 5 true := ⟨_, rfl⟩
  rw [← hC1] at h3
  have HS2 : Hid (SL C1 5 (fun _ => 0)) := hid (by rw [hC1]; exact HS1.out.clock 5)
  clear h2 p0 p1 hC1 HS1
  go_wp2_with fail
  refine (en_new w0 _ _ 1 h3).mono ?_
  rintro e v3 ⟨a, rfl, h4⟩
  clear h3
  go_wp2_with fail
  refine (fe_new w0 _ _ 0 2 h4).mono ?_
  rintro e v4 ⟨f, rfl, h5⟩
  clear h4
  have h6 : Hold w0 v4 (enA a 1 0 0 * (memA m C1 * (feA f 0 2 false 0 0 * (prA gp m r * (refA r cf0 C1 * R))))) := h5.pk5 [1, 2, 0, 4, 3]
  clear h5
  have p0 := h6.drop.drop.drop.blk.some_ (i := 0) rfl
  go_wp2_with fail
  refine (en_step0 w0 _ _ a m C1 1 0 _ h6 HS2.out.ok (by decide) (HS2.out.st6 (k := 1) (by decide) 1)).mono ?_
  rintro e v5 ⟨rfl, h7⟩
  obtain ⟨C2, hC2⟩ : ∃ C2, C2 = opC C1 6 1 1 true := ⟨_, rfl⟩
  rw [← hC2] at h7
  obtain ⟨s2, hs2⟩ : ∃ s2 : Nat → Int, s2 = fun k => if k = 1 then 1 else 0 := ⟨_, rfl⟩
  have HS3 : Hid (SL C2 5 s2 ∧ s2 1 = 1) := hid ⟨by rw [hC2, hs2]; exact HS2.out.slot (t := 1) (by decide) 1, by rw [hs2]; rfl⟩
  clear h6 p0 hC2 hs2 HS2
  have h8 : Hold w0 v5 (feA f 0 2 false 0 0 * (memA m C2 * (enA a 1 1 0 * (prA gp m r * (refA r cf0 C1 * R))))) := h7.pk3 [2, 1, 0]
  clear h7
  have p0 := h8.drop.drop.drop.blk.some_ (i := 0) rfl
  go_wp2_with fail
  refine (fe_step_load w0 _ _ f m C2 0 2 0 0 _ h8 HS3.out.1.ok (by decide) HS3.out.1.op3).mono ?_
  rintro e v6 ⟨rfl, h9⟩
  rw [show skipN 0 0 = 1 from rfl] at h9
  replace h9 : Hold w0 v6 (feA f 0 2 true 5 1 * (memA m C2 * (enA a 1 1 0 * (prA gp m r * (refA r cf0 C1 * R))))) := h9
  clear h8 p0
  have p0 := h9.drop.drop.drop.blk.some_ (i := 0) rfl
  go_wp2_with fail
  refine (fe_step_watch w0 _ _ f m C2 0 2 5 1 ⟨1, 6, 1, 1, 1, true⟩ h9 HS3.out.1.ok (by decide) (by decide) (by decide) (by have := HS3.out.1.op6 (k := 1) (by decide); rw [HS3.out.2] at this; exact this)).mono ?_
  rintro e v7 ⟨rfl, h10⟩
  replace h10 : Hold w0 v7 (feA f 0 2 true 5 1 * (memA m C2 * (enA a 1 1 0 * (prA gp m r * (refA r cf0 C1 * R))))) := h10
  clear h9 p0
  go_wp2_with fail
  refine (fe_done w0 _ _ f 0 2 true 5 1 h10).mono ?_
  rintro e v8 ⟨rfl, h11⟩
  rw [show (true && decide ((2 : Int) ≤ 1)) = false from rfl]
  clear h10
  have h12 : Hold w0 v8 (enA a 1 1 0 * (memA m C2 * (feA f 0 2 true 5 1 * (prA gp m r * (refA r cf0 C1 * R))))) := h11.pk3 [2, 1, 0]
  clear h11
  have p0 := h12.drop.drop.drop.blk.some_ (i := 0) rfl
  go_wp2_with fail
  refine (en_step1 w0 _ _ a m C2 1 0 _ h12 HS3.out.1.ok HS3.out.1.op3).mono ?_
  rintro e v9 ⟨rfl, h13⟩
  replace h13 : Hold w0 v9 (enA a 1 2 5 * (memA m C2 * (feA f 0 2 true 5 1 * (prA gp m r * (refA r cf0 C1 * R))))) := h13
  clear h12 p0
  have p0 := h13.drop.drop.drop.blk.some_ (i := 0) rfl
  go_wp2_with fail
  refine (en_step2 w0 _ _ a m C2 1 5 _ h13 HS3.out.1.ok (by decide) (by decide) (HS3.out.1.st6 (k := 1) (by decide) 7)).mono ?_
  rintro e v10 ⟨rfl, h14⟩
  obtain ⟨C3, hC3⟩ : ∃ C3, C3 = opC C2 6 1 7 true := ⟨_, rfl⟩
  replace h14 : Hold w0 v10 (enA a 1 3 5 * (memA m (opC C2 6 1 7 true) * (feA f 0 2 true 5 1 * (prA gp m r * (refA r cf0 C1 * R))))) := h14
  rw [← hC3] at h14
  obtain ⟨s3, hs3⟩ : ∃ s3 : Nat → Int, s3 = fun k => if k = 1 then 7 else s2 k := ⟨_, rfl⟩
  have HS4 : Hid (SL C3 5 s3 ∧ s3 1 = 7) := hid ⟨by rw [hC3, hs3]; exact HS3.out.1.slot (t := 1) (by decide) 7, by rw [hs3]; rfl⟩
  clear h13 p0 hC3 hs3 HS3
  have h15 : Hold w0 v10 (feA f 0 2 true 5 1 * (memA m C3 * (enA a 1 3 5 * (prA gp m r * (refA r cf0 C1 * R))))) := h14.pk3 [2, 1, 0]
  clear h14
  have p0 := h15.drop.drop.drop.blk.some_ (i := 0) rfl
  go_wp2_with fail
  refine (fe_step_watch w0 _ _ f m C3 0 2 5 1 ⟨1, 6, 1, 7, 7, true⟩ h15 HS4.out.1.ok (by decide) (by decide) (by decide) (by have := HS4.out.1.op6 (k := 1) (by decide); rw [HS4.out.2] at this; exact this)).mono ?_
  rintro e v11 ⟨rfl, h16⟩
  replace h16 : Hold w0 v11 (feA f 0 2 true 5 2 * (memA m C3 * (enA a 1 3 5 * (prA gp m r * (refA r cf0 C1 * R))))) := h16
  clear h15 p0
  go_wp2_with fail
  refine (fe_done w0 _ _ f 0 2 true 5 2 h16).mono ?_
  rintro e v12 ⟨rfl, h17⟩
  rw [show (true && decide ((2 : Int) ≤ 2)) = true from rfl]
  clear h16
  go_wp2_with fail
  refine (fe_limit w0 _ _ f 0 2 true 5 2 h17 (by decide)).mono ?_
  rintro e w' ⟨rfl, rfl⟩
  rw [if_pos rfl]
  go_wp2_with fail
  refine (en_done w0 _ _ a 1 3 5 (h17.pk3 [2, 0, 1])).mono ?_
  rintro e w' ⟨rfl, rfl⟩
  rw [show ((3 : Int) == 3) = true from rfl]
  go_wp2_with fail
  refine (en_snap w0 _ _ a 1 3 5 (h17.pk3 [2, 0, 1]) (by decide)).mono ?_
  rintro e w' ⟨rfl, rfl⟩
  rw [show enSnap 3 5 = 5 from rfl]
  have p0 := h17.drop.drop.drop.blk.some_ (i := 0) rfl
  go_wp2_with fail
  refine (image_any w0 _ _ m C3 (h17.pk2 [1, 0]) HS4.out.1.ok).mono ?_
  rintro e v13 ⟨y, rfl, h18⟩
  unfold imgV
  obtain ⟨ad, cp, hsl, hcells⟩ := img_slots h18 HS4.out.1
  have hc1 : v13.cell? ⟨ad.block, ad.off + 1, none⟩ = some (.int .u64 (s3 1)) := hcells 1 (by decide)
  rw [HS4.out.2] at hc1
  rw [hsl]
  have fd := field_slot (slV C3 y 1) (slV C3 y 2) (.int .u64 (w1 C3 3)) (.int .u64 (w1 C3 4)) (.int .u64 (w1 C3 5)) (.slice (some ad) 4 cp) (slV C3 y 7) (slV C3 y 8) v13
  have H19 := hid (h18.rest.pk5 [])
  clear h17 h18 hsl hcells HS4 p0
  go_wp2_with fail
  go_ret
  exact ⟨rfl, H19.out⟩
end Go.Proofs.Ytigjpfhjddkckaa
