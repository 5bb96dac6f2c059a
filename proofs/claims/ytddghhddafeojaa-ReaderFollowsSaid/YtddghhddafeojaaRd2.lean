/- strongtxlaw14: awake, word, ReaderOnlyLoads. -/
import Derived.Test.YtddghhddafeojaaRd
import Derived.Test.YtddghhddafeojaaSmall
import Derived.Test.YtddghhddafeojaaMake
import Derived.Test.YtddghhddafeojaaArg3
namespace Go.Proofs.Ytddghhddafeojaa
open Go.RowKit
set_option linter.unusedVariables false

/-- The word of an orec that is made of a number. -/
def word14 (v : Int) : Int := if place v 20 % 5 = 4 then place v 20 / 5 * 64 + place v 20 % 3 + 1 else place v 20 / 5 * 64
theorem word14_lt (v : Int) : 0 ≤ word14 v ∧ word14 v ≤ 260 := by
  have := place_nonneg v 20 (by omega); have := place_lt v 20 (by omega)
  have h1 : 0 ≤ place v 20 / 5 ∧ place v 20 / 5 ≤ 3 := by omega
  have h2 : 0 ≤ place v 20 % 3 ∧ place v 20 % 3 ≤ 2 := by omega
  unfold word14
  generalize place v 20 / 5 = x at h1 ⊢
  generalize place v 20 % 3 = y at h2 ⊢
  split <;> omega
theorem word14_any (w : World) (v : Int) : Calls Try.prog 51 #[.int .i64 v] w fun e w' => e = .returned (.int .u64 (word14 v)) ∧ w = w' := by
  have n0 := place_nonneg v 20 (by omega); have n1 := place_lt v 20 (by omega)
  obtain ⟨n, hn⟩ : ∃ n, n = place v 20 := ⟨_, rfl⟩
  have hW : word14 v = if n % 5 = 4 then n / 5 * 64 + n % 3 + 1 else n / 5 * 64 := by rw [hn]; rfl
  rw [← hn] at n0 n1
  have Hn := hid hn
  have HW := hid hW
  clear hn hW
  by_cases h3 : n % 5 = 4
  · have e1 : (n % 5 == 4) = true := by simp [h3]
    have hv : word14 v = n / 5 * 64 + n % 3 + 1 := by rw [HW.out, if_pos h3]
    rw [hv]
    clear hv h3
    go_enter Try.func51, Try.ntmps51
    go_wp2_with fail
    refine (place_any _ _ _ (by omega) (by omega)).mono ?_
    rintro e w' ⟨rfl, rfl⟩
    rw [← Hn.out]
    go_wp2_with fail
    refine (rheld_any _ _ _ (by omega) (by omega) (by omega) (by omega)).mono ?_
    rintro e w' ⟨rfl, rfl⟩
    go_wp2_with fail
    go_ret
    exact ⟨rfl, rfl⟩
  · have e1 : (n % 5 == 4) = false := by simp [h3]
    have hv : word14 v = n / 5 * 64 := by rw [HW.out, if_neg h3]
    rw [hv]
    clear hv h3
    go_enter Try.func51, Try.ntmps51
    go_wp2_with fail
    refine (place_any _ _ _ (by omega) (by omega)).mono ?_
    rintro e w' ⟨rfl, rfl⟩
    rw [← Hn.out]
    go_wp2_with fail
    refine (rfree_any _ _ (by omega) (by omega)).mono ?_
    rintro e w' ⟨rfl, rfl⟩
    go_wp2_with fail
    go_ret
    exact ⟨rfl, rfl⟩
theorem valC_op_same {C : Nat → List Int} {cell i x : Int} (hh : hasC C cell i) : valC (opC C cell i x true) cell i = x := by
  rw [(op_yes hh 2 x).2.1]; exact (valC_setK hh).1
theorem valC_op_ne {C : Nat → List Int} {cell cell' i j x : Int} (hc : cell'.toNat ≠ cell.toNat) : valC (opC C cell i x true) cell' j = valC C cell' j := by
  have hg : getC (opC C cell i x true) cell' = getC C cell' := by
    unfold getC opC
    split
    · split
      · exact setK_ne hc
      · rfl
    · rfl
  unfold valC
  rw [hg]
theorem hasC_opC {C : Nat → List Int} {cell cell' i j x : Int} (h : hasC C cell' j) : hasC (opC C cell i x true) cell' j := by
  refine ⟨h.1, ?_⟩
  have h2 := h.2
  unfold getC at h2 ⊢
  split
  · rename_i hc
    rw [if_pos hc] at h2
    rw [opC_len2]; exact h2
  · rename_i hc
    rw [if_neg hc] at h2; exact h2
theorem has_new {c : Cfg} {th : Nat} {init : List Int} {j k : Nat} (h1 : 1 ≤ j) (h8 : j ≤ 8) (h : k < (newC c th init j).length) : hasC (newC c th init) (j : Int) (k : Int) := ⟨by omega, by
  rw [getC_at h1 h8]; omega⟩
theorem new_ok4 {c : Cfg} (hok : cfgErr c = 0) : COk (newC c 4 (initL c.words.toNat)) := COk.newC hok (by decide) (by rw [initL_len]; have := (cfgOk_of hok).w; omega)
def cf0 : Cfg := mkCfg 0 0 0 0 0
theorem cf0_words : 4 ≤ cf0.words ∧ 1 ≤ cf0.orecs := by
  have := (mk_bd 0 0 0 0 0).1
  have := place_nonneg 0 8 (by omega)
  exact ⟨by show 4 ≤ 4 + place 0 9; omega, by show 1 ≤ 1 + place 0 8; omega⟩
set_option maxRecDepth 8000 in
set_option maxHeartbeats 4000000 in
theorem awake14_any (w0 w : World) (R : Asr) (h : Hold w0 w R) : Calls Try.prog 41 #[] w (BothPost w0 (.bool true) R) := by
  have hok : cfgErr cf0 = 0 := mkCfg_ok _ _ _ _ _
  have HC0 := hid hok
  obtain ⟨C0, hC0⟩ : ∃ C0, C0 = newC cf0 4 (initL cf0.words.toNat) := ⟨_, rfl⟩
  have hk0 : COk C0 := by rw [hC0]; exact new_ok4 hok
  have hh1 : hasC C0 1 2 := by
    rw [hC0]
    refine has_new (j := 1) (k := 2) (by decide) (by decide) ?_
    show 2 < (initL cf0.words.toNat ++ zerosN (nbl cf0)).length
    have := cf0_words.1
    rw [List.length_append, initL_len]; omega
  have hh2 : hasC C0 2 0 := by
    rw [hC0]
    refine has_new (j := 2) (k := 0) (by decide) (by decide) ?_
    show 0 < (zerosN cf0.orecs.toNat).length
    have := cf0_words.2
    simp [zerosN]; omega
  have hv1 : valC C0 1 2 = 21 := by
    rw [hC0]
    unfold valC
    rw [show getC (newC cf0 4 (initL cf0.words.toNat)) 1 = initL cf0.words.toNat ++ zerosN (nbl cf0) from getC_at (C := newC cf0 4 (initL cf0.words.toNat)) (k := 1) (by decide) (by decide)]
    have := cf0_words.1
    have hlt : 2 < cf0.words.toNat := by omega
    simp [initL, List.getD, List.getElem?_append, hlt]
  have HCC := hid hC0
  have HK0 := hid (And.intro hk0 (And.intro hh1 (And.intro hh2 hv1)))
  clear hok hC0 hk0 hh1 hh2 hv1
  go_enter Try.func41, Try.ntmps41
  go_wp2_with fail
  refine (lab_small w0 _ _ cf0 0 0 0 0 0 (fun w => config_any w 0 0 0 0 0) HC0.out h).mono ?_
  rintro e v1 ⟨m, r, rfl, h1⟩
  rw [← HCC.out] at h1
  have h2 := h1.newBlk (t := 27) (cs := #[.pointer (some ⟨m, 0, none⟩), .pointer (some ⟨r, 0, none⟩)])
  have H2 := hid h2
  clear h h1 h2 HCC
  go_wp2_with fail
  have h2 := H2.out
  generalize hW : World.alloc _ _ = W2 at h2 ⊢
  generalize v1.heap.size = gp at h2 ⊢
  clear hW H2
  refine (rd_new w0 _ _ 2 0 3 h2).mono ?_
  rintro e v2 ⟨a, rfl, h3⟩
  clear h2
  go_wp2_with fail
  refine (rd_new w0 _ _ 2 0 2 h3).mono ?_
  rintro e v3 ⟨b, rfl, h4⟩
  have h5 : Hold w0 v3 (memA m C0 * (refA r cf0 C0 * (rdA a 2 0 3 0 0 0 false * (rdA b 2 0 2 0 0 0 false * (prA gp m r * R))))) := h4.pk5 [3, 4, 1, 0, 2]
  have p0 := h5.drop.drop.drop.drop.blk.some_ (i := 0) rfl
  have p1 := h5.drop.drop.drop.drop.blk.some_ (i := 1) rfl
  clear h3 h4
  go_wp2_with fail
  refine (pair_set w0 _ _ m r cf0 C0 2 0 192 h5 HK0.out.1 HK0.out.2.2.1 (by decide)).mono ?_
  rintro e v4 ⟨rfl, h6⟩
  obtain ⟨C1, hC1⟩ : ∃ C1, C1 = opC C0 2 0 192 true := ⟨_, rfl⟩
  rw [← hC1] at h6
  have hk1 : COk C1 := by rw [hC1]; exact HK0.out.1.opC _ _ _ _
  have hv2 : valC C1 2 0 = 192 := by rw [hC1]; exact valC_op_same HK0.out.2.2.1
  have hv1 : valC C1 1 2 = 21 := by rw [hC1]; exact (valC_op_ne (by decide)).trans HK0.out.2.2.2
  have ho2 : opA C1 1 2 0 (valC C1 2 0) true = ⟨1, 2, 0, 192, 192, true⟩ := by rw [hC1, (op_yes (hasC_opC HK0.out.2.2.1) 1 _).1, ← hC1, hv2]
  have ho1 : opA C1 1 1 2 (valC C1 1 2) true = ⟨1, 1, 2, 21, 21, true⟩ := by rw [hC1, (op_yes (hasC_opC HK0.out.2.1) 1 _).1, ← hC1, hv1]
  have HK1 := hid (And.intro hk1 (And.intro ho2 ho1))
  have h7 : Hold w0 v4 (rdA a 2 0 3 0 0 0 false * (memA m C1 * (refA r cf0 C1 * (rdA b 2 0 2 0 0 0 false * (prA gp m r * R))))) := h6.pk3 [2, 0, 1]
  clear h5 h6 p0 p1 hC1 hk1 hv1 hv2 ho1 ho2 HK0
  have p0 := h7.drop.drop.drop.drop.blk.some_ (i := 0) rfl
  go_wp2_with fail
  refine wp_loop_rounds 4 ?_
  rw [rounds_succ]
  go_wp2_with fail
  refine (rd_step0_ok w0 _ _ a m C1 2 0 3 0 0 false _ h7 HK1.out.1 (by decide) HK1.out.2.1 (by decide) (by decide)).mono ?_
  rintro e v5 ⟨rfl, h8⟩
  clear h7 p0
  have p0 := h8.drop.drop.drop.drop.blk.some_ (i := 0) rfl
  go_wp2_with fail
  rw [rounds_succ]
  go_wp2_with fail
  refine (rd_step1 w0 _ _ a m C1 2 0 3 192 0 false _ h8 HK1.out.1 (by decide) HK1.out.2.2).mono ?_
  rintro e v6 ⟨rfl, h9⟩
  clear h8 p0
  have p0 := h9.drop.drop.drop.drop.blk.some_ (i := 0) rfl
  go_wp2_with fail
  rw [rounds_succ]
  go_wp2_with fail
  refine (rd_step2 w0 _ _ a m C1 2 0 3 192 21 false _ h9 HK1.out.1 (by decide) HK1.out.2.1).mono ?_
  rintro e v7 ⟨rfl, h10⟩
  clear h9 p0
  have h11 : Hold w0 v7 (rdA b 2 0 2 0 0 0 false * (memA m C1 * (rdA a 2 0 3 3 192 21 false * (refA r cf0 C1 * (prA gp m r * R))))) := h10.pk4 [3, 1, 0, 2]
  clear h10
  have p0 := h11.drop.drop.drop.drop.blk.some_ (i := 0) rfl
  go_wp2_with fail
  rw [rounds_succ]
  go_wp2_with fail
  refine (rd_step0_bad w0 _ _ b m C1 2 0 2 0 0 false _ h11 HK1.out.1 (by decide) HK1.out.2.1 (by decide) (by decide)).mono ?_
  rintro e v8 ⟨rfl, h12⟩
  clear h11 p0
  have h13 : Hold w0 v8 (rdA a 2 0 3 3 192 21 false * (rdA b 2 0 2 3 192 0 true * (memA m C1 * (refA r cf0 C1 * (prA gp m r * R))))) := h12.pk3 [2, 0, 1]
  clear h12
  go_wp2_with fail
  refine (rd_done w0 _ _ a 2 0 3 3 192 21 false h13).mono ?_
  rintro e w' ⟨rfl, rfl⟩
  go_wp2_with fail
  refine (rd_conflict w0 _ _ a 2 0 3 3 192 21 false h13).mono ?_
  rintro e w' ⟨rfl, rfl⟩
  go_wp2_with fail
  refine (rd_value w0 _ _ a 2 0 3 3 192 21 false h13).mono ?_
  rintro e w' ⟨rfl, rfl⟩
  go_wp2_with fail
  have h14 : Hold w0 v8 (rdA b 2 0 2 3 192 0 true * (memA m C1 * (refA r cf0 C1 * (prA gp m r * R)))) := h13.drop
  refine (rd_done w0 _ _ b 2 0 2 3 192 0 true h14).mono ?_
  rintro e w' ⟨rfl, rfl⟩
  go_wp2_with fail
  refine (rd_conflict w0 _ _ b 2 0 2 3 192 0 true h14).mono ?_
  rintro e w' ⟨rfl, rfl⟩
  go_wp2_with fail
  refine (rd_value w0 _ _ b 2 0 2 3 192 0 true h14).mono ?_
  rintro e w' ⟨rfl, rfl⟩
  go_wp2_with fail
  have hfin : Hid (Hold w0 v8 R) := hid h14.drop.drop.drop.drop
  go_ret
  exact ⟨rfl, hfin.out⟩
end Go.Proofs.Ytddghhddafeojaa
