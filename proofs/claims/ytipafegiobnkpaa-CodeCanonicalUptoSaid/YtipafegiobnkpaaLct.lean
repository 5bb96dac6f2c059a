/- CodeCanonical: the loop over the byte strings. -/
import Derived.Test.YtipafegiobnkpaaLs
namespace Go.Proofs.Ytipafegiobnkpaa
open Go.RowKit
set_option linter.unusedVariables false

/-- The value is a slice of bytes that lies still under R. -/
def Byt (w0 : World) (R : Asr) (v : Value) : Prop := ∃ (A : Option Addr) (n c : Nat) (bs : List Nat), v = .slice A n c ∧ Still w0 R ⟨A, n, c⟩ bs ∧ (∀ x ∈ bs, x < 256) ∧ bs.length = n ∧ n ≤ c ∧ n ≤ 300000 ∧ (A = none → n = 0)
theorem Byt.under {w0 : World} {R p : Asr} {v : Value} (h : Byt w0 R v) : Byt w0 (p * R) v := by
  obtain ⟨A, n, c, bs, h1, h2, h3, h4, h5, h6, h7⟩ := h
  exact ⟨A, n, c, bs, h1, h2.under, h3, h4, h5, h6, h7⟩
set_option maxRecDepth 8000 in
set_option maxHeartbeats 16000000 in
theorem canon_tail {w W : World} {Rr : Asr} {Al : Option Addr} {nl cl : Nat} {vals : List Value} (h : Hold w W (rowS 31 1 (.slice Al nl cl) nl vals * Rr)) (hB : ∀ v ∈ vals, Byt w Rr v) (hn : nl ≤ 3)
    {v0 v1 v2 v3 v4 v5 v6 v7 v8 v10 v11 v12 v13 v14 v15 v16 v17 v18 v19 v20 v21 v22 v23 v24 v25 v26 v27 v28 v29 v30 v31 v32 v33 v34 v35 v36 v37 v38 v39 v40 v41 v42 v43 v44 v45 v46 v47 v48 v49 v50 v51 v52 v53 v54 v55 v56 v57 v58 v59 v60 v61 v62 v63 v64 v65 v66 v67 v68 v69 v70 v71 v72 v73 v74 v75 v76 v77 v78 v79 v80 v81 v82 v83 v84 v85 v86 v87 v88 v89 v90 v91 v92 v93 v94 v95 v96 v97 v98 v99 v100 v101 v102 v103 v104 v105 : Value} :
    Code.wp Try.prog (dropF 4 Try.f7) (bodyPost Try.prog Try.f7 (fun e w' => e = .returned (.bool true) ∧ Below w.heap.size w w')) ⟨#[v0, v1, v2, v3, v4, v5, v6, v7, v8, .slice Al nl cl, v10, v11, v12, v13, v14, v15, v16, v17, v18, v19, v20, v21, v22, v23, v24, v25, v26, v27, v28, v29, v30, v31, v32, v33, v34, v35, v36, v37, v38, v39, v40, v41, v42, v43, v44, v45, v46, v47, v48, v49, v50, v51, v52, v53, v54, v55, v56, v57, v58, v59, v60, v61, v62, v63, v64, v65, v66, v67, v68, v69, v70, v71, v72, v73, v74, v75, v76, v77, v78, v79, v80, v81, v82, v83, v84, v85, v86, v87, v88, v89, v90, v91, v92, v93, v94, v95, v96, v97, v98, v99, v100, v101, v102, v103, v104, v105], []⟩ W := by
  have HB := hid hB
  have hvl := h.rowSLen
  rw [Nat.mul_one] at hvl
  have HVL := hid hvl
  clear hB hvl
  change Code.wp _ (Code.seq _ _) _ _ _
  go_wp2_with fail
  go_loopw [12] (fun i wr => ∃ k : Nat, k ≤ nl ∧ i = .int .i64 (k : Int) ∧ Hold w wr (rowS 31 1 (.slice Al nl cl) nl vals * Rr)) (fun i _ => nl - (intOf i).toNat)
  case atStart => exact ⟨0, Nat.zero_le _, rfl, h⟩
  case round =>
    clear h
    obtain ⟨k, hk, rfl, h⟩ := hrel
    by_cases hlt : k < nl
    · have e1 : decide ((k : Int) < (nl : Int)) = true := decide_eq_true (by omega)
      have e1' : decide (k < nl) = true := decide_eq_true hlt
      obtain ⟨gl, hgl, hcell, _, _⟩ := h.setRowS hlt
      subst hgl
      obtain ⟨v, hv⟩ : ∃ v, vals[k]? = some v := ⟨_, List.getElem?_eq_getElem (by rw [HVL.out]; exact hlt)⟩
      rw [hv] at hcell
      obtain ⟨A, n, c, bs, rfl, hS, hb, hl, hnc, hn3, hz⟩ := HB.out v (List.mem_of_getElem? hv)
      subst hl
      have HS := hid hS
      have HV := hid hv
      have HD := hid (dec_got w wr _ A bs.length c bs h hS.under hb rfl hnc (by omega))
      have hok := dec_ok bs hb
      have k0 : (0 : Int) ≤ (k : Int) := by omega
      have k1 : (k : Int) < (nl : Int) := by omega
      clear hS hv
      go_wp2_with fail
      refine HD.out.mono ?_
      rintro e w4 ⟨V2, cs2, F2, rfl, hV2, hz2, ho2, h5, hr2⟩
      clear HD h hcell
      have h6 := h5.newBlk (t := 29) (cs := z16)
      unfold z16 at h6
      have H6 := hid h6
      clear h5 h6
      go_upto_region 12 with (refine wpList_store rfl 29 _ _ rfl w4.heap.size _ _ cs2 rfl rfl _ Try.sizeOf29 H6.out hz2 hz2 ho2 ?_; intro y5 h7)
      clear H6
      generalize w4.heap.size = g5 at h7 ⊢
      generalize decode5 bs = o at *
      obtain ⟨s, r⟩ := o
      simp only at hV2 hr2 hok ⊢
      by_cases he : r = 0
      · subst he
        obtain ⟨hb1, hb2⟩ := hok.2.2 rfl
        have henc : encode5 s = (bs, 0) := by rw [enc5_good (by rw [← hb1]; omega), ← hb1]
        have hE := enc_any w y5 _ V2 s h7 (fun w' q hw => hr2 w' _ hw.drop) hok.1 hok.2.1
        rw [henc, hV2] at hE
        have HE := hid hE
        clear hE hb1 henc hr2 hV2 hok
        go_wp2_with (refine wpList_load rfl 29 _ rfl g5 _ _ rfl Try.isAgg29 _ Try.sizeOf29 h7.blk hz2 ?_)
        refine HE.out.mono ?_
        rintro e w6 ⟨v', rfl, h8⟩
        clear HE h7
        obtain ⟨A2, c2, rfl, hc2, f2⟩ := h8.bufForm
        obtain ⟨b2, hR2⟩ := h8.rowSReads
        rw [Nat.mul_one] at hR2
        have h9 := h8.drop.drop.drop
        obtain ⟨b1, hR1⟩ := HS.out _ _ h9
        obtain ⟨gl', hgl, hcell, _, _⟩ := h9.setRowS hlt
        obtain rfl : gl = gl' := by injection hgl with hgl; injection hgl
        rw [HV.out] at hcell
        have hSm := same_any w6 A2 A b2 b1 bs.length bs.length c2 c bs bs hR2 hR1 (fun h => by
          rcases f2 with ⟨_, rfl⟩ | ⟨g, rfl⟩
          · rfl
          · cases h) hz hb hb
        rw [show decide (bs = bs) = true from decide_eq_true rfl] at hSm
        have HM := hid hSm
        clear hSm hR1 hR2 f2 h8 hgl
        go_wp2_with fail
        refine HM.out.mono ?_
        rintro e w7 ⟨rfl, rfl⟩
        clear HM hcell
        go_wp2_with fail
        go_roundw
        case rel => exact ⟨k + 1, by omega, by go_num, h9⟩
        case measure => simp [intOf]; omega
      · have e6 : (r != 0) = true := by simp; exact he
        have h9 := h7.drop.drop
        clear h7 hr2 hV2 hok
        go_wp2_with fail
        go_roundw
        case rel => exact ⟨k + 1, by omega, by go_num, h9⟩
        case measure => simp [intOf]; omega
    · obtain rfl : k = nl := by omega
      have e1 : decide ((k : Int) < (k : Int)) = false := decide_eq_false (by omega)
      have HA := hid (awake_any w wr _ h)
      clear h
      go_wp2_with fail
      refine HA.out.mono ?_
      rintro e w8 ⟨rfl, h10⟩
      clear HA
      go_wp2_with fail
      go_ret
      exact ⟨rfl, h10.below⟩
end Go.Proofs.Ytipafegiobnkpaa
