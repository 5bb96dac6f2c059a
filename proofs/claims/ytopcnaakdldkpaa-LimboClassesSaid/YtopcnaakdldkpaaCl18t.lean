/- LimboClasses behind the drain: its steps, the lists. -/
import Derived.Test.YtopcnaakdldkpaaWalk18p
namespace Go.Proofs.Ytopcnaakdldkpaa
open Go.RowKit
set_option linter.unusedVariables false
set_option maxRecDepth 8000 in
set_option maxHeartbeats 16000000 in
theorem classes_tail {w W : World} {C0 : Nat → List Int} {d m r gl gw gp : Nat} {un : List Nat} {qs0 : List QM} {Wf : Nat → List Nat} {p : Lie} (hv : FV C0 (hzL 3) ns0) (hSI : SI (hzL 3) ns0 (fun _ => []) un 0 qs0) (hfin : finL (fun _ => []) qs0 = Wf) (hrem : remQ qs0 ≤ 18) (hwl : ∀ k, k < 3 → (Wf k).length ≤ 100)
    (h : Hold w W (drA d qs0 * (memA m C0 * (limA gl [] * (blkA 64 gw (wC p Wf) * (prA gp m r * sepR (rows3 p Wf) Asr.emp)))))) {v0 v1 v2 v4 v6 v8 v9 v10 v11 v13 v14 v15 v16 v17 v18 v19 v20 v21 v22 v23 v24 v25 v26 v27 v28 v29 v30 v31 v32 v33 v34 v35 v36 v37 v38 v39 v40 v41 v42 v43 v44 v45 v46 v47 v48 v49 v50 v51 v52 v53 v54 v55 v56 v57 v58 v59 v60 v61 v62 v63 v64 v65 v66 v67 v68 v69 v70 v71 v72 v73 v74 v75 v76 v77 v78 v79 v80 v81 v82 v83 v84 v85 v86 v87 v88 v89 v90 v91 v92 v93 v94 v95 v96 v97 v98 v99 v100 v101 v102 v103 v104 v105 v106 v107 v108 v109 v110 v111 v112 v113 v114 v115 v116 v117 : Value} :
    Code.wp Try.prog (dropF 10 Try.f4) (bodyPost Try.prog Try.f4 (fun e w' => e = .returned (.bool true) ∧ Below w.heap.size w w')) ⟨#[v0, v1, v2, .pointer (some ⟨gp, 0, none⟩), v4, .pointer (some ⟨gl, 0, none⟩), v6, .pointer (some ⟨gw, 0, none⟩), v8, v9, v10, v11, .pointer (some ⟨d, 0, none⟩), v13, v14, v15, v16, v17, v18, v19, v20, v21, v22, v23, v24, v25, v26, v27, v28, v29, v30, v31, v32, v33, v34, v35, v36, v37, v38, v39, v40, v41, v42, v43, v44, v45, v46, v47, v48, v49, v50, v51, v52, v53, v54, v55, v56, v57, v58, v59, v60, v61, v62, v63, v64, v65, v66, v67, v68, v69, v70, v71, v72, v73, v74, v75, v76, v77, v78, v79, v80, v81, v82, v83, v84, v85, v86, v87, v88, v89, v90, v91, v92, v93, v94, v95, v96, v97, v98, v99, v100, v101, v102, v103, v104, v105, v106, v107, v108, v109, v110, v111, v112, v113, v114, v115, v116, v117], []⟩ W := by
  have HWL := hid hwl
  clear hwl
  change Code.wp _ (Code.seq _ _) _ _ _
  go_wp2_with fail
  go_loopw [13] (fun j wr => ∃ (i : Nat) (C : Nat → List Int) (hs ns : List Int) (L : Nat → List Nat) (qs : List QM) (B : Int), i ≤ 18 ∧ j = .int .i64 (i : Int) ∧ FV C hs ns ∧ SI hs ns L un B qs ∧ B ≤ i ∧ finL L qs = Wf ∧ remQ qs ≤ 18 - i ∧ Hold w wr (drA d qs * (memA m C * (limA gl [] * (blkA 64 gw (wC p Wf) * (prA gp m r * sepR (rows3 p Wf) Asr.emp)))))) (fun j _ => 18 - (intOf j).toNat)
  case atStart => exact ⟨0, C0, _, _, _, qs0, 0, by omega, rfl, hv, hSI, by omega, hfin, by omega, h⟩
  case round =>
    clear h hv hSI hfin hrem
    obtain ⟨i, C, hs, ns, L, qs, B, hi, rfl, hv, hSI, hBi, hfin, hrem, h8⟩ := hrel
    have HV := hid hv
    have HSI := hid hSI
    have HF := hid hfin
    clear hv hSI hfin
    by_cases hlt : i < 18
    · have e1 : decide ((i : Int) < 18) = true := decide_eq_true (by omega)
      have e1' : decide (i < 18) = true := decide_eq_true hlt
      have p0 := h8.drop.drop.drop.drop.blk.some_ (i := 0) rfl
      cases qs with
      | nil =>
        have HST := hid (dr_step0 w wr _ d m h8)
        clear h8
        go_wp2_with fail
        refine HST.out.mono ?_
        rintro e w9 ⟨rfl, h9⟩
        have H9 := hid h9
        clear HST h9 p0
        go_wp2_with fail
        go_roundw
        case rel => exact ⟨i + 1, C, hs, ns, L, [], B, by omega, by go_num, HV.out, HSI.out, by omega, HF.out, Nat.zero_le _, H9.out⟩
        case measure => simp [intOf]; omega
      | cons q rest =>
        have hst := dr_step1 w wr _ d m C hs ns B q rest h8 HV.out HSI.out.fi (by omega) HSI.out.qw
        have hv2 := pushC_fv HV.out HSI.out.fi HSI.out.qw
        obtain ⟨L', s1, s2, s3⟩ := HSI.out.step (by omega)
        have HST := hid hst
        have HV2 := hid hv2
        have HS := hid (And.intro s1 (And.intro (s2.trans HF.out) s3))
        clear s1 s2 s3 h8 hst hv2
        go_wp2_with fail
        refine HST.out.mono ?_
        rintro e w9 ⟨rfl, h9⟩
        generalize pushA _ _ _ = a2
        have H9 := hid h9
        clear HST h9 p0
        go_wp2_with fail
        go_roundw
        case rel => exact ⟨i + 1, _, _, _, L', _, B + 1, by omega, by go_num, HV2.out, HS.out.1, by omega, HS.out.2.1, by have := HS.out.2.2; omega, H9.out⟩
        case measure => simp [intOf]; omega
    · obtain rfl : i = 18 := by omega
      have e1 : decide (((18 : Nat) : Int) < 18) = false := rfl
      obtain rfl : qs = [] := by
        cases qs with
        | nil => rfl
        | cons q rest =>
          exfalso
          have pa := HSI.out.qw.a
          simp only [remQ] at hrem
          omega
      have hL : L = Wf := HF.out
      subst hL
      have HKI : Hid (KI hs ns L un [] [none] B) := HSI
      have hB9 : B ≤ 1000 := by omega
      clear HSI HF hrem hlt hi hBi
      rw [show ((18 : Nat) : Int) = 18 from rfl]
      have h9 : Hold w wr (memA m C * (blkA 64 gw (wC p L) * (prA gp m r * (drA d [] * (limA gl [] * sepR (rows3 p L) Asr.emp))))) := h8.pk5 [1, 3, 4, 0, 2]
      clear h8
      go_wp2_with fail
      go_loopw [14] (fun j wr => ∃ k : Nat, k ≤ 3 ∧ j = .int .i64 (k : Int) ∧ Hold w wr (memA m C * (blkA 64 gw (wC p L) * (prA gp m r * (drA d [] * (limA gl [] * sepR (rows3 p L) Asr.emp)))))) (fun j _ => 3 - (intOf j).toNat)
      case atStart => exact ⟨0, by omega, rfl, h9⟩
      case round =>
        clear h9
        obtain ⟨k, hk, rfl, h8⟩ := hrel
        by_cases hlt : k < 3
        · have e2 : decide ((k : Int) < 3) = true := decide_eq_true (by omega)
          have e2' : decide (k < 3) = true := decide_eq_true hlt
          have k0 : (0 : Int) ≤ (k : Int) := by omega
          have k1 : (k : Int) < 3 := by omega
          have p0 := h8.drop.drop.blk.some_ (i := 0) rfl
          have HM := hid (image_any w wr _ m C h8 HV.out.ok)
          clear h8
          go_wp2_with fail
          refine HM.out.mono ?_
          rintro e w2 ⟨y, rfl, h9⟩
          clear HM p0
          have hli := list_img w w2 _ C hs ns B y k h9 HV.out HKI.out.fi hB9
          rw [HKI.out.listF (by omega : k < 4)] at hli
          have HLI := hid hli
          clear hli h9
          go_wp2_with fail
          refine HLI.out.mono ?_
          rintro e w3 ⟨A1, c1, rfl, h10⟩
          clear HLI
          simp only at h10
          have hck := h10.drop.drop.blk.some_ (wC_at p L hlt)
          have hrk := (h10.drop.drop.drop.drop.drop.drop.nth k (rows3_at p L hlt))
          obtain ⟨bk, hr2⟩ := ints_row (show Hold w w3 (rowS 3 1 (.slice (p.1 k) (L k).length (p.2 k)) (L k).length ((toI (L k)).map (Value.int .i64)) * _) from hrk)
          have hr1 := h10.rowReads
          have hlen : (toI (L k)).length ≤ 9223372036854775807 := by
            have := HWL.out k hlt
            unfold toI
            rw [List.length_map]; omega
          have hIn := ints_any w3 A1 (p.1 k) (toI (L k)).length (L k).length c1 (p.2 k) _ bk (toI (L k)) (toI (L k)) hr1 hr2 hlen
          rw [show decide (toI (L k) = toI (L k)) = true from decide_eq_true rfl] at hIn
          have HIN := hid hIn
          have h11 := h10.drop
          clear hrk hr1 hr2 hIn h10
          go_wp2_with fail
          refine HIN.out.mono ?_
          rintro e w4 ⟨rfl, q1, rfl⟩
          have H12 := hid (h11.drewN q1)
          clear HIN h11 hck
          go_wp2_with fail
          go_roundw
          case rel => exact ⟨k + 1, by omega, by go_num, H12.out⟩
          case measure => simp [intOf]; omega
        · obtain rfl : k = 3 := by omega
          have e2 : decide (((3 : Nat) : Int) < 3) = false := rfl
          have h9 : Hold w wr (drA d [] * (limA gl [] * sepR (rows3 p L) Asr.emp)) := h8.drop.drop.drop
          clear h8
          rw [show ((3 : Nat) : Int) = 3 from rfl]
          have HD := hid (dr_done w wr _ d [] h9)
          have HB := hid (lim_Blocks w wr _ gl [] h9.swap (by decide))
          clear h9
          go_wp2_with fail
          refine HD.out.mono ?_
          rintro e w' ⟨rfl, rfl⟩
          clear HD
          go_wp2_with fail
          refine HB.out.mono ?_
          rintro e w5 ⟨A2, c2, rfl, h10⟩
          clear HB
          have HA := hid (awake18_any w w5 _ h10)
          clear h10
          go_wp2_with fail
          refine HA.out.mono ?_
          rintro e w6 ⟨rfl, h11⟩
          have H11 := hid h11.below
          clear HA h11
          go_wp2_with fail
          go_ret
          exact ⟨rfl, H11.out⟩
end Go.Proofs.Ytopcnaakdldkpaa
