/- Decode, of the reference: what follows the loops. -/
import Derived.Test.YtipafegiobnkpaaDk
import Derived.Test.YtipafegiobnkpaaRp
import Derived.Test.YtipafegiobnkpaaReg3
import Derived.Test.YtipafegiobnkpaaCp
namespace Go.Proofs.Ytipafegiobnkpaa
open Go.RowKit
set_option linter.unusedVariables false
/-- What follows the first k statements. -/
def dropC : Nat → Code → Code
  | 0, c => c
  | k + 1, .seq _ y => dropC k y
  | _ + 1, c => c
def dropF (k : Nat) (f : Func) : Code := match f.body with
  | some c => dropC k c
  | none => .skip
set_option maxRecDepth 8000 in
set_option maxHeartbeats 16000000 in
theorem rdec_tail {w0 wr : World} {R : Asr} {ad2 : Addr} {n c g g7 gs k1 k2 k3 : Nat} {A1 A2v A3 : Option Addr} {bs : List Nat} {c0 c1 c2 c3 c4 c5 c6 c7 c8 c9 c10 c11 : Int} {sb : Bool} {l1 : List Nat} {l2 : List (List (List Int))} {l3 : List Int} {o3x : Option (List Nat)}
    (hD : scrD (bs.drop 4) = fin4 ⟨[c0, c1, c2, c3, c4, c5, c6, c7, c8, c9, c10, c11], sb, l1, l2, l3⟩ o3x) (hd0 : scrD (bs.drop 4) = none → decode5 bs = (.zero, 30)) (hd1 : ∀ s, scrD (bs.drop 4) = some s → decode5 bs = (s, 0)) (hl : bs.length = n)
    (hn : n ≤ 4611686018427387904) (hl1 : l1.length ≤ 262144) (hl2 : l2.length ≤ 262144) (hl3 : l3.length ≤ 262144)
    (h : Hold w0 wr (rrA ⟨some ad2, n, c⟩ bs g o3x * (blkA 29 g7 #[.int .i64 c0, .int .i64 c1, .int .i64 c2, .int .i64 c3, .int .i64 c4, .int .i64 c5, .int .i64 c6, .int .i64 c7, .int .i64 c8, .int .i64 c9, .int .i64 c10, .int .i64 c11, .bool sb, .slice A1 l1.length k1, .slice A2v l2.length k2, .slice A3 l3.length k3] * (ivA (.slice A3 l3.length k3) l3 * (progA (.slice A2v l2.length k2) l2 * (uvA (.slice A1 l1.length k1) l1 * (blkA 29 gs z16 * R)))))))
    {v1 v5 v6 v8 v9 v10 v11 v12 v13 v14 v15 v16 v17 v18 v19 v20 v21 v22 v23 v24 v25 v26 v27 v28 v29 v30 v31 v32 v33 v34 v35 v36 v37 v38 v39 v40 v41 v42 v43 v44 v45 v46 v47 v48 v49 v50 v51 v52 v53 v54 v55 v56 v57 v58 v59 v60 v61 v62 v63 v64 v65 v66 v67 v68 v69 v70 v71 v72 v73 v74 v75 v76 v77 v78 v79 v80 v81 v82 v83 v84 v85 v86 v87 v88 v89 v90 v91 v92 v93 v94 v95 v96 v97 v98 v99 v100 v101 v102 v103 v104 v105 v106 v107 v108 v109 v110 v111 v112 v113 v114 v115 v116 v117 v118 v119 v120 v121 v122 v123 v124 v125 v126 v127 v128 v129 v130 v131 v132 v133 v134 v135 v136 v137 v138 v139 v140 v141 v142 v143 v144 v145 v146 v147 v148 v149 v150 v151 v152 v153 v154 v155 v156 v157 v158 v159 v160 v161 v162 v163 v164 v165 v166 v167 v168 v169 v170 v171 v172 v173 v174 v175 v176 v177 v178 : Value} :
    Code.wp Try.prog (dropF 14 Try.f15) (bodyPost Try.prog Try.f15 (DecPost w0 R (decode5 bs))) ⟨#[.slice (some ad2) n c, v1, .pointer (some ⟨gs, 0, none⟩), .int .i64 0, .pointer (some ⟨g, 0, none⟩), v5, v6, .pointer (some ⟨g7, 0, none⟩), v8, v9, v10, v11, v12, v13, v14, v15, v16, v17, v18, v19, v20, v21, v22, v23, v24, v25, v26, v27, v28, v29, v30, v31, v32, v33, v34, v35, v36, v37, v38, v39, v40, v41, v42, v43, v44, v45, v46, v47, v48, v49, v50, v51, v52, v53, v54, v55, v56, v57, v58, v59, v60, v61, v62, v63, v64, v65, v66, v67, v68, v69, v70, v71, v72, v73, v74, v75, v76, v77, v78, v79, v80, v81, v82, v83, v84, v85, v86, v87, v88, v89, v90, v91, v92, v93, v94, v95, v96, v97, v98, v99, v100, v101, v102, v103, v104, v105, v106, v107, v108, v109, v110, v111, v112, v113, v114, v115, v116, v117, v118, v119, v120, v121, v122, v123, v124, v125, v126, v127, v128, v129, v130, v131, v132, v133, v134, v135, v136, v137, v138, v139, v140, v141, v142, v143, v144, v145, v146, v147, v148, v149, v150, v151, v152, v153, v154, v155, v156, v157, v158, v159, v160, v161, v162, v163, v164, v165, v166, v167, v168, v169, v170, v171, v172, v173, v174, v175, v176, v177, v178], []⟩ wr := by
  have HD0 := hid hd0
  have HD1 := hid hd1
  have HL := hid hl
  clear hd0 hd1 hl
  change Code.wp _ (Code.seq _ _) _ _ _
  obtain ⟨p, bb, hat, h2⟩ := rrOpen h
  have h2 : Hold w0 wr (blkA 82 g #[SlV.v ⟨some ad2, n, c⟩, .int .i64 (p : Int), .bool bb] * (blkA 29 g7 #[.int .i64 c0, .int .i64 c1, .int .i64 c2, .int .i64 c3, .int .i64 c4, .int .i64 c5, .int .i64 c6, .int .i64 c7, .int .i64 c8, .int .i64 c9, .int .i64 c10, .int .i64 c11, .bool sb, .slice A1 l1.length k1, .slice A2v l2.length k2, .slice A3 l3.length k3] * (ivA (.slice A3 l3.length k3) l3 * (progA (.slice A2v l2.length k2) l2 * (uvA (.slice A1 l1.length k1) l1 * (blkA 29 gs #[.int .i64 0, .int .i64 0, .int .i64 0, .int .i64 0, .int .i64 0, .int .i64 0, .int .i64 0, .int .i64 0, .int .i64 0, .int .i64 0, .int .i64 0, .int .i64 0, .bool false, .slice none 0 0, .slice none 0 0, .slice none 0 0] * R)))))) := h2
  have hpn2 : p ≤ n := hat.1
  have kc1 := h2.blk.some_ (i := 1) rfl
  have kc2 := h2.blk.some_ (i := 2) rfl
  by_cases hOK : o3x = some []
  · have HD := hid (HD1.out ⟨[c0, c1, c2, c3, c4, c5, c6, c7, c8, c9, c10, c11], sb, l1, l2, l3⟩ (by rw [hD, hOK]; rfl))
    have hb2 := hat.2
    rw [hOK] at hb2
    obtain ⟨hbb, hdr⟩ := hb2
    simp only at hbb hdr
    have hpe : p = n := by
      have h5 := congrArg List.length hdr
      rw [List.length_nil, List.length_drop, HL.out] at h5
      omega
    have e5 : ((p : Int) != (n : Int)) = false := by simp; omega
    subst hbb
    have h3 := h2.pk6 [1, 5, 4, 3, 2]
    have h3 : Hold w0 wr (blkA 29 g7 #[.int .i64 c0, .int .i64 c1, .int .i64 c2, .int .i64 c3, .int .i64 c4, .int .i64 c5, .int .i64 c6, .int .i64 c7, .int .i64 c8, .int .i64 c9, .int .i64 c10, .int .i64 c11, .bool sb, .slice A1 l1.length k1, .slice A2v l2.length k2, .slice A3 l3.length k3] * (blkA 29 gs #[.int .i64 0, .int .i64 0, .int .i64 0, .int .i64 0, .int .i64 0, .int .i64 0, .int .i64 0, .int .i64 0, .int .i64 0, .int .i64 0, .int .i64 0, .int .i64 0, .bool false, .slice none 0 0, .slice none 0 0, .slice none 0 0] * (uvA (.slice A1 l1.length k1) l1 * (progA (.slice A2v l2.length k2) l2 * (ivA (.slice A3 l3.length k3) l3 * R))))) := h3
    have hne := Hold.blkNe h3
    clear hD hdr hpe hat h h2 hOK
    go_upto_region 41 with fail
    clear e5 kc1 kc2
    have h4 := h3.swap
    go_wp2_with (first | (refine wpList_load rfl 29 _ rfl g7 _ _ rfl Try.isAgg29 _ Try.sizeOf29 h3.blk rfl ?_) | (refine wpList_store rfl 29 _ _ rfl gs _ _ #[.int .i64 c0, .int .i64 c1, .int .i64 c2, .int .i64 c3, .int .i64 c4, .int .i64 c5, .int .i64 c6, .int .i64 c7, .int .i64 c8, .int .i64 c9, .int .i64 c10, .int .i64 c11, .bool sb, .slice A1 l1.length k1, .slice A2v l2.length k2, .slice A3 l3.length k3] rfl rfl _ Try.sizeOf29 h4 rfl rfl rfl ?_; intro y5 h5))
    clear h3 h4
    rw [HD.out]
    have hfin : Hid (DecPost w0 R (⟨[c0, c1, c2, c3, c4, c5, c6, c7, c8, c9, c10, c11], sb, l1, l2, l3⟩, 0) (.returned (.tuple #[scrV ⟨[c0, c1, c2, c3, c4, c5, c6, c7, c8, c9, c10, c11], sb, l1, l2, l3⟩ (.slice A1 l1.length k1) (.slice A2v l2.length k2) (.slice A3 l3.length k3), .int .i64 0])) y5) := hid ⟨_, _, _, rfl, h5.pk5 [2, 3, 4]⟩
    exact bodyPost_ret (results_blk Try.results15 _ rfl Try.isAgg29 _ Try.sizeOf29 h5.blk rfl) rfl hfin.out
  · have HD := hid (HD0.out (by
      rw [hD]
      cases o3x with
      | none => rfl
      | some r =>
        cases r with
        | nil => exact absurd rfl hOK
        | cons x t => rfl))
    have hcs : bb = true ∨ (bb = false ∧ ((p : Int) != (n : Int)) = true) := by
      have hb2 := hat.2
      cases o3x with
      | none => exact .inl hb2
      | some r =>
        refine .inr ⟨hb2.1, ?_⟩
        have h6 : r = bs.drop p := hb2.2
        have h7 : p ≠ n := fun h7 => hOK (by rw [h6, h7, ← HL.out, List.drop_length])
        simp
        omega
    have h6 : Hold w0 wr (blkA 29 gs #[.int .i64 0, .int .i64 0, .int .i64 0, .int .i64 0, .int .i64 0, .int .i64 0, .int .i64 0, .int .i64 0, .int .i64 0, .int .i64 0, .int .i64 0, .int .i64 0, .bool false, .slice none 0 0, .slice none 0 0, .slice none 0 0] * R) := h2.pk6 [5]
    clear hD hat h h2 hOK
    rcases hcs with rfl | ⟨rfl, e5⟩
    · go_upto_region 40 with fail
      clear kc1 kc2
      go_wp2_with (refine wpList_store rfl 29 _ _ rfl gs _ _ #[.int .i64 0, .int .i64 0, .int .i64 0, .int .i64 0, .int .i64 0, .int .i64 0, .int .i64 0, .int .i64 0, .int .i64 0, .int .i64 0, .int .i64 0, .int .i64 0, .bool false, .slice none 0 0, .slice none 0 0, .slice none 0 0] rfl rfl _ Try.sizeOf29 h6 rfl rfl rfl ?_; intro y5 h7)
      clear h6
      rw [HD.out]
      have hfin : Hid (DecPost w0 R (.zero, 30) (.returned (.tuple #[scrV .zero (.slice none 0 0) (.slice none 0 0) (.slice none 0 0), .int .i64 30])) y5) := hid ⟨_, _, _, rfl, h7.drop.zeroScr⟩
      exact bodyPost_ret (results_blk Try.results15 _ rfl Try.isAgg29 _ Try.sizeOf29 h7.blk rfl) rfl hfin.out
    · go_upto_region 40 with fail
      clear kc1 kc2 e5
      go_wp2_with (refine wpList_store rfl 29 _ _ rfl gs _ _ #[.int .i64 0, .int .i64 0, .int .i64 0, .int .i64 0, .int .i64 0, .int .i64 0, .int .i64 0, .int .i64 0, .int .i64 0, .int .i64 0, .int .i64 0, .int .i64 0, .bool false, .slice none 0 0, .slice none 0 0, .slice none 0 0] rfl rfl _ Try.sizeOf29 h6 rfl rfl rfl ?_; intro y5 h7)
      clear h6
      rw [HD.out]
      have hfin : Hid (DecPost w0 R (.zero, 30) (.returned (.tuple #[scrV .zero (.slice none 0 0) (.slice none 0 0) (.slice none 0 0), .int .i64 30])) y5) := hid ⟨_, _, _, rfl, h7.drop.zeroScr⟩
      exact bodyPost_ret (results_blk Try.results15 _ rfl Try.isAgg29 _ Try.sizeOf29 h7.blk rfl) rfl hfin.out
end Go.Proofs.Ytipafegiobnkpaa
