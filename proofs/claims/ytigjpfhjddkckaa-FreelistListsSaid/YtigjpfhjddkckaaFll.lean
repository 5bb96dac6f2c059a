/- strongtxlaw11: FreelistLists. -/
import Derived.Test.YtigjpfhjddkckaaFlw
import Derived.Test.YtigjpfhjddkckaaArg5
namespace Go.Proofs.Ytigjpfhjddkckaa
open Go.RowKit
set_option linter.unusedVariables false

theorem kfits_row {w : World} {v : Value} (h : KFits w 5 (.slice [.int .u64]) v) : ∃ (A : Option Addr) (n c b : Nat) (zs : List Int), v = .slice A n c ∧ zs.length = n ∧ Reads w b A n (zs.map (Value.int .u64)) ∧ n ≤ maxLen ∧ ∀ x ∈ zs, 0 ≤ x ∧ x < 18446744073709551616 := by
  obtain ⟨a, len, cap, rfl, h⟩ := h
  rcases h with ⟨rfl, rfl, rfl⟩ | ⟨x, rfl, h1, h2, h3⟩
  · exact ⟨none, 0, 0, 0, [], rfl, rfl, Reads.nil _ _, Nat.zero_le _, fun x hx => by cases hx⟩
  · have hf : ∀ i, ∃ z : Int, i < len → w.cell? (x.add i) = some (.int .u64 z) ∧ 0 ≤ z ∧ z < 18446744073709551616 := fun i => by
      by_cases hi : i < len
      · obtain ⟨u, hc, z, hz, hw⟩ := h3 i (by omega) 0 (.int .u64) rfl
        subst hz
        refine ⟨z, fun _ => ⟨?_, ?_⟩⟩
        · rw [show i * [Kd.int IntKind.u64].length + 0 = i by simp] at hc
          exact hc
        · have := bounds_u64 hw
          omega
      · exact ⟨0, fun h => absurd h hi⟩
    obtain ⟨g, hg⟩ := Classical.axiomOfChoice hf
    refine ⟨some x, len, cap, x.block, (List.range len).map g, rfl, by simp, ⟨by simp, fun k hk => ⟨x, .int .u64 (g k), rfl, rfl, ?_, by simp [hk], (hg k hk).1⟩⟩, by omega, fun y hy => ?_⟩
    · have := World.block_lt_of_cell? w _ (hg k hk).1
      rwa [block_of_add] at this
    · obtain ⟨k, hk, rfl⟩ := List.mem_map.1 hy
      exact (hg k (by simpa using hk)).2
theorem srcOld {w : World} {A7 A8 : Option Addr} {b7 b8 : Nat} {hs ns : List Int} (h7 : Reads w b7 A7 hs.length (hs.map (Value.int .u64))) (h8 : Reads w b8 A8 ns.length (ns.map (Value.int .u64))) (u7 : ∀ x ∈ hs, 0 ≤ x ∧ x < 18446744073709551616) (u8 : ∀ x ∈ ns, 0 ≤ x ∧ x < 18446744073709551616) (l7 : hs.length ≤ 1000) (l8 : ns.length ≤ 1000) : SrcI w Asr.emp A7 A8 hs ns :=
  ⟨fun w' R' h => ⟨_, h7.below h.below⟩, fun w' R' h => ⟨_, h8.below h.below⟩, u7, u8, l8, l7⟩
theorem srcOwn {w0 : World} {g7 g8 d7 d8 : Nat} {ha na : List Int} (h7 : ha.length = 4) (h8 : na.length = 6) (u7 : ∀ x ∈ ha, 0 ≤ x ∧ x < 18446744073709551616) (u8 : ∀ x ∈ na, 0 ≤ x ∧ x < 18446744073709551616) : SrcI w0 (rowA 48 (.slice (some ⟨g7, 0, none⟩) 4 d7) 4 (ha.map (Value.int .u64)) * rowA 48 (.slice (some ⟨g8, 0, none⟩) 6 d8) 6 (na.map (Value.int .u64))) (some ⟨g7, 0, none⟩) (some ⟨g8, 0, none⟩) ha na :=
  ⟨fun w' R' h => ⟨_, by have := h.part.rowReads; rw [h7]; exact this⟩, fun w' R' h => ⟨_, by have := h.part.swap.rowReads; rw [h8]; exact this⟩, u7, u8, by omega, by omega⟩
theorem chase_len {ns : List Int} : ∀ {f : Nat} {seen : List Bool} {k : Int} {l : List Int}, chase ns f seen k = some l → l.length ≤ f
  | 0, seen, k, l, h => by cases h
  | f + 1, seen, k, l, h => by
    unfold chase at h
    split at h
    · cases h; simp
    · split at h
      · cases h
      · cases hc : chase ns f (seen.set (k - 1).toNat true) (ns.getD (k - 1).toNat 0) with
        | none => rw [hc] at h; cases h
        | some l' =>
          rw [hc] at h
          have := chase_len hc
          cases h
          simp; omega
theorem listF_len (hs ns : List Int) (k : Int) : (listF hs ns k).1.length ≤ ns.length + 1 := by
  unfold listF
  split
  · simp
  · cases h : listR ns (hs.getD k.toNat 0 % 65536) with
    | none => simp [finR]
    | some l => exact chase_len h
theorem u64_set {l : List Int} {k : Nat} {v : Int} (h : ∀ x ∈ l, 0 ≤ x ∧ x < 18446744073709551616) (hv : 0 ≤ v ∧ v < 18446744073709551616) : ∀ x ∈ l.set k v, 0 ≤ x ∧ x < 18446744073709551616 := fun x hx => by
  rcases List.mem_or_eq_of_mem_set hx with h1 | h1
  · exact h x h1
  · rw [h1]; exact hv
set_option maxRecDepth 8000 in
set_option maxHeartbeats 16000000 in
theorem freelistLists_any (a0 a1 a2 a4 : Int) (v0 v1 v2 v3 v4 v5 : Value) (A7 A8 : Option Addr) (n7 n8 c7 c8 b7 b8 : Nat) (hs ns : List Int) (w : World) (h7 : Reads w b7 A7 n7 (hs.map (Value.int .u64))) (h8 : Reads w b8 A8 n8 (ns.map (Value.int .u64))) (k7 : hs.length = n7) (k8 : ns.length = n8) (u7 : ∀ x ∈ hs, 0 ≤ x ∧ x < 18446744073709551616) (u8 : ∀ x ∈ ns, 0 ≤ x ∧ x < 18446744073709551616) (hv : 0 ≤ a2 ∧ a2 < 18446744073709551616) (m7 : n7 ≤ maxLen) (m8 : n8 ≤ maxLen) :
    Calls Try.prog 4 #[.int .i64 a0, .int .i64 a1, .int .u64 a2, .agg #[v0, v1, v2, v3, v4, v5, .slice A7 n7 c7, .slice A8 n8 c8], .int .i64 a4] w (fun e w' => e = .returned (.bool true) ∧ Below w.heap.size w w') := by
  have H0 := hid ((Hold.start w).newBlk (t := 61) (cs := #[v0, v1, v2, v3, v4, v5, .slice A7 n7 c7, .slice A8 n8 c8]))
  have HR7 := hid h7
  have HR8 := hid h8
  have HU := hid (And.intro u7 u8)
  have HK := hid (And.intro k7 k8)
  clear h7 h8 u7 u8 k7 k8
  obtain ⟨tm, htm⟩ : ∃ tm, tm = decide (10 < (n7 : Int)) := ⟨_, rfl⟩
  obtain ⟨tn, htn⟩ : ∃ tn, tn = decide (40 < (n8 : Int)) := ⟨_, rfl⟩
  go_enter Try.func4, Try.ntmps4
  have b6 := H0.out.blk.some_ (i := 6) (u := .slice A7 n7 c7) rfl
  have b7' := H0.out.blk.some_ (i := 7) (u := .slice A8 n8 c8) rfl
  by_cases hb7 : 10 < n7
  · have e1 : decide (10 < (n7 : Int)) = true := decide_eq_true (by omega)
    clear htm htn
    go_wp2_with fail
    have h := H0.out
    refine (awake11_any w _ _ h).mono ?_
    rintro e v5 ⟨rfl, h6⟩
    have H6 := hid h6.below
    clear h h6
    go_wp2_with fail
    go_ret
    exact ⟨rfl, H6.out⟩
  have e1 : decide (10 < (n7 : Int)) = false := decide_eq_false (by omega)
  by_cases hb8 : 40 < n8
  · have e2 : decide (40 < (n8 : Int)) = true := decide_eq_true (by omega)
    clear htm htn
    go_wp2_with fail
    have h := H0.out
    refine (awake11_any w _ _ h).mono ?_
    rintro e v5 ⟨rfl, h6⟩
    have H6 := hid h6.below
    clear h h6
    go_wp2_with fail
    go_ret
    exact ⟨rfl, H6.out⟩
  have e2 : decide (40 < (n8 : Int)) = false := decide_eq_false (by omega)
  clear htm htn
  go_wp2_with fail
  refine (heap11_any w _ _ H0.out).mono ?_
  rintro e u1 ⟨rfl, h1⟩
  generalize w.heap.size = gi at h1 ⊢
  clear b6 b7' e1 e2 H0
  go_wp2_with fail
  refine (lab_start w _ _ cfH 1 cfH_ok (by decide) h1).mono ?_
  rintro e u2 ⟨m, r, rfl, h2⟩
  replace h2 : Hold w u2 (memA m (cH 1) * (refA r cfH (cH 1) * (blkA 61 gi #[v0, v1, v2, v3, v4, v5, .slice A7 n7 c7, .slice A8 n8 c8] * Asr.emp))) := h2
  have HV := hid (cH_fv (th := 1) (by decide))
  generalize cH 1 = C0 at h2 HV
  have H3 := hid ((h2.newBlk (t := 27) (cs := #[.pointer (some ⟨m, 0, none⟩), .pointer (some ⟨r, 0, none⟩)])).pk4 [1, 0, 3])
  clear h1 h2
  go_upto_region 6 with fail
  have h3 := H3.out
  generalize hW : World.alloc _ _ = W3 at h3 ⊢
  generalize u2.heap.size = gp at h3 ⊢
  clear hW H3
  have p0 := h3.drop.blk.some_ (i := 0) rfl
  go_wp2_with fail
  refine (image_any w _ _ m C0 h3 HV.out.ok).mono ?_
  rintro e wv4 ⟨y, rfl, h4⟩
  clear h3 p0
  obtain ⟨g7, d7, g8, d8, hs7, hs8, h5⟩ : ∃ (g7 d7 g8 d8 : Nat), slV C0 y 7 = .slice (some ⟨g7, 0, none⟩) 4 d7 ∧ slV C0 y 8 = .slice (some ⟨g8, 0, none⟩) 6 d8 ∧ Hold w wv4 (rowA 48 (.slice (some ⟨g7, 0, none⟩) 4 d7) 4 ((hs0).map (Value.int .u64)) * (rowA 48 (.slice (some ⟨g8, 0, none⟩) 6 d8) 6 ((ns0).map (Value.int .u64)) * (blkA 61 gi #[v0, v1, v2, v3, v4, v5, .slice A7 n7 c7, .slice A8 n8 c8] * Asr.emp))) := by
    have e7 : (C0 7).length = 4 := by rw [HV.out.h7]; rfl
    have e8 : (C0 8).length = 6 := by rw [HV.out.h8]; rfl
    have h5 : Hold w wv4 (cellK C0 y 7 * (cellK C0 y 8 * (blkA 61 gi #[v0, v1, v2, v3, v4, v5, .slice A7 n7 c7, .slice A8 n8 c8] * Asr.emp))) := h4.pk8 [3, 4, 7]
    unfold cellK numA slV at h5
    rw [e7, e8, HV.out.h7, HV.out.h8] at h5
    obtain ⟨g7, hA7, _⟩ := h5.setRow (k := 0) (by omega)
    obtain ⟨g8, hA8, _⟩ := h5.swap.setRow (k := 0) (by omega)
    rw [hA7, hA8] at h5
    exact ⟨g7, y.c 7, g8, y.c 8, by unfold slV; rw [e7, hA7], by unfold slV; rw [e8, hA8], h5⟩
  unfold imgV
  rw [hs7, hs8]
  unfold slV
  generalize y.A 1 = Z1
  generalize y.A 2 = Z2
  generalize y.A 6 = Z6
  generalize y.c 1 = e1
  generalize y.c 2 = e2
  generalize y.c 6 = e6
  generalize (C0 1).length = m1
  generalize (C0 2).length = m2
  generalize (C0 6).length = m6
  generalize w1 C0 3 = q3
  generalize w1 C0 4 = q4
  generalize w1 C0 5 = q5
  clear h4 hs7 hs8 HV
  have H6 := hid (h5.newBlk (t := 61) (cs := #[.slice Z1 m1 e1, .slice Z2 m2 e2, .int .u64 q3, .int .u64 q4, .int .u64 q5, .slice Z6 m6 e6, .slice (some ⟨g7, 0, none⟩) 4 d7, .slice (some ⟨g8, 0, none⟩) 6 d8]))
  clear h5
  go_upto_region 7 with fail
  have h6 := H6.out
  generalize hW : World.alloc _ _ = W6 at h6 ⊢
  generalize wv4.heap.size = gx at h6 ⊢
  clear hW H6
  have x6 := h6.blk.some_ (i := 6) (u := .slice (some ⟨g7, 0, none⟩) 4 d7) rfl
  have x7 := h6.blk.some_ (i := 7) (u := .slice (some ⟨g8, 0, none⟩) 6 d8) rfl
  go_upto_if 56 with fail
  clear x6 x7
  have L0 : hs0.length = 4 := rfl
  go_cut [12] (fun ok wx => ok = .bool true ∧ ∃ na : List Int, na.length = 6 ∧ (∀ x ∈ na, 0 ≤ x ∧ x < 18446744073709551616) ∧ Hold w wx (rowA 48 (.slice (some ⟨g8, 0, none⟩) 6 d8) 6 ((na).map (Value.int .u64)) * (blkA 61 gx #[.slice Z1 m1 e1, .slice Z2 m2 e2, .int .u64 q3, .int .u64 q4, .int .u64 q5, .slice Z6 m6 e6, .slice (some ⟨g7, 0, none⟩) 4 d7, .slice (some ⟨g8, 0, none⟩) 6 d8] * (rowA 48 (.slice (some ⟨g7, 0, none⟩) 4 d7) 4 ((hs0).map (Value.int .u64)) * (blkA 61 gi #[v0, v1, v2, v3, v4, v5, .slice A7 n7 c7, .slice A8 n8 c8] * Asr.emp)))))
  case first =>
    cases hd : decide (0 < a4.tmod 3)
    · go_wp2_with fail
      go_meet
      exact ⟨rfl, ns0, rfl, by decide, h6.pk3 [2, 0, 1]⟩
    · obtain ⟨pk, hpk⟩ : ∃ pk : Nat, place a1 6 = pk := ⟨(place a1 6).toNat, by have := place_nonneg a1 6 (by omega); omega⟩
      have pk6 : pk < 6 := by have := place_lt a1 6 (by omega); omega
      have pk0' : (0 : Int) ≤ (pk : Int) := by omega
      have pk6' : (pk : Int) < 6 := by omega
      have HPK := hid hpk
      clear hpk
      have h7 : Hold w W6 (rowA 48 (.slice (some ⟨g8, 0, none⟩) 6 d8) 6 ((ns0).map (Value.int .u64)) * (blkA 61 gx #[.slice Z1 m1 e1, .slice Z2 m2 e2, .int .u64 q3, .int .u64 q4, .int .u64 q5, .slice Z6 m6 e6, .slice (some ⟨g7, 0, none⟩) 4 d7, .slice (some ⟨g8, 0, none⟩) 6 d8] * (rowA 48 (.slice (some ⟨g7, 0, none⟩) 4 d7) 4 ((hs0).map (Value.int .u64)) * (blkA 61 gi #[v0, v1, v2, v3, v4, v5, .slice A7 n7 c7, .slice A8 n8 c8] * Asr.emp)))) := h6.pk3 [2, 0, 1]
      clear h6
      go_upto_region 10 with fail
      replace h7 := h7.drew
      refine wp_region_brk [7] (by kernel_rfl) ?_
      refine wpAnyB_now (fun w' => w'.cell? ⟨gx, 7, none⟩ = some (.slice (some ⟨g8, 0, none⟩) 6 d8)) (fun _ _ => trivial) _ _ _ _ ?_
      refine' wpAnyB_bulk [true, true, true, false, true, true] 122 (listed' := #[true, true, true, false, true, true, false, false]) rfl (by kernel_rfl) (by kernel_rfl) (by kernel_rfl) (by kernel_rfl) (by kernel_rfl) (by kernel_rfl) (by decide) (fun _ _ _ _ h => h) rfl (h7.drop.blk.some_ (i := 7) rfl) (fun wq hq => ?_) ?_; rotate_left 1
      · simp only [maskL]
        repeat (go_big_quiet_step (fail))
        exact wpQuiet_nil rfl
      refine wpAnyB_bar [false, false, false, true] (fuel := 2) (by rfl) (by rfl) (by kernel_rfl) (fun QB hQB hQX => ?_)
      simp only [maskL]
      go_wp2_with fail
      refine (place_any _ _ _ (by omega) (by omega)).mono ?_
      rintro e w' ⟨rfl, rfl⟩
      rw [HPK.out]
      go_wp2_with fail
      refine hQB.out _ _ (h7.drop.blk.some_ (i := 7) rfl) ?_
      clear hQB hQX QB
      refine' wpAnyB_bulk [false, false, false, false, false, false, true] 122 (listed' := #[true, true, true, true, true, true, true, false]) rfl (by kernel_rfl) (by kernel_rfl) (by kernel_rfl) (by kernel_rfl) (by kernel_rfl) (by kernel_rfl) (by decide) (fun _ _ _ _ h => h) rfl (h7.drop.blk.some_ (i := 7) rfl) (fun wq hq => ?_) ?_; rotate_left 1
      · simp only [maskL]
        repeat (go_big_quiet_step (fail))
        exact wpQuiet_nil rfl
      refine wpAnyB_brk [false, false, false, false, false, false, false, true] (fuel := 0) (by rfl) (by rfl) (by kernel_rfl) (by kernel_rfl) (fun QB hQB hQX => ?_)
      simp only [maskL]
      replace h7 := h7.undrew
      obtain ⟨gg, hg, hcv, hfv, hsv⟩ := h7.setRow pk6
      injection hg with hg
      injection hg with hg
      subst hg
      rw [List.getElem?_map, List.getElem?_eq_getElem (show pk < ns0.length from pk6)] at hcv
      obtain ⟨ov, hov⟩ : ∃ ov, W6.cell? ⟨g8, pk, none⟩ = some ov := ⟨_, hcv⟩
      have H8 := hid (hsv (.int .u64 (a2 % 9)))
      clear h7 hcv hsv
      go_wp2_with fail
      refine hQB.out _ _ ?_
      clear hQB hQX QB
      refine wpAnyB_forget (by kernel_rfl) ?_
      refine wpAnyB_done (by kernel_rfl) ?_ _
      have h8 := H8.out
      rw [← List.map_set] at h8
      clear hfv hov H8
      go_wp2_with fail
      go_meet
      exact ⟨rfl, ns0.set pk (a2 % 9), by simp; rfl, u64_set (by decide) (by omega), by first | exact h8 | exact h8.drew⟩
  case rest =>
  clear h6
  obtain ⟨rfl, na, nal, nau, h6⟩ := hcut
  have HNA := hid (And.intro nal nau)
  clear nal nau
  go_upto_if 66 with fail
  go_cut [12] (fun ok wx => ok = .bool true ∧ ∃ ha : List Int, ha.length = 4 ∧ (∀ x ∈ ha, 0 ≤ x ∧ x < 18446744073709551616) ∧ Hold w wx (rowA 48 (.slice (some ⟨g7, 0, none⟩) 4 d7) 4 ((ha).map (Value.int .u64)) * (blkA 61 gx #[.slice Z1 m1 e1, .slice Z2 m2 e2, .int .u64 q3, .int .u64 q4, .int .u64 q5, .slice Z6 m6 e6, .slice (some ⟨g7, 0, none⟩) 4 d7, .slice (some ⟨g8, 0, none⟩) 6 d8] * (rowA 48 (.slice (some ⟨g8, 0, none⟩) 6 d8) 6 ((na).map (Value.int .u64)) * (blkA 61 gi #[v0, v1, v2, v3, v4, v5, .slice A7 n7 c7, .slice A8 n8 c8] * Asr.emp)))))
  case first =>
    cases hd : decide (1 < a4.tmod 3)
    · go_wp2_with fail
      go_meet
      exact ⟨rfl, hs0, rfl, by decide, h6.pk3 [2, 1, 0]⟩
    · obtain ⟨pk, hpk⟩ : ∃ pk : Nat, place (wrap64 (a1.tdiv 6)) 4 = pk := ⟨(place (wrap64 (a1.tdiv 6)) 4).toNat, by have := place_nonneg (wrap64 (a1.tdiv 6)) 4 (by omega); omega⟩
      have pk6 : pk < 4 := by have := place_lt (wrap64 (a1.tdiv 6)) 4 (by omega); omega
      have pk0' : (0 : Int) ≤ (pk : Int) := by omega
      have pk6' : (pk : Int) < 4 := by omega
      have HPK := hid hpk
      clear hpk
      have h7 : Hold w wc (rowA 48 (.slice (some ⟨g7, 0, none⟩) 4 d7) 4 ((hs0).map (Value.int .u64)) * (blkA 61 gx #[.slice Z1 m1 e1, .slice Z2 m2 e2, .int .u64 q3, .int .u64 q4, .int .u64 q5, .slice Z6 m6 e6, .slice (some ⟨g7, 0, none⟩) 4 d7, .slice (some ⟨g8, 0, none⟩) 6 d8] * (rowA 48 (.slice (some ⟨g8, 0, none⟩) 6 d8) 6 ((na).map (Value.int .u64)) * (blkA 61 gi #[v0, v1, v2, v3, v4, v5, .slice A7 n7 c7, .slice A8 n8 c8] * Asr.emp)))) := h6.pk3 [2, 1, 0]
      clear h6
      go_upto_region 12 with fail
      replace h7 := h7.drew
      refine wp_region_brk [7] (by kernel_rfl) ?_
      refine wpAnyB_now (fun w' => w'.cell? ⟨gx, 6, none⟩ = some (.slice (some ⟨g7, 0, none⟩) 4 d7)) (fun _ _ => trivial) _ _ _ _ ?_
      refine' wpAnyB_bulk [true, true, true, true, false, true] 122 (listed' := #[true, true, true, true, false, true, false, false]) rfl (by kernel_rfl) (by kernel_rfl) (by kernel_rfl) (by kernel_rfl) (by kernel_rfl) (by kernel_rfl) (by decide) (fun _ _ _ _ h => h) rfl (h7.drop.blk.some_ (i := 6) rfl) (fun wq hq => ?_) ?_; rotate_left 1
      · simp only [maskL]
        repeat (go_big_quiet_step (fail))
        exact wpQuiet_nil rfl
      refine wpAnyB_bar [false, false, false, false, true] (fuel := 2) (by rfl) (by rfl) (by kernel_rfl) (fun QB hQB hQX => ?_)
      simp only [maskL]
      go_wp2_with fail
      refine (place_any _ _ _ (by omega) (by omega)).mono ?_
      rintro e w' ⟨rfl, rfl⟩
      rw [HPK.out]
      go_wp2_with fail
      refine hQB.out _ _ (h7.drop.blk.some_ (i := 6) rfl) ?_
      clear hQB hQX QB
      refine' wpAnyB_bulk [false, false, false, false, false, false, true] 122 (listed' := #[true, true, true, true, true, true, true, false]) rfl (by kernel_rfl) (by kernel_rfl) (by kernel_rfl) (by kernel_rfl) (by kernel_rfl) (by kernel_rfl) (by decide) (fun _ _ _ _ h => h) rfl (h7.drop.blk.some_ (i := 6) rfl) (fun wq hq => ?_) ?_; rotate_left 1
      · simp only [maskL]
        repeat (go_big_quiet_step (fail))
        exact wpQuiet_nil rfl
      refine wpAnyB_brk [false, false, false, false, false, false, false, true] (fuel := 0) (by rfl) (by rfl) (by kernel_rfl) (by kernel_rfl) (fun QB hQB hQX => ?_)
      simp only [maskL]
      replace h7 := h7.undrew
      obtain ⟨gg, hg, hcv, hfv, hsv⟩ := h7.setRow pk6
      injection hg with hg
      injection hg with hg
      subst hg
      rw [List.getElem?_map, List.getElem?_eq_getElem (show pk < hs0.length from pk6)] at hcv
      obtain ⟨ov, hov⟩ : ∃ ov, wc.cell? ⟨g7, pk, none⟩ = some ov := ⟨_, hcv⟩
      have H8 := hid (hsv (.int .u64 a2))
      clear h7 hcv hsv
      go_wp2_with fail
      refine hQB.out _ _ ?_
      clear hQB hQX QB
      refine wpAnyB_forget (by kernel_rfl) ?_
      refine wpAnyB_done (by kernel_rfl) ?_ _
      have h8 := H8.out
      rw [← List.map_set] at h8
      clear hfv hov H8
      go_wp2_with fail
      go_meet
      exact ⟨rfl, hs0.set pk a2, by simp; rfl, u64_set (by decide) hv, by first | exact h8 | exact h8.drew⟩
  case rest =>
  clear h6
  obtain ⟨rfl, ha, hal, hau, h6⟩ := hcut
  have SRCX := hid (srcOwn (w0 := w) (g7 := g7) (g8 := g8) (d7 := d7) (d8 := d8) hal HNA.out.1 hau HNA.out.2)
  have n8b : n8 ≤ 40 := by omega
  rw [← HK.out.1] at hb7
  rw [← HK.out.2] at hb8
  have SRCG := hid (srcOld (A7 := A7) (A8 := A8) (by rw [HK.out.1]; exact HR7.out) (by rw [HK.out.2]; exact HR8.out) HU.out.1 HU.out.2 (by omega) (by omega))
  have HAL := hid hal
  have h7 : Hold w wc ((rowA 48 (.slice (some ⟨g7, 0, none⟩) 4 d7) 4 (ha.map (Value.int .u64)) * rowA 48 (.slice (some ⟨g8, 0, none⟩) 6 d8) 6 (na.map (Value.int .u64))) * (blkA 61 gx #[.slice Z1 m1 e1, .slice Z2 m2 e2, .int .u64 q3, .int .u64 q4, .int .u64 q5, .slice Z6 m6 e6, .slice (some ⟨g7, 0, none⟩) 4 d7, .slice (some ⟨g8, 0, none⟩) 6 d8] * (blkA 61 gi #[v0, v1, v2, v3, v4, v5, .slice A7 n7 c7, .slice A8 n8 c8] * Asr.emp))) := (h6.pk3 [0, 2, 1]).join
  obtain ⟨k, hk⟩ : ∃ k : Int, k = place a0 6 - 1 := ⟨_, rfl⟩
  have HKK := hid hk
  have kb : -1 ≤ k ∧ k < 5 := by have := place_nonneg a0 6 (by omega); have := place_lt a0 6 (by omega); omega
  clear h6 hau hal hk hb7 hb8 HR7 HR8 HU
  go_wp2_with fail
  refine (place_any _ _ _ (by omega) (by omega)).mono ?_
  rintro e w' ⟨rfl, rfl⟩
  rw [show place a0 6 = k + 1 by rw [HKK.out]; omega]
  clear HKK
  obtain ⟨b0, b1, b2, b3, b4, b5, b6, b7⟩ := blk8 h7.drop.blk
  go_wp2_with fail
  have hl := list_any w wc _ _ (.slice Z1 m1 e1) (.slice Z2 m2 e2) (.int .u64 q3) (.int .u64 q4) (.int .u64 q5) (.slice Z6 m6 e6) (some ⟨g7, 0, none⟩) (some ⟨g8, 0, none⟩) d7 d8 ha na k SRCX.out h7
  rw [HAL.out, HNA.out.1] at hl
  refine hl.mono ?_
  clear hl b0 b1 b2 b3 b4 b5 b6 b7
  have HLX := hid (listF_len ha na k)
  obtain ⟨LX, hLX⟩ : ∃ LX, LX = listF ha na k := ⟨_, rfl⟩
  rw [← hLX] at HLX ⊢
  have HEX := hid hLX
  clear hLX
  rintro e w1 ⟨P1, s1, rfl, h8⟩
  have h9 := h8.swap
  obtain ⟨b0, b1, b2, b3, b4, b5, b6, b7⟩ := blk8 h8.drop.drop.blk
  clear h7 h8
  go_wp2_with fail
  have hl := rlist_any w w1 _ _ (.slice Z1 m1 e1) (.slice Z2 m2 e2) (.int .u64 q3) (.int .u64 q4) (.int .u64 q5) (.slice Z6 m6 e6) (some ⟨g7, 0, none⟩) (some ⟨g8, 0, none⟩) d7 d8 ha na k SRCX.out h9
  rw [HAL.out, HNA.out.1, ← HEX.out] at hl
  refine hl.mono ?_
  clear hl b0 b1 b2 b3 b4 b5 b6 b7
  rintro e w2 ⟨P2, s2, rfl, h10⟩
  obtain ⟨b0, b1, b2, b3, b4, b5, b6, b7⟩ := blk8 h10.drop.drop.drop.drop.blk
  have h11 := h10.imp (Imp.intro_emp _)
  clear h9 h10
  go_wp2_with fail
  have hl := list_any w w2 _ _ v0 v1 v2 v3 v4 v5 A7 A8 c7 c8 hs ns k SRCG.out h11
  rw [HK.out.1, HK.out.2] at hl
  refine hl.mono ?_
  clear hl b0 b1 b2 b3 b4 b5 b6 b7
  have HLG := hid (listF_len hs ns k)
  obtain ⟨LG, hLG⟩ : ∃ LG, LG = listF hs ns k := ⟨_, rfl⟩
  rw [← hLG] at HLG ⊢
  have HEG := hid hLG
  clear hLG
  rintro e w3 ⟨P3, s3, rfl, h12⟩
  have h13 := h12.swap
  obtain ⟨b0, b1, b2, b3, b4, b5, b6, b7⟩ := blk8 h12.drop.drop.drop.drop.drop.drop.blk
  clear h11 h12
  go_wp2_with fail
  have hl := rlist_any w w3 _ _ v0 v1 v2 v3 v4 v5 A7 A8 c7 c8 hs ns k SRCG.out h13
  rw [HK.out.1, HK.out.2, ← HEG.out] at hl
  refine hl.mono ?_
  clear hl b0 b1 b2 b3 b4 b5 b6 b7
  rintro e w4 ⟨P4, s4, rfl, h14⟩
  clear h13
  have r4 := h14.rowReads
  have r3 := h14.drop.drop.rowReads
  have r2 := h14.drop.drop.drop.rowReads
  have r1 := h14.drop.drop.drop.drop.drop.rowReads
  have R34 := hid (And.intro r3 r4)
  have R12 := hid (And.intro r1 r2)
  have H14 := hid h14
  have lxb := HLX.out
  have lgb := HLG.out
  rw [HNA.out.1] at lxb
  rw [HK.out.2] at lgb
  obtain ⟨nx, hnx⟩ : ∃ nx, nx = LX.1.length := ⟨_, rfl⟩
  obtain ⟨ng, hng⟩ : ∃ ng, ng = LG.1.length := ⟨_, rfl⟩
  rw [← hnx] at lxb R12 ⊢
  rw [← hng] at lgb R34 ⊢
  clear r1 r2 r3 r4 h14 hnx hng
  have en : (LX.2 == LX.2) = true := by simp
  have eg : (LG.2 == LG.2) = true := by simp
  go_wp2_with fail
  refine (ints_any _ _ _ nx nx _ _ _ _ LX.1 LX.1 R12.out.1 R12.out.2 (by omega)).mono ?_
  rintro e w5 ⟨rfl, q, rfl⟩
  rw [show decide (LX.1 = LX.1) = true by simp]
  go_wp2_with fail
  refine (ints_any _ _ _ ng ng _ _ _ _ LG.1 LG.1 (R34.out.1.drewN q) (R34.out.2.drewN q) (by omega)).mono ?_
  rintro e w6 ⟨rfl, q', rfl⟩
  rw [show decide (LG.1 = LG.1) = true by simp]
  go_wp2_with fail
  first
    | (have h := H14.out.drewN (q + q'); refine (awake11_any w _ _ h).mono ?_)
    | (have h := H14.out.drewN (q' + q); refine (awake11_any w _ _ h).mono ?_)
  rintro e w7 ⟨rfl, h6⟩
  have H6 := hid h6.below
  clear h h6
  go_wp2_with fail
  go_ret
  exact ⟨rfl, H6.out⟩
end Go.Proofs.Ytigjpfhjddkckaa
