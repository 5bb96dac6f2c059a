/- Decode, of the program: bytes that begin well. -/
import Derived.Test.YtipafegiobnkpaaDl
namespace Go.Proofs.Ytipafegiobnkpaa
open Go.RowKit
set_option linter.unusedVariables false
set_option maxRecDepth 8000 in
set_option maxHeartbeats 8000000 in
theorem dec_good (w0 w : World) (R : Asr) (A : Option Addr) (n c : Nat) (bs : List Nat) (h : Hold w0 w R) (hS : Still w0 R ⟨A, n, c⟩ bs) (hb : ∀ x ∈ bs, x < 256) (hl : bs.length = n) (hbig : ¬ 262144 < n) (h4 : ¬ n < 4) (hmk : bs.take 4 = mark5) (hnc : n ≤ c) (hn : n ≤ 4611686018427387904) :
    Calls Try.prog 13 #[.slice A n c] w (DecPost w0 R (decode5 bs)) := by
  have hmf : ∀ (fn : Fn) (first cap : Array Value) (w : World), (Instr.makeFunc fn first cap).run Try.prog w = .ok (.func fn first cap) w := fun _ _ _ _ => rfl
  have HS := hid hS
  have HB := hid hb
  have HL := hid hl
  have h1 := (h.newBlk (t := 29) (cs := z16)).newBlk (t := 32) (cs := #[.int .i64 0])
  simp only [World.size_alloc] at h1
  have H1 := hid (h1.pk2 [1, 0])
  clear hS hb hl h h1
  have e1 : decide ((262144 : Int) < (n : Int)) = false := decide_eq_false (by omega)
  have e2 : decide ((n : Int) < 4) = false := decide_eq_false (by omega)
  have hsl : ∀ w, (Instr.slice 31 (.slice A n c) none (some (.int .i64 4)) none).run Try.prog w = .ok (.slice A 4 c) w := fun w => slice_headP 31 (by kernel_rfl) sz_u8 w A n c 4 (by omega)
  have h1 : Hold w0 _ (blkA 29 w.heap.size z16 * (blkA 32 (w.heap.size + 1) #[.int .i64 0] * R)) := H1.out
  obtain ⟨b, hr⟩ := HS.out _ _ h1.join
  simp only at hr
  obtain ⟨ad, hA, hb9, hc9⟩ := hr.cellAt (k := 0) (by omega)
  have hr4 := hr.take (k := 4) (by omega)
  rw [show (bv bs).take 4 = bv (bs.take 4) by unfold bv; rw [List.map_take]] at hr4
  have hcv := conv_bytes _ A b 4 c (bs.take 4) hr4 (fun h => by rw [hA] at h; cases h)
  unfold z16 at hcv
  have HA := hid hA
  have e3 : ((strB (bs.take 4)).toList == [83, 84, 88, 49]) = decide (bs.take 4 = mark5) := by
    have h9 := strB_beq (bs.take 4) mark5 (fun x hx => HB.out x (List.mem_of_mem_take hx)) (by decide)
    rw [strB_list mark5] at h9
    exact h9
  clear hc9
  clear hr hr4 h1 hA hb9
  rw [decide_eq_true hmk] at e3
  have hD0 : decode5 bs = match scrD (bs.drop 4) with
      | none => (.zero, 30)
      | some s => (s, 0) := by
    unfold decode5
    rw [if_neg (by rw [HL.out]; exact hbig), if_neg (by rw [HL.out]; exact fun h => h.elim h4 (fun h => h hmk))]
    rfl
  have HD0 : Hid (scrD (bs.drop 4) = none → decode5 bs = (.zero, 30)) := hid fun h => by rw [hD0, h]
  have HD1 : Hid (∀ s, scrD (bs.drop 4) = some s → decode5 bs = (s, 0)) := hid fun s h => by rw [hD0, h]
  clear hD0
  clear hmk
  have hsl2 : ∀ w, (Instr.slice 31 (.slice (some ad) n c) (some (.int .i64 4)) none none).run Try.prog w = .ok (.slice (if c = 4 then some ad else some (ad.add 4)) (n - 4) (c - 4)) w := fun w => slice_dropP 31 (by kernel_rfl) sz_u8 w ad n c 4 (by omega) hnc
  obtain ⟨A2, hA2⟩ : ∃ A2, A2 = if c = 4 then some ad else some (ad.add 4) := ⟨_, rfl⟩
  have HT : Hid (SlT ⟨A, n, c⟩ ⟨A2, n - 4, c - 4⟩ 4) := hid (by rw [hA2]; exact SlT.cut HA.out hnc (by simp only; omega))
  rw [← hA2] at hsl2
  rw [← HA.out] at hsl2
  clear hA2
  go_enter_defers Try.func13, Try.ntmps13
  go_upto_region 6 with fail
  have h1 := H1.out
  unfold z16 at h1
  generalize hW : World.alloc _ _ = W at h1 ⊢
  clear hW H1 hcv hsl e3
  generalize w.heap.size + 1 = ge at h1 ⊢
  generalize w.heap.size = gs at h1 ⊢
  have h1 : Hold w0 W (blkA 29 gs #[.int .i64 0, .int .i64 0, .int .i64 0, .int .i64 0, .int .i64 0, .int .i64 0, .int .i64 0, .int .i64 0, .int .i64 0, .int .i64 0, .int .i64 0, .int .i64 0, .bool false, .slice none 0 0, .slice none 0 0, .slice none 0 0] * (blkA 32 ge #[.int .i64 0] * R)) := h1
  obtain ⟨g, hg⟩ : ∃ g, g = W.heap.size := ⟨_, rfl⟩
  have h2 := (h1.newBlk (t := 67) (cs := #[.slice A2 (n - 4) (c - 4)])).newBlk (t := 66) (cs := #[.pointer (some ⟨W.heap.size, 0, none⟩)])
  simp only [World.size_alloc] at h2
  have hdl : n - 4 = (bs.drop 4).length := by rw [List.length_drop, HL.out]
  have h3 := hid (rdClose (bs := bs.drop 4) (all := bs) HT.out rfl hdl h2.swap)
  have HDL := hid hdl
  clear h1 h2 hdl
  go_wp2_with fail
  have h3 := h3.out
  generalize hW : World.alloc _ _ = W2 at h3 ⊢
  clear hW HT hsl2
  rw [← hg] at h3 ⊢
  clear hg
  generalize g + 1 = gw at h3 ⊢
  have hb4 : ∀ x ∈ bs.drop 4, x < 256 := fun x hx => HB.out x (List.mem_of_mem_drop hx)
  have hbl : (bs.drop 4).length ≤ 300000 := by rw [← HDL.out]; omega
  generalize bs.drop 4 = r0 at h3 hb4 hbl HD0 HD1 HDL
  clear HDL
  refine (rd_config w0 W2 _ _ bs g r0 h3 HS.out.under.under.under hb4).mono ?_
  intro e w3 hp
  clear h3
  cases hc : cfgD r0 with
  | none =>
    rw [hc] at hp
    obtain ⟨rfl, h4⟩ := hp
    have HN := hid (HD0.out (by unfold scrD; rw [hc]; rfl))
    have H4 := hid h4.drop
    clear hc h4
    go_wp2_with fail
    exact dec_thrown w0 w3 R gs ge _ _ _ _ _ _ _ _ _ _ _ _ _ _ _ _ _ _ _ _ bs H4.out HN.out
  | some y =>
    obtain ⟨⟨l, sb⟩, r1⟩ := y
    rw [hc] at hp
    obtain ⟨he, h4⟩ := hp
    obtain ⟨⟨hl12, _⟩, hr1⟩ := cfgD_inv hb4 hc
    have hb1 : ∀ x ∈ r1, x < 256 := fun x hx => hb4 x (by rw [hr1]; exact List.mem_append_right _ hx)
    have hbl1 : r1.length ≤ 300000 := by rw [hr1, List.length_append] at hbl; omega
    obtain ⟨c0, c1, c2, c3, c4, c5, c6, c7, c8, c9, c10, c11, hl⟩ := twelve hl12
    subst hl
    replace he : e = .returned (.agg #[.int .i64 c0, .int .i64 c1, .int .i64 c2, .int .i64 c3, .int .i64 c4, .int .i64 c5, .int .i64 c6, .int .i64 c7, .int .i64 c8, .int .i64 c9, .int .i64 c10, .int .i64 c11, .bool sb]) := he
    subst he
    have HC := hid hc
    have h5 : Hold w0 w3 (blkA 29 gs #[.int .i64 0, .int .i64 0, .int .i64 0, .int .i64 0, .int .i64 0, .int .i64 0, .int .i64 0, .int .i64 0, .int .i64 0, .int .i64 0, .int .i64 0, .int .i64 0, .bool false, .slice none 0 0, .slice none 0 0, .slice none 0 0] * (rdA ⟨A, n, c⟩ bs g r1 * (rcA gw g * (blkA 32 ge #[.int .i64 0] * R)))) := h4.pk4 [2, 0, 1, 3]
    obtain ⟨⟨x0, x1, x2, x3, x4, x5, x6, x7, x8, x9, x10, x11, x12, x13, x14, x15⟩, y0, y1, y2, y3, y4, y5, y6, y7, y8, y9, y10, y11, y12, y13, y14, y15⟩ := blk_16 h5.blk
    have k0 := h5.drop.drop.blk.some_ (i := 0) rfl
    have H6 := hid (h5.set13of16 (b0 := .int .i64 c0) (b1 := .int .i64 c1) (b2 := .int .i64 c2) (b3 := .int .i64 c3) (b4 := .int .i64 c4) (b5 := .int .i64 c5) (b6 := .int .i64 c6) (b7 := .int .i64 c7) (b8 := .int .i64 c8) (b9 := .int .i64 c9) (b10 := .int .i64 c10) (b11 := .int .i64 c11) (b12 := .bool sb))
    clear hc h4 h5 hr1
    go_upto_region 8 with fail
    have h6 := H6.out
    generalize hW : World.setCell _ _ _ = W6 at h6 ⊢
    clear hW H6 x0 x1 x2 x3 x4 x5 x6 x7 x8 x9 x10 x11 x12 x13 x14 x15 y0 y1 y2 y3 y4 y5 y6 y7 y8 y9 y10 y11 y12 y13 y14 y15 k0
    have k0 := h6.drop.drop.blk.some_ (i := 0) rfl
    have h7 : Hold w0 W6 (rdA ⟨A, n, c⟩ bs g r1 * (rcA gw g * (blkA 29 gs #[.int .i64 c0, .int .i64 c1, .int .i64 c2, .int .i64 c3, .int .i64 c4, .int .i64 c5, .int .i64 c6, .int .i64 c7, .int .i64 c8, .int .i64 c9, .int .i64 c10, .int .i64 c11, .bool sb, .slice none 0 0, .slice none 0 0, .slice none 0 0] * (blkA 32 ge #[.int .i64 0] * R)))) := h6.pk4 [1, 2, 0, 3]
    clear h6
    go_wp2_with fail
    refine (rd_listU w0 W6 _ _ bs g r1 h7 HS.out.under.under.under hb1 (by omega)).mono ?_
    intro e w4 hp
    clear h7 k0
    cases hi : listD decU r1 with
    | none =>
      rw [hi] at hp
      obtain ⟨rfl, h8⟩ := hp
      have HN := hid (HD0.out (by unfold scrD; rw [HC.out]; simp only [Option.bind_some]; rw [hi]; rfl))
      have H8 := hid h8.drop
      clear hi h8
      go_wp2_with fail
      exact dec_thrown w0 w4 R gs ge _ _ _ _ _ _ _ _ _ _ _ _ _ _ _ _ _ _ _ _ bs H8.out HN.out
    | some y =>
      obtain ⟨init, r2⟩ := y
      rw [hi] at hp
      obtain ⟨vI, rfl, h8⟩ := hp
      obtain ⟨AI, cI, rfl⟩ := h8.drop.rowSForm
      have hrb := rest_bytes (codecL codecU encU_pos) hb1 hi
      have hb2 := hrb.2.2
      have hbl2 : r2.length ≤ 300000 := by have := hrb.2.1; omega
      have HI := hid hi
      obtain ⟨nI, hnI⟩ : ∃ nI, nI = init.length := ⟨_, rfl⟩
      rw [← hnI] at h8 ⊢
      have HNI := hid hnI
      have h9 : Hold w0 w4 (blkA 29 gs #[.int .i64 c0, .int .i64 c1, .int .i64 c2, .int .i64 c3, .int .i64 c4, .int .i64 c5, .int .i64 c6, .int .i64 c7, .int .i64 c8, .int .i64 c9, .int .i64 c10, .int .i64 c11, .bool sb, .slice none 0 0, .slice none 0 0, .slice none 0 0] * (rdA ⟨A, n, c⟩ bs g r2 * (rcA gw g * (blkA 32 ge #[.int .i64 0] * (uvA (.slice AI nI cI) init * R))))) := h8.pk5 [3, 0, 2, 4, 1]
      have k0 := h9.drop.drop.blk.some_ (i := 0) rfl
      have k13 := h9.blk.some_ (i := 13) rfl
      have z13' := h9.blk.frozen 13
      have h10 : Hold w0 (w4.setCell ⟨gs, 13, none⟩ (.slice AI nI cI)) (blkA 29 gs #[.int .i64 c0, .int .i64 c1, .int .i64 c2, .int .i64 c3, .int .i64 c4, .int .i64 c5, .int .i64 c6, .int .i64 c7, .int .i64 c8, .int .i64 c9, .int .i64 c10, .int .i64 c11, .bool sb, .slice AI nI cI, .slice none 0 0, .slice none 0 0] * (rdA ⟨A, n, c⟩ bs g r2 * (rcA gw g * (blkA 32 ge #[.int .i64 0] * (uvA (.slice AI nI cI) init * R))))) := h9.setBlk 13 (.slice AI nI cI)
      have H10 := hid h10
      clear hi h8 h9 h10 hrb hnI
      go_upto_region 9 with fail
      have h10 := H10.out
      generalize hW : World.setCell _ _ _ = W10 at h10 ⊢
      clear hW H10 k13 z13' k0
      have k0 := h10.drop.drop.blk.some_ (i := 0) rfl
      have h11 : Hold w0 W10 (rdA ⟨A, n, c⟩ bs g r2 * (rcA gw g * (blkA 29 gs #[.int .i64 c0, .int .i64 c1, .int .i64 c2, .int .i64 c3, .int .i64 c4, .int .i64 c5, .int .i64 c6, .int .i64 c7, .int .i64 c8, .int .i64 c9, .int .i64 c10, .int .i64 c11, .bool sb, .slice AI nI cI, .slice none 0 0, .slice none 0 0] * (blkA 32 ge #[.int .i64 0] * (uvA (.slice AI nI cI) init * R))))) := h10.pk5 [1, 2, 0, 3, 4]
      clear h10
      go_wp2_with fail
      refine (rd_listP w0 W10 _ _ bs g gw r2 h11 HS.out.under.under.under hb2 (by omega)).mono ?_
      intro e w5 hp
      clear h11 k0
      cases hj : listD (listD insD) r2 with
      | none =>
        rw [hj] at hp
        obtain ⟨rfl, h12⟩ := hp
        have HN := hid (HD0.out (by unfold scrD; rw [HC.out]; simp only [Option.bind_some]; rw [HI.out]; simp only [Option.bind_some]; rw [hj]; rfl))
        have h12 : Hold w0 w5 (blkA 29 gs #[.int .i64 c0, .int .i64 c1, .int .i64 c2, .int .i64 c3, .int .i64 c4, .int .i64 c5, .int .i64 c6, .int .i64 c7, .int .i64 c8, .int .i64 c9, .int .i64 c10, .int .i64 c11, .bool sb, .slice AI nI cI, .slice none 0 0, .slice none 0 0] * (blkA 32 ge #[.int .i64 0] * R)) := h12.pk4 [1, 2]
        have H12 := hid h12
        clear hj h12
        go_wp2_with fail
        exact dec_thrown w0 w5 R gs ge _ _ _ _ _ _ _ _ _ _ _ _ _ _ _ _ _ _ _ _ bs H12.out HN.out
      | some y =>
        obtain ⟨progs, r3⟩ := y
        rw [hj] at hp
        obtain ⟨vP, rfl, h12⟩ := hp
        have hrb := rest_bytes (codecL codecLI (encL_pos _)) hb2 hj
        have hb3 := hrb.2.2
        have hbl3 : r3.length ≤ 300000 := by have := hrb.2.1; omega
        have HJ := hid hj
        obtain ⟨AP, cP, rfl⟩ : ∃ AP cP, vP = .slice AP progs.length cP := by
          obtain ⟨vs, hv⟩ := progOpen h12.drop
          exact hv.rowSForm
        obtain ⟨nP, hnP⟩ : ∃ nP, nP = progs.length := ⟨_, rfl⟩
        rw [← hnP] at h12 ⊢
        have HNP := hid hnP
        have h13 : Hold w0 w5 (blkA 29 gs #[.int .i64 c0, .int .i64 c1, .int .i64 c2, .int .i64 c3, .int .i64 c4, .int .i64 c5, .int .i64 c6, .int .i64 c7, .int .i64 c8, .int .i64 c9, .int .i64 c10, .int .i64 c11, .bool sb, .slice AI nI cI, .slice none 0 0, .slice none 0 0] * (rdA ⟨A, n, c⟩ bs g r3 * (rcA gw g * (blkA 32 ge #[.int .i64 0] * (uvA (.slice AI nI cI) init * (progA (.slice AP nP cP) progs * R)))))) := h12.pk6 [3, 0, 2, 4, 5, 1]
        have k0 := h13.drop.drop.blk.some_ (i := 0) rfl
        have k14 := h13.blk.some_ (i := 14) rfl
        have z14' := h13.blk.frozen 14
        have h14 : Hold w0 (w5.setCell ⟨gs, 14, none⟩ (.slice AP nP cP)) (blkA 29 gs #[.int .i64 c0, .int .i64 c1, .int .i64 c2, .int .i64 c3, .int .i64 c4, .int .i64 c5, .int .i64 c6, .int .i64 c7, .int .i64 c8, .int .i64 c9, .int .i64 c10, .int .i64 c11, .bool sb, .slice AI nI cI, .slice AP nP cP, .slice none 0 0] * (rdA ⟨A, n, c⟩ bs g r3 * (rcA gw g * (blkA 32 ge #[.int .i64 0] * (uvA (.slice AI nI cI) init * (progA (.slice AP nP cP) progs * R)))))) := h13.setBlk 14 (.slice AP nP cP)
        have H14 := hid h14
        clear hj h12 h13 h14 hrb hnP
        go_upto_region 10 with fail
        have h14 := H14.out
        generalize hW : World.setCell _ _ _ = W14 at h14 ⊢
        clear hW H14 k14 z14' k0
        have k0 := h14.drop.drop.blk.some_ (i := 0) rfl
        have h15 : Hold w0 W14 (rdA ⟨A, n, c⟩ bs g r3 * (rcA gw g * (blkA 29 gs #[.int .i64 c0, .int .i64 c1, .int .i64 c2, .int .i64 c3, .int .i64 c4, .int .i64 c5, .int .i64 c6, .int .i64 c7, .int .i64 c8, .int .i64 c9, .int .i64 c10, .int .i64 c11, .bool sb, .slice AI nI cI, .slice AP nP cP, .slice none 0 0] * (blkA 32 ge #[.int .i64 0] * (uvA (.slice AI nI cI) init * (progA (.slice AP nP cP) progs * R)))))) := h14.pk6 [1, 2, 0, 3, 4, 5]
        clear h14
        go_wp2_with fail
        refine (rd_listS w0 W14 _ _ bs g r3 h15 HS.out.under.under.under.under.under hb3 (by omega)).mono ?_
        intro e w6 hp
        clear h15 k0
        cases hk : listD decS r3 with
        | none =>
          rw [hk] at hp
          obtain ⟨rfl, h16⟩ := hp
          have HN := hid (HD0.out (by unfold scrD; rw [HC.out]; simp only [Option.bind_some]; rw [HI.out]; simp only [Option.bind_some]; rw [HJ.out]; simp only [Option.bind_some]; rw [hk]; rfl))
          have h17 : Hold w0 w6 (blkA 29 gs #[.int .i64 c0, .int .i64 c1, .int .i64 c2, .int .i64 c3, .int .i64 c4, .int .i64 c5, .int .i64 c6, .int .i64 c7, .int .i64 c8, .int .i64 c9, .int .i64 c10, .int .i64 c11, .bool sb, .slice AI nI cI, .slice AP nP cP, .slice none 0 0] * (blkA 32 ge #[.int .i64 0] * R)) := h16.pk5 [1, 2]
          have H17 := hid h17
          clear hk h16 h17
          go_wp2_with fail
          exact dec_thrown w0 w6 R gs ge _ _ _ _ _ _ _ _ _ _ _ _ _ _ _ _ _ _ _ _ bs H17.out HN.out
        | some y =>
          obtain ⟨picks, r4⟩ := y
          rw [hk] at hp
          obtain ⟨vQ, rfl, h16⟩ := hp
          obtain ⟨AQ, cQ, rfl⟩ := h16.drop.rowSForm
          have HK := hid hk
          obtain ⟨nQ, hnQ⟩ : ∃ nQ, nQ = picks.length := ⟨_, rfl⟩
          rw [← hnQ] at h16 ⊢
          have h17 : Hold w0 w6 (blkA 29 gs #[.int .i64 c0, .int .i64 c1, .int .i64 c2, .int .i64 c3, .int .i64 c4, .int .i64 c5, .int .i64 c6, .int .i64 c7, .int .i64 c8, .int .i64 c9, .int .i64 c10, .int .i64 c11, .bool sb, .slice AI nI cI, .slice AP nP cP, .slice none 0 0] * (rdA ⟨A, n, c⟩ bs g r4 * (rcA gw g * (blkA 32 ge #[.int .i64 0] * (uvA (.slice AI nI cI) init * (progA (.slice AP nP cP) progs * (ivA (.slice AQ nQ cQ) picks * R))))))) := h16.pk7 [3, 0, 2, 4, 5, 6, 1]
          have k15 := h17.blk.some_ (i := 15) rfl
          have z15' := h17.blk.frozen 15
          have h18 : Hold w0 (w6.setCell ⟨gs, 15, none⟩ (.slice AQ nQ cQ)) (blkA 29 gs #[.int .i64 c0, .int .i64 c1, .int .i64 c2, .int .i64 c3, .int .i64 c4, .int .i64 c5, .int .i64 c6, .int .i64 c7, .int .i64 c8, .int .i64 c9, .int .i64 c10, .int .i64 c11, .bool sb, .slice AI nI cI, .slice AP nP cP, .slice AQ nQ cQ] * (rdA ⟨A, n, c⟩ bs g r4 * (rcA gw g * (blkA 32 ge #[.int .i64 0] * (uvA (.slice AI nI cI) init * (progA (.slice AP nP cP) progs * (ivA (.slice AQ nQ cQ) picks * R))))))) := h17.setBlk 15 (.slice AQ nQ cQ)
          have H18 := hid h18
          clear hk h16 h17 h18 hnQ
          go_upto_region 11 with fail
          have h18 := H18.out
          generalize hW : World.setCell _ _ _ = W18 at h18 ⊢
          clear hW H18 k15 z15'
          have k0 := h18.drop.drop.blk.some_ (i := 0) rfl
          obtain ⟨Ar, cr, kr⟩ := rdLen h18.drop
          by_cases hr4 : r4 = []
          · have HD := hid (HD1.out ⟨[c0, c1, c2, c3, c4, c5, c6, c7, c8, c9, c10, c11], sb, init, progs, picks⟩ (by unfold scrD; rw [HC.out]; simp only [Option.bind_some]; rw [HI.out]; simp only [Option.bind_some]; rw [HJ.out]; simp only [Option.bind_some]; rw [HK.out]; simp only [Option.bind_some]; rw [if_pos hr4]))
            rw [hr4] at kr
            have h19 : Hold w0 W18 (blkA 29 gs #[.int .i64 c0, .int .i64 c1, .int .i64 c2, .int .i64 c3, .int .i64 c4, .int .i64 c5, .int .i64 c6, .int .i64 c7, .int .i64 c8, .int .i64 c9, .int .i64 c10, .int .i64 c11, .bool sb, .slice AI nI cI, .slice AP nP cP, .slice AQ nQ cQ] * (blkA 32 ge #[.int .i64 0] * (uvA (.slice AI nI cI) init * (progA (.slice AP nP cP) progs * (ivA (.slice AQ nQ cQ) picks * R))))) := h18.pk7 [0, 3, 4, 5, 6]
            obtain ⟨⟨x0, x1, x2, x3, x4, x5, x6, x7, x8, x9, x10, x11, x12, x13, x14, x15⟩, y0, y1, y2, y3, y4, y5, y6, y7, y8, y9, y10, y11, y12, y13, y14, y15⟩ := blk_16 h19.blk
            have u0 := h19.drop.blk.some_ (i := 0) rfl
            have v0 := h19.drop.blk.frozen 0
            have hne := Hold.blkNe h19
            have H20 := hid ((h19.set16 (b0 := .int .i64 c0) (b1 := .int .i64 c1) (b2 := .int .i64 c2) (b3 := .int .i64 c3) (b4 := .int .i64 c4) (b5 := .int .i64 c5) (b6 := .int .i64 c6) (b7 := .int .i64 c7) (b8 := .int .i64 c8) (b9 := .int .i64 c9) (b10 := .int .i64 c10) (b11 := .int .i64 c11) (b12 := .bool sb) (b13 := .slice AI nI cI) (b14 := .slice AP nP cP) (b15 := .slice AQ nQ cQ)).swap.setBlk 0 (.int .i64 0)).swap
            clear h18 h19 hr4
            rw [List.length_nil] at kr
            go_wp2_with fail
            have h20 := H20.out
            generalize hW : World.setCell _ _ _ = W20 at h20 ⊢
            clear hW H20 x0 x1 x2 x3 x4 x5 x6 x7 x8 x9 x10 x11 x12 x13 x14 x15 y0 y1 y2 y3 y4 y5 y6 y7 y8 y9 y10 y11 y12 y13 y14 y15 u0 v0 hne k0 kr
            exact dec_left w0 W20 R gs ge c0 c1 c2 c3 c4 c5 c6 c7 c8 c9 c10 c11 sb _ _ _ _ _ _ bs init progs picks h20 HD.out
          · have HN := hid (HD0.out (by unfold scrD; rw [HC.out]; simp only [Option.bind_some]; rw [HI.out]; simp only [Option.bind_some]; rw [HJ.out]; simp only [Option.bind_some]; rw [HK.out]; simp only [Option.bind_some]; rw [if_neg hr4]))
            have hlr : 0 < r4.length := List.length_pos_iff.2 hr4
            have e9 : decide ((0 : Int) < (r4.length : Int)) = true := decide_eq_true (by omega)
            have h19 : Hold w0 W18 (blkA 29 gs #[.int .i64 c0, .int .i64 c1, .int .i64 c2, .int .i64 c3, .int .i64 c4, .int .i64 c5, .int .i64 c6, .int .i64 c7, .int .i64 c8, .int .i64 c9, .int .i64 c10, .int .i64 c11, .bool sb, .slice AI nI cI, .slice AP nP cP, .slice AQ nQ cQ] * (blkA 32 ge #[.int .i64 0] * R)) := h18.pk7 [0, 3]
            have H19 := hid h19
            obtain ⟨m4, hm4⟩ : ∃ m, m = r4.length := ⟨_, rfl⟩
            rw [← hm4] at hlr e9 kr
            clear h18 h19 hr4 hm4
            go_wp2_with fail
            exact dec_thrown w0 W18 R gs ge _ _ _ _ _ _ _ _ _ _ _ _ _ _ _ _ _ _ _ _ bs H19.out HN.out
end Go.Proofs.Ytipafegiobnkpaa
