/- CodeCanonical. -/
import Derived.Test.YtipafegiobnkpaaLct
import Derived.Test.YtipafegiobnkpaaReg3
import Derived.Laws.Closers25b
namespace Go.Proofs.Ytipafegiobnkpaa
open Go.RowKit
set_option linter.unusedVariables false

theorem Hold.cellsRow {w0 w : World} {R : Asr} (h : Hold w0 w R) (e : TypeId) (C : Array Value) (n : Nat) (hn : C.size = n) (hm : n ≤ maxLen) : Hold w0 (w.alloc (.cells C e)) (Go.Proofs.Ytipafegiobnkpaa.rowS e 1 (.slice (some ⟨w.heap.size, 0, none⟩) n n) n C.toList * R) := by
  subst hn
  exact h.new ((Chg.refl _ _).alloc _) ⟨.inl ⟨by simp, .inr ⟨_, C.size, C, rfl, Nat.zero_le _, heap_alloc_new w _, Nat.le_refl _, hm, by simp, by rw [Nat.mul_one, ← Array.length_toList, List.take_length]⟩⟩, rfl⟩ (by rw [fpV_some]; simp)
set_option maxRecDepth 8000 in
set_option maxHeartbeats 16000000 in
theorem codeCanonical_any (w : World) (V : ScV) (s : Scr) (A : Option Addr) (n c b : Nat) (bs : List Nat) (at_ by_ : Int) (hrd : Reads w b A n (bv bs)) (hb : ∀ x ∈ bs, x < 256) (hl : bs.length = n) (hnc : n ≤ c) (hn9 : n ≤ 9223372036854775807) (hzn : A = none → n = 0) (wat : (Lit.int .i64 at_).wf = true) (wby : (Lit.int .i64 by_).wf = true) (hr : ScrR w V s) (ok : s.ok) (hm : (s.progs.map List.length).sum ≤ 1048576) (nI : V.i.n = s.init.length) (nP : V.p.n = s.progs.length) (nQ : V.q.n = s.picks.length)
    (mI : s.init.length ≤ maxLen) (mP : s.progs.length ≤ maxLen) (mQ : s.picks.length ≤ maxLen) :
    Calls Try.prog 7 #[.slice A n c, V.val s, .int .i64 at_, .int .i64 by_] w fun e w' => e = .returned (.bool true) ∧ Below w.heap.size w w' := by
  obtain ⟨cs, hV, hsz, c13, c14, c15⟩ := V.arr s ok.cf.1
  rw [hV]
  have h1 := (Hold.start w).newBlk (t := 29) (cs := cs)
  obtain ⟨b0, hb0⟩ : ∃ b, b = decide ((400 : Int) < (n : Int)) := ⟨_, rfl⟩
  obtain ⟨b1, hb1⟩ : ∃ b, b = decide ((20 : Int) < (V.i.n : Int)) := ⟨_, rfl⟩
  obtain ⟨b2, hb2⟩ : ∃ b, b = decide ((5 : Int) < (V.p.n : Int)) := ⟨_, rfl⟩
  obtain ⟨b3, hb3⟩ : ∃ b, b = decide ((20 : Int) < (V.q.n : Int)) := ⟨_, rfl⟩
  have k13 := h1.blk.some_ c13
  have k14 := h1.blk.some_ c14
  have k15 := h1.blk.some_ c15
  have HA := hid (awake_any w _ _ h1)
  have HR := hid hr
  have HV := hid hV
  have H1 := hid h1
  clear h1 hV hr
  obtain ⟨⟨AI, lI, cI⟩, ⟨AP, lP, cP⟩, ⟨AQ, lQ, cQ⟩, vs⟩ := V
  simp only [SlV.v] at nI nP nQ hb1 hb2 hb3 k13 k14 k15
  subst nI nP nQ
  have HC := hid (And.intro c13 (And.intro c14 c15))
  clear c13 c14 c15
  by_cases hbig : b0 = true ∨ b1 = true ∨ b2 = true ∨ b3 = true
  · have hd : (b0 = true) ∨ (b0 = false ∧ b1 = true) ∨ (b0 = false ∧ b1 = false ∧ b2 = true) ∨ (b0 = false ∧ b1 = false ∧ b2 = false ∧ b3 = true) := by
      revert hbig; cases b0 <;> cases b1 <;> cases b2 <;> cases b3 <;> decide
    clear hbig
    rcases hd with rfl | ⟨rfl, rfl⟩ | ⟨rfl, rfl, rfl⟩ | ⟨rfl, rfl, rfl, rfl⟩
    all_goals replace hb0 := hb0.symm
    all_goals first | (replace hb1 := hb1.symm) | skip
    all_goals first | (replace hb2 := hb2.symm) | skip
    all_goals first | (replace hb3 := hb3.symm) | skip
    all_goals go_enter Try.func7, Try.ntmps7
    all_goals go_wp2_with fail
    all_goals refine HA.out.mono ?_
    all_goals rintro e w1 ⟨rfl, h2⟩
    all_goals go_wp2_with fail
    all_goals go_ret
    all_goals exact ⟨rfl, h2.below⟩
  · obtain rfl : b0 = false := by cases b0 <;> simp_all
    obtain rfl : b1 = false := by cases b1 <;> simp_all
    obtain rfl : b2 = false := by cases b2 <;> simp_all
    obtain rfl : b3 = false := by cases b3 <;> simp_all
    replace hb0 := hb0.symm
    replace hb1 := hb1.symm
    replace hb2 := hb2.symm
    replace hb3 := hb3.symm
    have ln : n ≤ 400 := by have := of_decide_eq_false hb0; omega
    have lI : s.init.length ≤ 20 := by have := of_decide_eq_false hb1; omega
    have lP : s.progs.length ≤ 5 := by have := of_decide_eq_false hb2; omega
    have lQ : s.picks.length ≤ 20 := by have := of_decide_eq_false hb3; omega
    have hf : s.fits := fits_of (a := 20) (b := 5) (c := 20) lI lP lQ (hm := hm)
    clear HA hbig
    go_enter Try.func7, Try.ntmps7
    go_upto_region 3 with fail
    have h1 := H1.out
    generalize hW : w.alloc (Obj.cells cs 29) = W at h1 ⊢
    clear hW H1 k13 k14 k15 hb0 hb1 hb2 hb3
    generalize hg : w.heap.size = g at h1 ⊢
    clear hg
    obtain ⟨i8, hi8, hz0, hz1, hz2⟩ := parts5 info_u8
    have HSb : Hid (∀ R, Still w R ⟨A, n, c⟩ bs) := hid fun R w' q hw => ⟨b, hrd.below hw.below⟩
    have hcv : (convert 31 31 (.slice (some ⟨W.heap.size, 0, none⟩) 4 4)).run Try.prog (W.alloc (.cells #[.int .u8 83, .int .u8 84, .int .u8 88, .int .u8 49] 5)) =
        .ok (.slice (some ⟨W.heap.size, 0, none⟩) 4 4) (W.alloc (.cells #[.int .u8 83, .int .u8 84, .int .u8 88, .int .u8 49] 5 (4, 5))) :=
      Joins.run_convert_bytes_const_at _ _ _ _ _ _ _ (by simp) rfl rfl
    have h7 : Hold w _ (bufA (.slice (some ⟨W.heap.size, 0, none⟩) 4 4) mark5 * _) := h1.markRow 5 #[.int .u8 83, .int .u8 84, .int .u8 88, .int .u8 49]
    have hr7 := hrd.below h7.below
    go_upto_region 4 with (at_builtin; refine wpList_appA rfl _ _ 31 rfl 5 i8 (.int .u8 0) 1 Try.underlying31 hi8 hz0 hz1 hz2 rfl (.slice (some ⟨W.heap.size, 0, none⟩) 4 4) 4 (bv mark5) (bv bs) rfl h7 A n c rfl b hr7 (by simp [bv, Value.oneCell']) (by omega) (by decide) ?_; intro A3 c3 y3 h8)
    clear hcv h7 hr7 h1
    have hlB : (mark5 ++ bs).length = 4 + n := by rw [List.length_append, hl]; rfl
    have hbB : ∀ x ∈ mark5 ++ bs, x < 256 := fun x hx => (List.mem_append.1 hx).elim (mark5_lt x) (hb x)
    have hc3 := h8.rowSCap
    have h8 : Hold w y3 (bufA (.slice A3 (4 + n) c3) (mark5 ++ bs) * (blkA 29 g cs * Asr.emp)) := by
      unfold bufA
      rw [hlB, show bv (mark5 ++ bs) = bv mark5 ++ bv bs by unfold bv; rw [List.map_append]]
      exact h8
    obtain ⟨_, _, e8, _, f8⟩ := h8.bufForm
    have hz8 : A3 = none → 4 + n = 0 := fun h => by
      rcases f8 with ⟨_, h0⟩ | ⟨g', h0⟩
      · rw [h0] at hlB; exact hlB.symm
      · injection e8 with e8; rw [e8, h0] at h; cases h
    have HY1 : Hid (Byt w (bufA (.slice A3 (4 + n) c3) (mark5 ++ bs) * (blkA 29 g cs * Asr.emp)) (.slice A3 (4 + n) c3)) := hid ⟨A3, 4 + n, c3, _, rfl, Hold.bufStill hlB, hbB, hlB, hc3, by omega, hz8⟩
    have HY0 : Hid (∀ R, Byt w R (.slice A n c)) := hid fun R => ⟨A, n, c, bs, rfl, HSb.out R, hb, hl, hnc, by omega, hzn⟩
    clear f8 e8 hz8 HSb
    generalize mark5 ++ bs = B1 at *
    have h9 := h8.cellsRow 31 #[.slice A n c, .slice A3 (4 + n) c3] 2 rfl (by unfold maxLen; omega)
    generalize hW2 : World.alloc _ _ = W2 at h9 ⊢
    generalize y3.heap.size = gl at h9 ⊢
    clear hW2 h8
    have HE := hid (enc_any w W2 _ _ s h9 (fun w' q hw => HR.out.still hw) ok hf)
    by_cases hbb : 262144 < s.bytes.length
    · rw [enc5_big hbb, HV.out] at HE
      go_wp2_with (refine wpList_load rfl 29 _ rfl g _ _ rfl Try.isAgg29 _ Try.sizeOf29 h9.drop.drop.blk hsz ?_)
      refine HE.out.mono ?_
      rintro e w4 ⟨v1, rfl, h10⟩
      clear HE h9
      obtain ⟨A1, c1, rfl, hc1, f1⟩ := h10.bufForm
      have h11 := h10.drop
      have hB : ∀ v ∈ [.slice A n c, .slice A3 (4 + n) c3], Byt w (bufA (.slice A3 (4 + n) c3) B1 * (blkA 29 g cs * Asr.emp)) v := fun v hv => by
        rcases List.mem_cons.1 hv with rfl | hv
        · exact HY0.out _
        · rw [List.mem_singleton.1 hv]; exact HY1.out
      have HB := hid hB
      clear f1 h10 hB
      go_upto_region 5 with fail
      iterate 21 (first | go_values | go_skip | go_guarded | go_step | go_upon | go_back)
      exact canon_tail h11 HB.out (by omega)
    rw [enc5_good hbb, HV.out] at HE
    have hlb := enc_byte s
    have hbn : s.bytes.length ≤ 262144 := by omega
    have hb0 : 0 < s.bytes.length := by unfold Scr.bytes; rw [List.length_append]; show 0 < 4 + _; omega
    generalize s.bytes = L at *
    go_wp2_with (refine wpList_load rfl 29 _ rfl g _ _ rfl Try.isAgg29 _ Try.sizeOf29 h9.drop.drop.blk hsz ?_)
    refine HE.out.mono ?_
    rintro e w4 ⟨v1, rfl, h10⟩
    clear HE h9 hbb
    obtain ⟨A1, c1, rfl, hc1, f1⟩ := h10.bufForm
    have e5 : decide ((0 : Int) < (L.length : Int)) = true := decide_eq_true (by omega)
    have e5' : decide (0 < L.length) = true := decide_eq_true hb0
    clear f1
    have p0 := place_nonneg at_ (L.length : Int) (by omega)
    have p1 := place_lt at_ (L.length : Int) (by omega)
    obtain ⟨p, hp⟩ : ∃ p : Nat, place at_ (L.length : Int) = (p : Int) := ⟨(place at_ (L.length : Int)).toNat, by omega⟩
    have q0 := place_nonneg by_ 8 (by omega)
    have q1 := place_lt by_ 8 (by omega)
    obtain ⟨q, hq⟩ : ∃ q : Nat, place by_ 8 = (q : Int) := ⟨(place by_ 8).toNat, by omega⟩
    rw [hp] at p0 p1
    rw [hq] at q0 q1
    have hpn : p < L.length := by omega
    obtain ⟨gc, hgc, hcell0, hfz, hset⟩ := h10.setRowS hpn
    subst hgc
    obtain ⟨x, hx⟩ : ∃ x, x = L[p] := ⟨_, rfl⟩
    have hx2 : x < 256 := by rw [hx]; exact hlb _ (List.getElem_mem hpn)
    have hcell : w4.cell? ⟨gc, p, none⟩ = some (.int .u8 (x : Int)) := by rw [hcell0, hx]; simp [bv, hpn]
    have HSET := hid hset
    clear hset hx hcell0
    go_upto_region 6 with fail
    refine wp_region_brk [12] (by kernel_rfl) ?_
    refine wpAnyB_now (fun w' => w'.cell? ⟨gc, p, none⟩ = some (.int .u8 (x : Int)) ∧ w'.frozen? ⟨gc, p, none⟩ = false) (fun _ _ => trivial) _ _ _ _ ?_
    refine' wpAnyB_bulk [true, true, true, true, true, true, true, true, true, true, true, true] 106 (listed' := #[true, true, true, true, true, true, true, true, true, true, true, true, false]) rfl (by kernel_rfl) (by kernel_rfl) (by kernel_rfl) (by kernel_rfl) (by kernel_rfl) (by kernel_rfl) (by decide) (fun _ _ _ _ h => h) rfl ⟨hcell, hfz⟩ (fun wq hq => ?_) ?_; rotate_left 1
    · simp only [maskL]
      obtain ⟨k1, k2⟩ := hq
      repeat (first | go_big_quiet_step (fail) | (go_big_quiet_want; go_big_quiet_op; apply Exists.intro; refine ⟨?_, ?_⟩; (exact (place_any _ _ _ (by omega) (by omega)).mono fun e w' h => ⟨h.1, h.2.symm⟩); go_big_quiet_on))
      exact wpQuiet_nil rfl
    refine wpAnyB_brk [false, false, false, false, false, false, false, false, false, false, false, false, true] (fuel := 0) (by rfl) (by rfl) (by kernel_rfl) (by kernel_rfl) (fun QB hQB hQX => ?_)
    simp only [maskL]
    obtain ⟨z, hz⟩ : ∃ z : Nat, bits BinOp.xor IntKind.u8 (x : Int) (2 ^ q % 256) = (z : Int) := ⟨_, (Int.toNat_of_nonneg (bits_lo_u8 _ _ _)).symm⟩
    have hz2 : z < 256 := by
      have := bits_hi_u8 BinOp.xor (x : Int) (2 ^ q % 256)
      omega
    rw [hz, hp, hq]
    clear hz hp hq
    have h12 := (HSET.out (.int .u8 (z : Int))).drew
    rw [bv_set] at h12
    have H12 := hid h12
    clear h12 HSET
    go_wp2_with fail
    refine hQB.out _ _ ?_
    refine wpAnyB_forget (by kernel_rfl) ?_
    refine wpAnyB_done (by kernel_rfl) ?_ _
    go_upto_region 7 with fail
    have h12 := H12.out
    generalize hW : World.drew _ = W5 at h12 ⊢
    clear hW H12 h10 hcell hfz
    obtain ⟨C, hC⟩ : ∃ C, C = L.set p z := ⟨_, rfl⟩
    rw [← hC] at h12
    have hCl : C.length = L.length := by rw [hC, List.length_set]
    have hCb : ∀ y ∈ C, y < 256 := by
      rw [hC]
      intro y hy
      rcases List.mem_or_eq_of_mem_set hy with h | h
      · exact hlb y h
      · rw [h]; exact hz2
    clear hC
    have h12 : Hold w W5 (bufA (.slice (some ⟨gc, 0, none⟩) L.length c1) C * (rowS 31 1 (.slice (some ⟨gl, 0, none⟩) 2 2) 2 [.slice A n c, .slice A3 (4 + n) c3] * (bufA (.slice A3 (4 + n) c3) B1 * (blkA 29 g cs * Asr.emp)))) := by
      unfold bufA at h12 ⊢
      rw [hCl]; exact h12
    have h13 := h12.swap
    have hYc : Byt w (bufA (.slice (some ⟨gc, 0, none⟩) L.length c1) C * (bufA (.slice A3 (4 + n) c3) B1 * (blkA 29 g cs * Asr.emp))) (.slice (some ⟨gc, 0, none⟩) L.length c1) := ⟨_, _, _, C, rfl, Hold.bufStill hCl, hCb, hCl, hc1, by omega, fun h => by cases h⟩
    have hB : ∀ v ∈ [.slice A n c, .slice A3 (4 + n) c3] ++ [.slice (some ⟨gc, 0, none⟩) L.length c1], Byt w (bufA (.slice (some ⟨gc, 0, none⟩) L.length c1) C * (bufA (.slice A3 (4 + n) c3) B1 * (blkA 29 g cs * Asr.emp))) v := fun v hv => by
      rcases List.mem_cons.1 hv with rfl | hv
      · exact HY0.out _
      rcases List.mem_cons.1 hv with rfl | hv
      · exact HY1.out.under
      · rw [List.mem_singleton.1 hv]; exact hYc
    have HB := hid hB
    obtain ⟨iL, hiL, lz0, lz1, lz2⟩ := parts5 (z := .slice none 0 0) (s := 1) (b := 24) (oi := Try.prog.info? 31) (by kernel_rfl)
    clear hCl hCb hB hYc h12 hlb
    go_wp2_with (at_builtin; refine wpList_app rfl _ _ 43 rfl 31 iL (.slice none 0 0) 1 24 Try.underlying43 hiL lz0 lz1 lz2 rfl (by decide) (.slice (some ⟨gl, 0, none⟩) 2 2) 2 [.slice A n c, .slice A3 (4 + n) c3] [.slice (some ⟨gc, 0, none⟩) L.length c1] _ rfl h13 _ rfl rfl rfl rfl (by omega) (by decide) ?_)
    intro A6 c6 W6 h14
    iterate 6 (first | go_values | go_skip | go_guarded | go_step | go_upon | go_back)
    exact canon_tail h14 HB.out (by omega)
theorem codeCanonical_walk (a0 : Option Addr) (len0 cap0 : Nat) (z0 : List Int) (x0 x1 x2 x3 x4 x5 x6 x7 x8 x9 x10 x11 : Int) (x12 : Bool) (v13 v14 v15 : Value) (at_ by_ : Int) (w : World) (wr : IsRow .u8 w a0 len0 cap0 z0) (w0 : (Lit.int .i64 x0).wf = true) (w1 : (Lit.int .i64 x1).wf = true) (w2 : (Lit.int .i64 x2).wf = true) (w3 : (Lit.int .i64 x3).wf = true) (w4 : (Lit.int .i64 x4).wf = true) (w5 : (Lit.int .i64 x5).wf = true) (w6 : (Lit.int .i64 x6).wf = true) (w7 : (Lit.int .i64 x7).wf = true) (w8 : (Lit.int .i64 x8).wf = true) (w9 : (Lit.int .i64 x9).wf = true) (w10 : (Lit.int .i64 x10).wf = true) (w11 : (Lit.int .i64 x11).wf = true)
    (k13 : KFits w 5 (.slice [.int .u64]) v13) (k14 : KFits w 5 (.slice [.slice [.int .i64, .int .i64, .int .i64, .int .i64, .int .i64]]) v14) (k15 : KFits w 5 (.slice [.int .i64]) v15) (hL : LensLe w v14 1048576) (wat : (Lit.int .i64 at_).wf = true) (wby : (Lit.int .i64 by_).wf = true) :
    Calls Try.prog 7 #[.slice a0 len0 cap0, .agg #[.int .i64 x0, .int .i64 x1, .int .i64 x2, .int .i64 x3, .int .i64 x4, .int .i64 x5, .int .i64 x6, .int .i64 x7, .int .i64 x8, .int .i64 x9, .int .i64 x10, .int .i64 x11, .bool x12, v13, v14, v15], .int .i64 at_, .int .i64 by_] w fun e w' => e = .returned (.bool true) ∧ Below w.heap.size w w' := by
  obtain ⟨V, s, hv, hr, ok, hm, n1, n2, n3, m1, m2, m3⟩ := open_script w x0 x1 x2 x3 x4 x5 x6 x7 x8 x9 x10 x11 x12 v13 v14 v15 w0 w1 w2 w3 w4 w5 w6 w7 w8 w9 w10 w11 k13 k14 k15 hL
  obtain ⟨b, bs, hrd, hb, hl, hnc, hn9, hzn⟩ := wr.bytes
  rw [hv]
  exact codeCanonical_any w V s a0 len0 cap0 b bs at_ by_ hrd hb hl hnc hn9 hzn wat wby hr ok hm n1 n2 n3 m1 m2 m3
end Go.Proofs.Ytipafegiobnkpaa
