/- CodeDecodes. -/
import Derived.Test.YtipafegiobnkpaaAw
import Derived.Test.YtipafegiobnkpaaArg
import Derived.Deep.Upon
namespace Go.Proofs.Ytipafegiobnkpaa
open Go.RowKit
set_option linter.unusedVariables false

section
variable {w0 : World} {R : Asr}
theorem Hold.rowSCap {w : World} {e : TypeId} {size n c : Nat} {A : Option Addr} {xs : List Value} (h : Hold w0 w (Go.Proofs.Ytipafegiobnkpaa.rowS e size (.slice A n c) n xs * R)) : n ≤ c := by
  rcases h.rowS with ho | ⟨g, cs, hv, _⟩
  · rcases ho.2 with ⟨hv, h0⟩ | ⟨g, cap, cur, hv, hc, _⟩
    · omega
    · injection hv with _ _ h3; omega
  · injection hv with _ _ h3; omega
/-- append of a list, empty or not, that is read elsewhere. -/
theorem wpList_appA {P : Program} {W : World} {ops : Array Oper} {rest : List Oper} {o : Oper} {a : Act} {Q : Exit → Act → World → Prop} (hgd : o.guard = none) (s x : Operand) (t : TypeId)
    (ho : o.op = .call { callee := .builtin .append, args := #[s, x], argTypes := #[t, t] })
    (e : TypeId) (i : TypeInfo) (z : Value) (bytes : Nat) (ht : P.underlying t = some (.slice e)) (hi : P.info? e = some i) (hz : i.zero = some z)
    (hsize : i.size = 1) (hby : i.bytes = bytes) (hzs : z.cells.size = 1)
    (v : Value) (n : Nat) (xs us : List Value) (hs : a.eval s = v) (h : Hold w0 W (Go.Proofs.Ytipafegiobnkpaa.rowS e 1 v n xs * R))
    (A : Option Addr) (m c : Nat) (hx : a.eval x = .slice A m c) (b : Nat) (hr : Reads W b A m us) (h1 : ∀ u ∈ us, u.oneCell' = true) (hn : n + m ≤ 1000000000) (hb : bytes ≤ 4096)
    (K : ∀ A' c' w', Hold w0 w' (Go.Proofs.Ytipafegiobnkpaa.rowS e 1 (.slice A' (n + m) c') (n + m) (xs ++ us) * R) → wpList P ops Q rest (a.put o.dst (.slice A' (n + m) c')) w') :
    wpList P ops Q (o :: rest) a W := by
  rcases Nat.eq_zero_or_pos m with rfl | hm
  · obtain rfl : us = [] := List.length_eq_zero_iff.1 hr.len
    obtain ⟨A', c', rfl⟩ := h.rowSForm
    have hc := h.rowSCap
    have hsrc : Src P i.size t (.slice A 0 c) 0 [] W := by
      refine ⟨.inl ⟨e, ht⟩, fun w' => by simp [Builtin.lenOf], ?_, ?_, by simp, by simp⟩ <;> cases A <;> simp [Builtin.firstCells, loadCells, loadCellsFrom]
    have hrun := run_append_nothing (P := P) W t t o.type e i ht hi A' n c' hc (.slice A 0 c) hsrc
    refine wpList_plain hgd fun K' hK' => ?_
    unfold Oper.wp
    simp [execOp, ho, resolve, invoke, builtin, hs, hx, hrun, Result.andThen]
    have hK := K A' c' W (by simpa using h)
    exact hK' _ _ (by simpa using hK)
  · obtain ⟨ad, u, rfl, _⟩ := hr.at_ 0 hm
    refine wpList_appL hgd s x t ho e i z bytes ht hi hz hsize hby hzs v n xs us hs h ad m c hx hr.len (fun j u hj => ?_) h1 hm hn hb K
    have hj' : j < m := by rw [← hr.len]; exact (List.getElem?_eq_some_iff.1 hj).1
    obtain ⟨ad', u', h2, _, _, h3, h4⟩ := hr.at_ j hj'
    obtain rfl := Option.some.inj h2
    rw [h3] at hj
    obtain rfl := Option.some.inj hj
    exact h4
end
theorem mark5_lt : ∀ x ∈ mark5, x < 256 := by decide
set_option maxRecDepth 8000 in
set_option maxHeartbeats 16000000 in
theorem codeDecodes_any (w : World) (A : Option Addr) (n c b : Nat) (bs : List Nat) (hr : Reads w b A n (bv bs)) (hb : ∀ x ∈ bs, x < 256) (hl : bs.length = n) (hnc : n ≤ c) (hn9 : n ≤ 9223372036854775807) :
    Calls Try.prog 5 #[.slice A n c] w fun e w' => e = .returned (.bool true) ∧ Below w.heap.size w w' := by
  have hS : Still w Asr.emp ⟨A, n, c⟩ bs := fun w' q hw => ⟨b, hr.below hw.below⟩
  obtain ⟨i8, hi8, hz0, hz1, hz2⟩ := parts5 info_u8
  obtain ⟨bb, hbb⟩ : ∃ bb, bb = decide ((400 : Int) < (n : Int)) := ⟨_, rfl⟩
  cases bb with
  | true =>
    have e1 := hbb.symm
    clear hbb
    have HA := hid (awake_any w w Asr.emp (Hold.start w))
    go_enter Try.func5, Try.ntmps5
    go_wp2_with fail
    refine HA.out.mono ?_
    rintro e w1 ⟨rfl, h1⟩
    go_wp2_with fail
    go_ret
    exact ⟨rfl, h1.below⟩
  | false =>
  have e1 := hbb.symm
  have hn4 : n ≤ 400 := by
    have := of_decide_eq_false e1
    omega
  have hn : n ≤ 4611686018427387904 := by omega
  clear hbb
  have HD := hid (dec_got w w _ A n c bs (Hold.start w) hS hb hl hnc hn)
  go_enter Try.func5, Try.ntmps5
  go_wp2_with fail
  refine HD.out.mono ?_
  rintro e w1 ⟨V1, cs1, F1, rfl, hV1, hz1', ho1, h1, hr1⟩
  clear HD
  have h2 := h1.newBlk (t := 29) (cs := z16)
  unfold z16 at h2
  have H2 := hid h2
  clear h1 h2
  go_upto_region 4 with (refine wpList_store rfl 29 _ _ rfl w1.heap.size _ _ cs1 rfl rfl _ Try.sizeOf29 H2.out hz1' hz1' ho1 ?_; intro y1 h3)
  clear H2
  generalize w1.heap.size = g1 at h3 ⊢
  have HD := hid (rdec_got w y1 _ A n c bs h3 hS.under.under hb hl hnc hn)
  go_wp2_with fail
  refine HD.out.mono ?_
  rintro e w2 ⟨V2, cs2, F2, rfl, hV2, hz2', ho2, h4, hr2⟩
  clear HD h3
  have h5 := h4.newBlk (t := 29) (cs := z16)
  unfold z16 at h5
  have H5 := hid h5
  clear h4 h5
  go_upto_region 5 with (refine wpList_store rfl 29 _ _ rfl w2.heap.size _ _ cs2 rfl rfl _ Try.sizeOf29 H5.out hz2' hz2' ho2 ?_; intro y2 h6)
  clear H5
  generalize w2.heap.size = g2 at h6 ⊢
  have hcv : (convert 31 31 (.slice (some ⟨y2.heap.size, 0, none⟩) 4 4)).run Try.prog (y2.alloc (.cells #[.int .u8 83, .int .u8 84, .int .u8 88, .int .u8 49] 5)) =
      .ok (.slice (some ⟨y2.heap.size, 0, none⟩) 4 4) (y2.alloc (.cells #[.int .u8 83, .int .u8 84, .int .u8 88, .int .u8 49] 5 (4, 5))) :=
    Joins.run_convert_bytes_const_at _ _ _ _ _ _ _ (by simp) rfl rfl
  have h7 : Hold w _ (bufA (.slice (some ⟨y2.heap.size, 0, none⟩) 4 4) mark5 * _) := h6.markRow 5 #[.int .u8 83, .int .u8 84, .int .u8 88, .int .u8 49]
  have hr7 := hr.below h7.below
  go_upto_region 6 with (at_builtin; refine wpList_appA rfl _ _ 31 rfl 5 i8 (.int .u8 0) 1 Try.underlying31 hi8 hz0 hz1 hz2 rfl (.slice (some ⟨y2.heap.size, 0, none⟩) 4 4) 4 (bv mark5) (bv bs) rfl h7 A n c rfl b hr7 (by simp [bv, Value.oneCell']) (by omega) (by decide) ?_; intro A3 c3 y3 h8)
  clear hcv h7 hr7 h6
  have hlB : (mark5 ++ bs).length = 4 + n := by rw [List.length_append, hl]; rfl
  have hbB : ∀ x ∈ mark5 ++ bs, x < 256 := fun x hx => (List.mem_append.1 hx).elim (mark5_lt x) (hb x)
  have hc3 := h8.rowSCap
  have h8 : Hold w y3 (bufA (.slice A3 (4 + n) c3) (mark5 ++ bs) * (blkA 29 g2 cs2 * (F2 * (blkA 29 g1 cs1 * (F1 * Asr.emp))))) := by
    unfold bufA
    rw [hlB, show bv (mark5 ++ bs) = bv mark5 ++ bv bs by unfold bv; rw [List.map_append]]
    exact h8
  have HD := hid (dec_got w y3 _ A3 (4 + n) c3 (mark5 ++ bs) h8 (Hold.bufStill hlB) hbB hlB hc3 (by omega))
  clear h8
  go_wp2_with fail
  refine HD.out.mono ?_
  rintro e w3 ⟨V3, cs3, F3, rfl, hV3, hz3', ho3, h9, hr3⟩
  clear HD
  have h10 := h9.newBlk (t := 29) (cs := z16)
  unfold z16 at h10
  have H10 := hid h10
  clear h9 h10
  go_upto_region 7 with (refine wpList_store rfl 29 _ _ rfl w3.heap.size _ _ cs3 rfl rfl _ Try.sizeOf29 H10.out hz3' hz3' ho3 ?_; intro y4 h11)
  clear H10
  generalize w3.heap.size = g3 at h11 ⊢
  have HD := hid (rdec_got w y4 _ A3 (4 + n) c3 (mark5 ++ bs) h11 ((Hold.bufStill hlB).under.under) hbB hlB hc3 (by omega))
  clear h11
  go_wp2_with fail
  refine HD.out.mono ?_
  rintro e w4 ⟨V4, cs4, F4, rfl, hV4, hz4', ho4, h12, hr4⟩
  clear HD
  have h13 := h12.newBlk (t := 29) (cs := z16)
  unfold z16 at h13
  have H13 := hid h13
  clear h12 h13
  go_upto_region 8 with (refine wpList_store rfl 29 _ _ rfl w4.heap.size _ _ cs4 rfl rfl _ Try.sizeOf29 H13.out hz4' hz4' ho4 ?_; intro y5 h14)
  clear H13
  generalize w4.heap.size = g4 at h14 ⊢
  have hd1 := h14.drop.drop.drop.drop.drop
  have hok1 := dec_ok bs hb
  have hok2 := dec_ok (mark5 ++ bs) hbB
  have hE := script_eq y5 V1 V2 _ (hr1 _ _ hd1.drop.drop) (hr2 _ _ hd1) hok1.1.cf.1 hok1.1.five hok1.2.1
  rw [hV1, hV2] at hE
  have HE := hid hE
  clear hE
  generalize (decode5 bs).2 = r1 at *
  generalize (decode5 (mark5 ++ bs)).2 = r2 at *
  go_wp2_with (first | (refine wpList_load rfl 29 _ rfl g1 _ _ rfl Try.isAgg29 _ Try.sizeOf29 hd1.drop.drop.blk hz1' ?_) | (refine wpList_load rfl 29 _ rfl g2 _ _ rfl Try.isAgg29 _ Try.sizeOf29 hd1.blk hz2' ?_))
  refine HE.out.mono ?_
  rintro e w7 ⟨rfl, hc7⟩
  have h15 := h14.chg0 hc7
  clear HE hd1 h14 hc7
  have hE := script_eq w7 V3 V4 _ (hr3 _ _ h15.drop.drop) (hr4 _ _ h15) hok2.1.cf.1 hok2.1.five hok2.2.1
  rw [hV3, hV4] at hE
  have HE := hid hE
  clear hE
  go_wp2_with (first | (refine wpList_load rfl 29 _ rfl g3 _ _ rfl Try.isAgg29 _ Try.sizeOf29 h15.drop.drop.blk hz3' ?_) | (refine wpList_load rfl 29 _ rfl g4 _ _ rfl Try.isAgg29 _ Try.sizeOf29 h15.blk hz4' ?_))
  refine HE.out.mono ?_
  rintro e w8 ⟨rfl, hc8⟩
  have HA := hid (awake_any w w8 _ (h15.chg0 hc8))
  clear HE h15 hc8
  go_wp2_with fail
  refine HA.out.mono ?_
  rintro e w9 ⟨rfl, h16⟩
  go_wp2_with fail
  go_ret
  exact ⟨rfl, h16.below⟩
theorem IsRow.bytes {w : World} {a : Option Addr} {len cap : Nat} {zs : List Int} (h : IsRow .u8 w a len cap zs) : ∃ b bs, Reads w b a len (bv bs) ∧ (∀ x ∈ bs, x < 256) ∧ bs.length = len ∧ len ≤ cap ∧ len ≤ 9223372036854775807 ∧ (a = none → len = 0) := by
  have hr := h.reads
  have hwf := h.wf
  have hle := h.le
  have hbv : bv ((zs.take len).map Int.toNat) = (zs.take len).map (Value.int .u8) := by
    unfold bv
    rw [List.map_map]
    refine List.map_congr_left fun x hx => ?_
    have := hwf x (List.mem_of_mem_take hx)
    have h0 : 0 ≤ x := by simp [Lit.wf, IntKind.min, IntKind.max, IntKind.signed, IntKind.bits] at this; omega
    simp [Int.toNat_of_nonneg h0]
  refine ⟨_, (zs.take len).map Int.toNat, by rw [hbv]; exact hr, fun x hx => ?_, ?_, ?_, ?_, fun hn => ?_⟩
  · obtain ⟨y, hy, rfl⟩ := List.mem_map.1 hx
    have := hwf y (List.mem_of_mem_take hy)
    simp [Lit.wf, IntKind.min, IntKind.max, IntKind.signed, IntKind.bits] at this
    omega
  · have := hr.len
    rw [List.length_map] at this ⊢
    exact this
  · rcases h with ⟨_, rfl, rfl, _⟩ | ⟨_, _, hc, _⟩
    · exact Nat.le_refl _
    · exact hc
  · unfold maxLen at hle; omega
  · rcases h with ⟨_, rfl, _⟩ | ⟨_, h2, _⟩
    · rfl
    · rw [h2] at hn; cases hn
theorem codeDecodes_walk (a0 : Option Addr) (len0 cap0 : Nat) (z0 : List Int) (w : World) (w0 : IsRow .u8 w a0 len0 cap0 z0) :
    Calls Try.prog 5 #[.slice a0 len0 cap0] w fun e w' => e = .returned (.bool true) ∧ Below w.heap.size w w' := by
  obtain ⟨b, bs, h1, h2, h3, h4, h5, _⟩ := w0.bytes
  exact codeDecodes_any w a0 len0 cap0 b bs h1 h2 h3 h4 h5
end Go.Proofs.Ytipafegiobnkpaa
