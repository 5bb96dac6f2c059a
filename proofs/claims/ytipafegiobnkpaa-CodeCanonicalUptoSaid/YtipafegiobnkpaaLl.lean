/- CodeLimits. -/
import Derived.Test.YtipafegiobnkpaaAw
namespace Go.Proofs.Ytipafegiobnkpaa
open Go.RowKit
set_option linter.unusedVariables false

def sPicks (N : Nat) : Scr := ⟨List.replicate 12 0, false, [], [], List.replicate N 0⟩
theorem sPicks_ok {N : Nat} (hN : N ≤ 262123) : (sPicks N).ok := by
  refine ⟨⟨rfl, fun x hx => ?_⟩, (fun x hx => by cases hx), (fun x hx => by cases hx), fun x hx => ?_, ⟨by show 0 < _; omega, by show 0 < _; omega, by show (List.replicate N (0 : Int)).length < _; rw [List.length_replicate]; omega⟩⟩
  · rw [List.eq_of_mem_replicate hx]; unfold I64; omega
  · rw [List.eq_of_mem_replicate hx]; unfold I64; omega
theorem sPicks_fits {N : Nat} (hN : N ≤ 262123) : (sPicks N).fits := ⟨by show 0 ≤ _; omega, by show 0 ≤ _; omega, by show 0 ≤ _; omega, by show (List.replicate N (0 : Int)).length ≤ _; rw [List.length_replicate]; omega⟩
theorem zeros_dec : decode5 (List.replicate 262145 0) = (.zero, 3) := by
  unfold decode5
  rw [if_pos (by rw [List.length_replicate]; omega)]
theorem enc5_lt (s : Scr) : ∀ x ∈ (encode5 s).1, x < 256 := by
  unfold encode5
  split
  · intro x hx; cases hx
  · exact enc_byte s
theorem zeros_lt : ∀ x ∈ List.replicate 262145 0, x < 256 := fun x hx => by rw [List.eq_of_mem_replicate hx]; omega
theorem rowA_still {w0 : World} {R : Asr} {e : TypeId} {A : Option Addr} {c n : Nat} {bs : List Nat} {xs : List Value} (hx : xs = bv bs) : Still w0 (rowA e (.slice A n c) n xs * R) ⟨A, n, c⟩ bs := by
  subst hx
  intro w' q hw
  exact ⟨_, hw.drop.rowReads⟩
set_option maxRecDepth 8000 in
set_option maxHeartbeats 16000000 in
theorem codeLimits_walk (a0 : Int) (w : World) (w0 : (Lit.int .i64 a0).wf = true) :
    Calls Try.prog 8 #[.int .i64 a0] w fun e w' => e = .returned (.bool true) ∧ Below w.heap.size w w' := by
  have p0 := place_nonneg a0 3 (by omega)
  have p1 := place_lt a0 3 (by omega)
  obtain ⟨P, hP⟩ : ∃ P : Nat, place a0 3 = (P : Int) := ⟨(place a0 3).toNat, by omega⟩
  rw [hP] at p0 p1
  have hP3 : P < 3 := by omega
  have HP := hid (place_any w a0 3 (by omega) (by omega))
  rw [hP] at HP
  obtain ⟨i8, hi8, hz0, hz1, hz2⟩ := parts5 info_u8
  obtain ⟨iI, hiI, iz0, iz1, iz2⟩ := parts5 info_i64L
  have hst := Hold.start w
  clear hP p0
  go_enter Try.func8, Try.ntmps8
  go_wp2_with fail
  refine HP.out.mono ?_
  rintro e w' ⟨rfl, rfl⟩
  clear HP
  go_wp2_with (at_make; refine wpList_make_full _ rfl _ _ 27 rfl _ 3 iI (.int .i64 0) 1 Try.underlying27 hiI iz0 iz1 .i64 .i64 (262121 + (P : Int)) (262121 + (P : Int)) (262121 + P) rfl rfl (by omega) (by omega) (by rw [iz2]; omega) (by unfold maxLen; omega) (Nat.le_refl _) ?_)
  intro w1 hown hgrow
  have h1 := hst.make (k := .i64) hown hgrow (Nat.le_refl _)
  clear hown hgrow hst
  obtain ⟨N, hN⟩ : ∃ N, N = 262121 + P := ⟨_, rfl⟩
  rw [← hN] at h1 ⊢
  have hN3 : N ≤ 262123 := by omega
  clear hN hP3 p1
  generalize w.heap.size = gm at h1 ⊢
  have h2 := h1.newBlk (t := 29) (cs := z16)
  unfold z16 at h2
  have H2 := hid h2
  clear h1 h2
  obtain ⟨gs, hgs⟩ : ∃ g, g = w1.heap.size := ⟨_, rfl⟩
  rw [← hgs] at H2
  go_upto_region 3 with (rw [← hgs]; refine wpList_store rfl 29 _ _ rfl gs _ _ #[.int .i64 0, .int .i64 0, .int .i64 0, .int .i64 0, .int .i64 0, .int .i64 0, .int .i64 0, .int .i64 0, .int .i64 0, .int .i64 0, .int .i64 0, .int .i64 0, .bool false, .slice none 0 0, .slice none 0 0, .slice (some ⟨gm, 0, none⟩) N N] rfl rfl _ Try.sizeOf29 H2.out rfl rfl rfl ?_; intro y1 h3)
  clear H2
  try rw [← hgs]
  clear hgs
  have hsc : ∀ w' q, Hold w w' (q * (blkA 29 gs #[.int .i64 0, .int .i64 0, .int .i64 0, .int .i64 0, .int .i64 0, .int .i64 0, .int .i64 0, .int .i64 0, .int .i64 0, .int .i64 0, .int .i64 0, .int .i64 0, .bool false, .slice none 0 0, .slice none 0 0, .slice (some ⟨gm, 0, none⟩) N N] * (rowA 3 (.slice (some ⟨gm, 0, none⟩) N N) N ((List.replicate N (0 : Int)).map (Value.int .i64)) * Asr.emp))) → ScrR w' ⟨⟨none, 0, 0⟩, ⟨none, 0, 0⟩, ⟨some ⟨gm, 0, none⟩, N, N⟩, []⟩ (sPicks N) := fun w' q hw =>
    ⟨⟨0, Reads.nil _ _⟩, ⟨⟨0, Reads.nil _ _⟩, rfl, fun j v p h => by simp at h⟩, ⟨_, hw.drop.drop.rowReads⟩⟩
  have hok := sPicks_ok hN3
  have hfi := sPicks_fits hN3
  have HE := hid (enc_any w y1 _ ⟨⟨none, 0, 0⟩, ⟨none, 0, 0⟩, ⟨some ⟨gm, 0, none⟩, N, N⟩, []⟩ (sPicks N) h3 hsc hok hfi)
  have hrf : ∀ w' q, Hold w w' (q * (blkA 29 gs #[.int .i64 0, .int .i64 0, .int .i64 0, .int .i64 0, .int .i64 0, .int .i64 0, .int .i64 0, .int .i64 0, .int .i64 0, .int .i64 0, .int .i64 0, .int .i64 0, .bool false, .slice none 0 0, .slice none 0 0, .slice (some ⟨gm, 0, none⟩) N N] * (rowA 3 (.slice (some ⟨gm, 0, none⟩) N N) N ((List.replicate N (0 : Int)).map (Value.int .i64)) * Asr.emp))) → Calls Try.prog 11 #[ScV.val ⟨⟨none, 0, 0⟩, ⟨none, 0, 0⟩, ⟨some ⟨gm, 0, none⟩, N, N⟩, []⟩ (sPicks N)] w' fun e w'' => ∃ v', e = .returned (.tuple #[v', .int .i64 (encode5 (sPicks N)).2]) ∧ Hold w w'' (bufA v' (encode5 (sPicks N)).1 * (q * (blkA 29 gs #[.int .i64 0, .int .i64 0, .int .i64 0, .int .i64 0, .int .i64 0, .int .i64 0, .int .i64 0, .int .i64 0, .int .i64 0, .int .i64 0, .int .i64 0, .int .i64 0, .bool false, .slice none 0 0, .slice none 0 0, .slice (some ⟨gm, 0, none⟩) N N] * (rowA 3 (.slice (some ⟨gm, 0, none⟩) N N) N ((List.replicate N (0 : Int)).map (Value.int .i64)) * Asr.emp)))) := fun w' q hw =>
    rfenc_any w w' _ ⟨⟨none, 0, 0⟩, ⟨none, 0, 0⟩, ⟨some ⟨gm, 0, none⟩, N, N⟩, []⟩ (sPicks N) hw (fun w'' q' hw' => hsc w'' (q' * q) (hw'.imp (Imp.assoc' _ _ _))) hok hfi
  have HRF := hid hrf
  clear hrf
  have hlt := enc5_lt (sPicks N)
  go_wp2_with (refine wpList_load rfl 29 _ rfl gs _ _ rfl Try.isAgg29 _ Try.sizeOf29 h3.blk rfl ?_)
  refine HE.out.mono ?_
  rintro e w3 ⟨v1, rfl, h4⟩
  clear HE h3
  go_wp2_with (refine wpList_load rfl 29 _ rfl gs _ _ rfl Try.isAgg29 _ Try.sizeOf29 h4.drop.blk rfl ?_)
  refine (HRF.out w3 _ h4).mono ?_
  rintro e w4 ⟨v2, rfl, h5⟩
  clear HRF h4
  have HM := hid h5
  clear h5
  go_wp2_with (at_make; refine wpList_make_full _ rfl _ _ 31 rfl _ 5 i8 (.int .u8 0) 1 Try.underlying31 hi8 hz0 hz1 .i64 .i64 262145 262145 262145 rfl rfl (by omega) (by omega) (by rw [hz2]; omega) (by unfold maxLen; omega) (Nat.le_refl _) ?_)
  intro w5 hown hgrow
  have h6 := HM.out.make (k := .u8) hown hgrow (Nat.le_refl _)
  clear hown hgrow HM
  generalize w4.heap.size = gz at h6 ⊢
  have hD := dec_got w w5 _ (some ⟨gz, 0, none⟩) 262145 262145 (List.replicate 262145 0) h6 (rowA_still (by unfold bv; rw [List.map_replicate, List.map_replicate]; rfl)) zeros_lt List.length_replicate (Nat.le_refl _) (by omega)
  rw [zeros_dec] at hD
  have HD := hid hD
  clear hD h6
  go_wp2_with fail
  refine HD.out.mono ?_
  rintro e w6 ⟨V3, cs3, F3, rfl, hV3, hz3', ho3, h7, hr3⟩
  clear HD
  have h8 := h7.newBlk (t := 29) (cs := z16)
  unfold z16 at h8
  have H8 := hid h8
  clear h7 h8
  go_upto_region 6 with (refine wpList_store rfl 29 _ _ rfl w6.heap.size _ _ cs3 rfl rfl _ Try.sizeOf29 H8.out hz3' hz3' ho3 ?_; intro y6 h9)
  clear H8 hr3 hV3 hsc
  generalize w6.heap.size = g9 at h9 ⊢
  generalize (encode5 (sPicks N)).1 = L at h9 hlt ⊢
  generalize (encode5 (sPicks N)).2 = r at *
  have hb1 := h9.drop.drop.drop
  obtain ⟨A2, c2, rfl, hc2, f2⟩ := hb1.bufForm
  obtain ⟨A1, c1, rfl, hc1, f1⟩ := hb1.drop.bufForm
  obtain ⟨b1, hR1⟩ := hb1.drop.rowSReads
  obtain ⟨b2, hR2⟩ := hb1.rowSReads
  rw [Nat.mul_one] at hR1 hR2
  have hS := same_any y6 A1 A2 b1 b2 L.length L.length c1 c2 L L hR1 hR2 (fun h => by
    rcases f1 with ⟨_, rfl⟩ | ⟨g, rfl⟩
    · rfl
    · cases h) (fun h => by
    rcases f2 with ⟨_, rfl⟩ | ⟨g, rfl⟩
    · rfl
    · cases h) hlt hlt
  rw [show decide (L = L) = true from decide_eq_true rfl] at hS
  have HS := hid hS
  have HA := hid (awake_any w y6 _ h9)
  clear hS hb1 hR1 hR2 f1 f2 h9
  go_wp2_with fail
  refine HS.out.mono ?_
  rintro e w7 ⟨rfl, rfl⟩
  clear HS
  go_wp2_with fail
  refine HA.out.mono ?_
  rintro e w8 ⟨rfl, h10⟩
  clear HA
  go_wp2_with fail
  go_ret
  exact ⟨rfl, h10.below⟩
end Go.Proofs.Ytipafegiobnkpaa
