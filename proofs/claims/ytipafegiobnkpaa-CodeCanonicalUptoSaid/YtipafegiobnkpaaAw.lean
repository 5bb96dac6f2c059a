/- The sanity check of the law's package: a script is written and read. -/
import Derived.Test.YtipafegiobnkpaaLd
import Derived.Test.YtipafegiobnkpaaWb
import Derived.Test.YtipafegiobnkpaaCp
namespace Go.Proofs.Ytipafegiobnkpaa
open Go.RowKit
set_option linter.unusedVariables false

def s5 : Scr := ⟨List.replicate 12 0, false, [300], [], [-1]⟩
theorem s5_ok : s5.ok := ⟨⟨rfl, fun x hx => by have := List.eq_of_mem_replicate hx; subst this; unfold I64; omega⟩, fun x hx => by rw [List.mem_singleton.1 hx]; omega, (fun x hx => by cases hx), fun x hx => by rw [List.mem_singleton.1 hx]; unfold I64; omega, ⟨by show 1 < _; omega, by show 0 < _; omega, by show 1 < _; omega⟩⟩
theorem s5_fits : s5.fits := ⟨by show 1 ≤ _; omega, by show 0 ≤ _; omega, by show 0 ≤ _; omega, by show 1 ≤ _; omega⟩
theorem s5_bytes : s5.bytes = [83, 84, 88, 49, 0, 0, 0, 0, 0, 0, 0, 0, 0, 0, 0, 0, 0, 1, 172, 2, 0, 1, 1] := by
  have e0 : encU 0 = [0] := encU_lt (by decide)
  have e1 : encU 1 = [1] := encU_lt (by decide)
  have e3 : encU 300 = [172, 2] := by rw [encU_ge (by decide), encU_lt (by decide)]
  have i0 : encS 0 = [0] := e0
  have i1 : encS (-1) = [1] := e1
  simp [Scr.bytes, Scr.body, s5, mark5, encC, encI, encL, List.replicate, e0, e1, e3, i0, i1]
theorem s5_enc : encode5 s5 = ([83, 84, 88, 49, 0, 0, 0, 0, 0, 0, 0, 0, 0, 0, 0, 0, 0, 1, 172, 2, 0, 1, 1], 0) := by
  unfold encode5
  rw [s5_bytes, if_neg (by decide)]
theorem s5_dec : decode5 [83, 84, 88, 49, 0, 0, 0, 0, 0, 0, 0, 0, 0, 0, 0, 0, 0, 1, 172, 2, 0, 1, 1] = (s5, 0) := by
  rw [← s5_bytes, dec_bytes s5 s5_ok (by rw [s5_bytes]; decide)]
def b23 : List Nat := [83, 84, 88, 49, 0, 0, 0, 0, 0, 0, 0, 0, 0, 0, 0, 0, 0, 1, 172, 2, 0, 1, 1]
theorem b23_lt : ∀ x ∈ b23, x < 256 := by decide
theorem Hold.bufStill {w0 : World} {R : Asr} {A : Option Addr} {c : Nat} {bs : List Nat} {n : Nat} (hn : bs.length = n) : Still w0 (bufA (.slice A n c) bs * R) ⟨A, n, c⟩ bs := by
  subst hn
  intro w' q hw
  have := hw.drop.rowSReads
  rwa [Nat.mul_one] at this
/-- What an owned slice of bytes is. -/
theorem Hold.bufForm {w0 w : World} {R : Asr} {v : Value} {bs : List Nat} (h : Hold w0 w (bufA v bs * R)) : ∃ A c, v = .slice A bs.length c ∧ bs.length ≤ c ∧ ((A = none ∧ bs = []) ∨ ∃ g, A = some ⟨g, 0, none⟩) := by
  rcases h.rowS with ho | ⟨g, cs, rfl, _⟩
  · rcases ho.2 with ⟨rfl, h0⟩ | ⟨g, cap, cur, rfl, hc, _⟩
    · exact ⟨none, 0, by rw [h0], by omega, .inl ⟨rfl, List.length_eq_zero_iff.1 h0⟩⟩
    · exact ⟨_, _, rfl, by omega, .inr ⟨_, rfl⟩⟩
  · exact ⟨_, _, rfl, Nat.le_refl _, .inr ⟨_, rfl⟩⟩

set_option maxRecDepth 8000 in
set_option maxHeartbeats 8000000 in
theorem awake_any (w0 w : World) (R : Asr) (h : Hold w0 w R) : Calls Try.prog 9 #[] w fun e w' => e = .returned (.bool true) ∧ Hold w0 w' R := by
  have h1 := ((h.newBlk (t := 46) (cs := #[.int .u64 300])).newBlk (t := 3) (cs := #[.int .i64 (-1)])).newBlk (t := 29) (cs := z16)
  simp only [World.size_alloc] at h1
  unfold z16 at h1
  obtain ⟨gu, hgu⟩ : ∃ g, g = w.heap.size := ⟨_, rfl⟩
  rw [← hgu] at h1
  have H1 := hid h1
  clear h h1
  obtain ⟨V, hV⟩ : ∃ V : ScV, V = ⟨⟨some ⟨gu, 0, none⟩, 1, 1⟩, ⟨none, 0, 0⟩, ⟨some ⟨gu + 1, 0, none⟩, 1, 1⟩, []⟩ := ⟨_, rfl⟩
  go_enter Try.func9, Try.ntmps9
  go_upto_region 2 with (rw [← hgu]; refine wpList_store rfl 29 _ _ rfl (gu + 1 + 1) _ _ #[.int .i64 0, .int .i64 0, .int .i64 0, .int .i64 0, .int .i64 0, .int .i64 0, .int .i64 0, .int .i64 0, .int .i64 0, .int .i64 0, .int .i64 0, .int .i64 0, .bool false, .slice (some ⟨gu, 0, none⟩) 1 1, .slice none 0 0, .slice (some ⟨gu + 1, 0, none⟩) 1 1] rfl rfl _ Try.sizeOf29 H1.out rfl rfl rfl ?_; intro y1 h1)
  clear H1 hV V
  have hsc : ∀ w' q, Hold w0 w' (q * (blkA 29 (gu + 1 + 1) #[.int .i64 0, .int .i64 0, .int .i64 0, .int .i64 0, .int .i64 0, .int .i64 0, .int .i64 0, .int .i64 0, .int .i64 0, .int .i64 0, .int .i64 0, .int .i64 0, .bool false, .slice (some ⟨gu, 0, none⟩) 1 1, .slice none 0 0, .slice (some ⟨gu + 1, 0, none⟩) 1 1] * (blkA 3 (gu + 1) #[.int .i64 (-1)] * (blkA 46 gu #[.int .u64 300] * R)))) → ScrR w' ⟨⟨some ⟨gu, 0, none⟩, 1, 1⟩, ⟨none, 0, 0⟩, ⟨some ⟨gu + 1, 0, none⟩, 1, 1⟩, []⟩ s5 := fun w' q hw =>
    ⟨⟨_, hw.drop.drop.drop.blk.reads rfl rfl⟩, ⟨⟨0, Reads.nil _ _⟩, rfl, fun j v p h => by simp at h⟩, ⟨_, hw.drop.drop.blk.reads rfl rfl⟩⟩
  go_wp2_with (refine wpList_load rfl 29 _ rfl (gu + 1 + 1) _ _ rfl Try.isAgg29 _ Try.sizeOf29 h1.blk rfl ?_)
  rw [← hgu]
  clear hgu
  have hE := enc_any w0 y1 _ ⟨⟨some ⟨gu, 0, none⟩, 1, 1⟩, ⟨none, 0, 0⟩, ⟨some ⟨gu + 1, 0, none⟩, 1, 1⟩, []⟩ s5 h1 hsc s5_ok s5_fits
  rw [s5_enc] at hE
  refine hE.mono ?_
  clear hE
  rintro e w3 ⟨v', rfl, h3⟩
  obtain ⟨A, c, rfl, hc, ⟨_, h0⟩ | ⟨gb, rfl⟩⟩ := h3.bufForm
  · cases h0
  have hD := dec_got w0 w3 _ (some ⟨gb, 0, none⟩) 23 c b23 h3 (Hold.bufStill rfl) b23_lt rfl hc (by omega)
  rw [show decode5 b23 = (s5, 0) from s5_dec] at hD
  have HD := hid hD
  clear hD
  go_wp2_with fail
  refine HD.out.mono ?_
  rintro e w4 ⟨V2, cs2, F, rfl, hV2, hsz, h1c, h4, hr4⟩
  clear HD
  have h5 := h4.newBlk (t := 29) (cs := z16)
  unfold z16 at h5
  have H5 := hid h5
  clear h4 h5
  go_upto_region 4 with (refine wpList_store rfl 29 _ _ rfl w4.heap.size _ _ cs2 rfl rfl _ Try.sizeOf29 H5.out hsz hsz h1c ?_; intro y5 h6)
  clear H5
  generalize w4.heap.size = g2 at h6 ⊢
  obtain ⟨b, hrd⟩ := h6.drop.drop.rowSReads
  obtain ⟨ad, hA, _, c18⟩ := hrd.cellAt (k := 18) (by decide)
  obtain rfl := Option.some.inj hA
  obtain ⟨ad, hA, _, c19⟩ := hrd.cellAt (k := 19) (by decide)
  obtain rfl := Option.some.inj hA
  rw [Addr.add_lit, Nat.zero_add] at c18 c19
  replace c18 : y5.cell? ⟨gb, 18, none⟩ = some (.int .u8 172) := c18
  replace c19 : y5.cell? ⟨gb, 19, none⟩ = some (.int .u8 2) := c19
  have hS := script_eq y5 V2 ⟨⟨some ⟨gu, 0, none⟩, 1, 1⟩, ⟨none, 0, 0⟩, ⟨some ⟨gu + 1, 0, none⟩, 1, 1⟩, []⟩ s5 (hr4 _ _ h6) (hsc _ _ h6.drop.drop) rfl s5_ok.five s5_fits
  rw [hV2] at hS
  have HS := hid hS
  clear hS hrd hA
  go_wp2_with (first | (refine wpList_load rfl 29 _ rfl g2 _ _ rfl Try.isAgg29 _ Try.sizeOf29 h6.blk hsz ?_) | (refine wpList_load rfl 29 _ rfl (gu + 1 + 1) _ _ rfl Try.isAgg29 _ Try.sizeOf29 h6.drop.drop.drop.blk rfl ?_))
  refine HS.out.mono ?_
  rintro e w7 ⟨rfl, hc7⟩
  have h7 := h6.chg0 hc7
  clear HS h6
  go_wp2_with fail
  go_ret
  exact ⟨rfl, h7.drop.drop.drop.drop.drop.drop⟩
end Go.Proofs.Ytipafegiobnkpaa
