/- Decode, of the program and of the reference, for all bytes; what they return is a script that reads well. -/
import Derived.Test.YtipafegiobnkpaaDc
import Derived.Test.YtipafegiobnkpaaDe
import Derived.Test.YtipafegiobnkpaaRe
import Derived.Test.YtipafegiobnkpaaRg
import Derived.Test.YtipafegiobnkpaaKs
namespace Go.Proofs.Ytipafegiobnkpaa
open Go.RowKit
set_option linter.unusedVariables false

theorem dec_any (w0 w : World) (R : Asr) (A : Option Addr) (n c : Nat) (bs : List Nat) (h : Hold w0 w R) (hS : Still w0 R ⟨A, n, c⟩ bs) (hb : ∀ x ∈ bs, x < 256) (hl : bs.length = n) (hnc : n ≤ c) (hn : n ≤ 4611686018427387904) :
    Calls Try.prog 13 #[.slice A n c] w (DecPost w0 R (decode5 bs)) := by
  by_cases hbig : 262144 < n
  · exact dec_long w0 w R A n c bs h hS hb hl hbig hnc hn
  by_cases h4 : n < 4
  · exact dec_short w0 w R A n c bs h hS hb hl hbig h4 hnc hn
  by_cases hmk : bs.take 4 = mark5
  · exact dec_good w0 w R A n c bs h hS hb hl hbig h4 hmk hnc hn
  · exact dec_mark w0 w R A n c bs h hS hb hl hbig h4 hmk hnc hn
theorem rdec_any (w0 w : World) (R : Asr) (A : Option Addr) (n c : Nat) (bs : List Nat) (h : Hold w0 w R) (hS : Still w0 R ⟨A, n, c⟩ bs) (hb : ∀ x ∈ bs, x < 256) (hl : bs.length = n) (hnc : n ≤ c) (hn : n ≤ 4611686018427387904) :
    Calls Try.prog 15 #[.slice A n c] w (DecPost w0 R (decode5 bs)) := by
  by_cases hbig : 262144 < n
  · exact rdec_long w0 w R A n c bs h hS hb hl hbig hnc hn
  by_cases h4 : n < 4
  · exact rdec_short w0 w R A n c bs h hS hb hl hbig h4 hnc hn
  by_cases hmk : bs.take 4 = mark5
  · exact rdec_good w0 w R A n c bs h hS hb hl hbig h4 hmk hnc hn
  · exact rdec_mark w0 w R A n c bs h hS hb hl hbig h4 hmk hnc hn

/-! ## What is decoded -/
theorem encL_ge {α : Type} {f : α → List Nat} {l : List α} (h1 : ∀ x : α, 1 ≤ (f x).length) : l.length ≤ (encL f l).length := by
  have := flat_le h1 l
  unfold encL; rw [List.length_append]; omega
theorem encI_ge : ∀ {p : List (List Int)}, (∀ i ∈ p, i.length = 5) → p.length ≤ (p.flatMap encI).length
  | [], _ => by simp
  | x :: l, h => by
    have h1 := encI_len1 x (h x (by simp))
    have h2 := encI_ge (p := l) fun y hy => h y (by simp [hy])
    rw [List.flatMap_cons, List.length_append, List.length_cons]; omega
theorem encPs_ge : ∀ {l : List (List (List Int))}, (∀ p ∈ l, ∀ i ∈ p, i.length = 5) → (l.map List.length).sum ≤ (l.flatMap (encL encI)).length
  | [], _ => by simp
  | x :: l, h => by
    have h1 := encI_ge (p := x) (h x (by simp))
    have h2 := encPs_ge (l := l) fun y hy => h y (by simp [hy])
    rw [List.flatMap_cons, List.length_append, List.map_cons, List.sum_cons]
    have h3 : (x.flatMap encI).length ≤ (encL encI x).length := by unfold encL; rw [List.length_append]; omega
    omega
theorem Scr.ok.five {s : Scr} (h : s.ok) : ∀ p ∈ s.progs, ∀ i ∈ p, i.length = 5 := fun p hp i hi => ((h.progs p hp).2 i hi).1
theorem Scr.ok.small {s : Scr} (h : s.ok) {N : Nat} (hl : s.bytes.length ≤ N) (hN : N ≤ 1100000) : s.fits := by
  have h1 : s.init.length ≤ (encL encU s.init).length := encL_ge encU_pos
  have h2 : s.progs.length ≤ (encL (encL encI) s.progs).length := encL_ge (encL_pos _)
  have h3 : s.picks.length ≤ (encL encS s.picks).length := encL_ge fun n => encU_pos _
  have h4 := encPs_ge h.five
  have h5 : (s.progs.flatMap (encL encI)).length ≤ (encL (encL encI) s.progs).length := by unfold encL; rw [List.length_append]; omega
  have h6 : (encL encU s.init).length + (encL (encL encI) s.progs).length + (encL encS s.picks).length ≤ s.bytes.length := by
    unfold Scr.bytes Scr.body
    simp only [List.length_append]; omega
  exact ⟨by omega, by omega, by omega, by omega⟩
theorem zero_ok : Scr.zero.ok := ⟨⟨rfl, fun x hx => by have := List.eq_of_mem_replicate hx; subst this; unfold I64; omega⟩, (fun x hx => by cases hx), (fun x hx => by cases hx), (fun x hx => by cases hx), ⟨by show 0 < _; omega, by show 0 < _; omega, by show 0 < _; omega⟩⟩
theorem zero_fits : Scr.zero.fits := ⟨by show 0 ≤ _; omega, by show 0 ≤ _; omega, by show 0 ≤ _; omega, by show 0 ≤ _; omega⟩
theorem dec_ok (bs : List Nat) (hb : ∀ x ∈ bs, x < 256) : (decode5 bs).1.ok ∧ (decode5 bs).1.fits ∧ ((decode5 bs).2 = 0 → bs = (decode5 bs).1.bytes ∧ bs.length ≤ 262144) := by
  unfold decode5
  split
  · exact ⟨zero_ok, zero_fits, fun h => absurd h (by decide)⟩
  rename_i hbig
  split
  · exact ⟨zero_ok, zero_fits, fun h => absurd h (by decide)⟩
  rename_i h4
  have hm : bs.take 4 = mark5 := Decidable.byContradiction fun h => h4 (.inr h)
  cases hd : scrD (bs.drop 4) with
  | none => exact ⟨zero_ok, zero_fits, fun h => absurd h (by decide)⟩
  | some s =>
    obtain ⟨h1, h2⟩ := scrD_inv (fun x hx => hb x (List.mem_of_mem_drop hx)) hd
    have h3 : bs = s.bytes := by
      unfold Scr.bytes
      rw [← h2, ← hm, List.take_append_drop]
    exact ⟨h1, h1.small (by rw [← h3]; omega : s.bytes.length ≤ 262144) (by omega), fun _ => ⟨h3, by omega⟩⟩
theorem dec_bytes (s : Scr) (h : s.ok) (hl : s.bytes.length ≤ 262144) : decode5 s.bytes = (s, 0) := by
  unfold decode5
  have h1 : s.bytes.take 4 = mark5 := rfl
  have h2 : s.bytes.drop 4 = s.body := rfl
  have h3 : ¬ s.bytes.length < 4 := by
    unfold Scr.bytes; rw [List.length_append]; show ¬ 4 + _ < 4; omega
  rw [if_neg (by omega), if_neg (fun h => h.elim h3 (fun h => h h1)), h2, scrD_enc s h]
theorem enc_byte (s : Scr) : ∀ x ∈ s.bytes, x < 256 := by
  have hU := encU_byte
  have hS : ∀ n : Int, ∀ x ∈ encS n, x < 256 := fun n => encU_byte _
  have hI : ∀ l : List Int, ∀ x ∈ encI l, x < 256 := fun l x hx => by
    obtain ⟨y, _, h⟩ := List.mem_flatMap.1 hx
    exact hS y x h
  have hL : ∀ {α : Type} {f : α → List Nat} (hf : ∀ a, ∀ x ∈ f a, x < 256) (l : List α), ∀ x ∈ encL f l, x < 256 := fun hf l x hx => by
    rcases List.mem_append.1 hx with h | h
    · exact hU _ x h
    · obtain ⟨y, _, h⟩ := List.mem_flatMap.1 h
      exact hf y x h
  intro x hx
  unfold Scr.bytes Scr.body encC at hx
  simp only [List.mem_append] at hx
  rcases hx with h | (h | h) | h | h | h
  · revert x; decide
  · exact hI _ x h
  · rw [List.mem_singleton] at h; rw [h]; split <;> omega
  · exact hL hU _ x h
  · exact hL (hL hI) _ x h
  · exact hL hS _ x h
def GotPost (w0 : World) (R : Asr) (o : Scr × Int) (e : Ending) (w' : World) : Prop := ∃ (V : ScV) (cs : Array Value) (F : Asr), e = .returned (.tuple #[.agg cs, .int .i64 o.2]) ∧ V.val o.1 = .agg cs ∧ cs.size = 16 ∧ (cs.toList.all fun u => u.oneCell') = true ∧
  Hold w0 w' (F * R) ∧ ∀ w'' q, Hold w0 w'' (q * (F * R)) → ScrR w'' V o.1
theorem ScV.one (V : ScV) (s : Scr) : ((V.cells s).all fun u => u.oneCell') = true := by
  unfold ScV.cells
  simp [List.all_append, Value.oneCell', SlV.v]
theorem ScV.size {V : ScV} {s : Scr} (h : s.cf.length = 12) : (V.cells s).length = 16 := by simp [ScV.cells, h]
theorem DecPost.got {w0 w' : World} {R : Asr} {o : Scr × Int} {e : Ending} (h12 : o.1.cf.length = 12) (h : DecPost w0 R o e w') : GotPost w0 R o e w' := by
  obtain ⟨vI, vP, vQ, rfl, h⟩ := h
  obtain ⟨AI, cI, rfl⟩ := Hold.rowSForm (show Hold w0 w' (rowS 46 1 vI o.1.init.length _ * _) from h)
  obtain ⟨vs, hv⟩ := progOpen h.drop
  obtain ⟨AP, cP, rfl⟩ := hv.rowSForm
  obtain ⟨AQ, cQ, rfl⟩ := Hold.rowSForm (show Hold w0 w' (rowS 3 1 vQ o.1.picks.length _ * _) from h.drop.drop)
  obtain ⟨vs, hv⟩ := progOpen h.swap
  have hv : Hold w0 w' (sepR [rowS 54 1 (.slice AP o.1.progs.length cP) o.1.progs.length vs, insRows vs o.1.progs, uvA (.slice AI o.1.init.length cI) o.1.init, ivA (.slice AQ o.1.picks.length cQ) o.1.picks] R) := hv
  refine ⟨⟨⟨AI, _, cI⟩, ⟨AP, _, cP⟩, ⟨AQ, _, cQ⟩, vs⟩, _, _, rfl, rfl, ?_, ?_, hv.imp (Imp.fold R _), fun w'' q hw => ?_⟩
  · simp [h12]
  · exact ScV.one ⟨⟨AI, _, cI⟩, ⟨AP, _, cP⟩, ⟨AQ, _, cQ⟩, vs⟩ o.1
  · have hw := hw.drop.imp (Imp.flat R _)
    have hw : Hold w0 w'' (rowS 54 1 (.slice AP o.1.progs.length cP) o.1.progs.length vs * (insRows vs o.1.progs * (uvA (.slice AI o.1.init.length cI) o.1.init * (ivA (.slice AQ o.1.picks.length cQ) o.1.picks * R)))) := hw
    obtain ⟨hl, hi⟩ := insRows_at vs o.1.progs _ hw.drop
    refine ⟨?_, ⟨?_, rfl, hi⟩, ?_⟩
    · have := hw.drop.drop.rowSReads
      rwa [Nat.mul_one] at this
    · have := hw.rowSReads
      rwa [Nat.mul_one] at this
    · have := hw.drop.drop.drop.rowSReads
      rwa [Nat.mul_one] at this
theorem dec_got (w0 w : World) (R : Asr) (A : Option Addr) (n c : Nat) (bs : List Nat) (h : Hold w0 w R) (hS : Still w0 R ⟨A, n, c⟩ bs) (hb : ∀ x ∈ bs, x < 256) (hl : bs.length = n) (hnc : n ≤ c) (hn : n ≤ 4611686018427387904) :
    Calls Try.prog 13 #[.slice A n c] w (GotPost w0 R (decode5 bs)) := (dec_any w0 w R A n c bs h hS hb hl hnc hn).mono fun _ _ => DecPost.got (dec_ok bs hb).1.cf.1
theorem rdec_got (w0 w : World) (R : Asr) (A : Option Addr) (n c : Nat) (bs : List Nat) (h : Hold w0 w R) (hS : Still w0 R ⟨A, n, c⟩ bs) (hb : ∀ x ∈ bs, x < 256) (hl : bs.length = n) (hnc : n ≤ c) (hn : n ≤ 4611686018427387904) :
    Calls Try.prog 15 #[.slice A n c] w (GotPost w0 R (decode5 bs)) := (rdec_any w0 w R A n c bs h hS hb hl hnc hn).mono fun _ _ => DecPost.got (dec_ok bs hb).1.cf.1
end Go.Proofs.Ytipafegiobnkpaa
