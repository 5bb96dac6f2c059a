/- freelist: a step of a machine keeps the invariant. -/
import Derived.Test.YtopcnaakdldkpaaFls
namespace Go.Proofs.Ytopcnaakdldkpaa
open Go.RowKit
set_option linter.unusedVariables false

section
variable {hs ns : List Int} {L : Nat → List Nat} {held : List Nat} {xs : List (Option PM)} {ys : List (Option QM)} {B : Int} {t : Nat} {m : PM} {q : QM}
theorem KI.noneP (h : KI hs ns L held xs ys B) : KI hs ns L held (xs.set t none) ys B := h.setP none (fun m he => by cases he)
theorem popAt (m : PM) (h : m.at_ ≤ 2) : m.at_ = 0 ∨ m.at_ = 1 ∨ m.at_ = 2 := by omega
theorem KI.popStep (h : KI hs ns L held xs ys B) (hB : B + 1 ≤ 1000) (ht : xs[t]? = some (some m)) :
    ((popN hs ns m).at_ = 3 ∧ (popN hs ns m).bk = m.bk ∧ KI (popH hs m) ns L held (xs.set t none) ys (B + 1)) ∨
    (∃ (b : Nat) (L' : Nat → List Nat), (popN hs ns m).at_ = 3 ∧ (popN hs ns m).bk = b ∧ b < 6 ∧ KI (popH hs m) ns L' (held ++ [b]) (xs.set t none) ys (B + 1)) ∨
    ((popN hs ns m).at_ ≠ 3 ∧ (popN hs ns m).bk = m.bk ∧ KI (popH hs m) ns L held (xs.set t (some (popN hs ns m))) ys (B + 1)) := by
  have p := h.px t m ht
  rcases popAt m p.a with h0 | h0 | h0
  · have eh : popH hs m = hs := if_neg (fun h => by omega)
    rw [eh]
    by_cases hz : hs.getD m.cl 0 % 65536 = 0
    · have e : popN hs ns m = { m with at_ := 3, hd := hs.getD m.cl 0 } := by unfold popN; rw [if_pos h0, if_pos hz]
      rw [e]
      exact .inl ⟨rfl, rfl, h.noneP.mono (by omega) hB⟩
    · have e : popN hs ns m = { m with at_ := 1, hd := hs.getD m.cl 0 } := by unfold popN; rw [if_pos h0, if_neg hz]
      rw [e]
      have hp : 1 ≤ hs.getD m.cl 0 % 65536 := by omega
      exact .inr (.inr ⟨by show (1 : Nat) ≠ 3; omega, rfl, (h.popLoad ht hp).mono (by omega) hB⟩)
  · have eh : popH hs m = hs := if_neg (fun h => by omega)
    have e : popN hs ns m = { m with at_ := 2, nx := ns.getD (m.hd % 65536 - 1).toNat 0 } := by unfold popN; rw [if_neg (by omega), if_pos h0]
    rw [eh, e]
    exact .inr (.inr ⟨by show (2 : Nat) ≠ 3; omega, rfl, (h.popNext ht h0).mono (by omega) hB⟩)
  · by_cases he : hs.getD m.cl 0 = m.hd
    · have e : popN hs ns m = { m with at_ := 3, bk := m.hd % 65536 - 1 } := by unfold popN; rw [if_neg (by omega), if_neg (by omega), if_pos he]
      have eh : popH hs m = hs.set m.cl (bumpV m.hd (m.nx - 1)) := if_pos ⟨h0, he⟩
      obtain ⟨l, hl, hk⟩ := h.popYes hB ht h0 he none rfl
      rw [e, eh]
      have hw := (p.h (by omega)).1
      have h1 := (p.h (by omega)).2
      have hm := hw.m
      exact .inr (.inl ⟨(m.hd % 65536 - 1).toNat, _, rfl, by show m.hd % 65536 - 1 = _; omega, by omega, hk⟩)
    · have e : popN hs ns m = { m with at_ := 0 } := by unfold popN; rw [if_neg (by omega), if_neg (by omega), if_neg he]
      have eh : popH hs m = hs := if_neg (fun h => he h.2)
      rw [e, eh]
      exact .inr (.inr ⟨by show (0 : Nat) ≠ 3; omega, rfl, (h.popNo ht).mono (by omega) hB⟩)
theorem KI.pushStep (h : KI hs ns L held xs ys B) (hB : B + 1 ≤ 1000) (ht : ys[t]? = some (some q)) :
    (∃ L' : Nat → List Nat, (pushN hs q).at_ = 3 ∧ KI (pushH hs q) (pushS ns q) L' held xs (ys.set t none) (B + 1)) ∨
    ((pushN hs q).at_ ≠ 3 ∧ (pushN hs q).bk = q.bk ∧ KI (pushH hs q) (pushS ns q) L held xs (ys.set t (some (pushN hs q))) (B + 1)) := by
  have p := h.qy t q ht
  have pa := p.a
  obtain h0 | h0 | h0 : q.at_ = 0 ∨ q.at_ = 1 ∨ q.at_ = 2 := by omega
  · have eh : pushH hs q = hs := if_neg (fun h => by omega)
    have es : pushS ns q = ns := if_neg (by omega)
    have e : pushN hs q = { q with at_ := 1, hd := hs.getD q.cl 0 } := by unfold pushN; rw [if_pos h0]
    rw [eh, es, e]
    exact .inr ⟨by show (1 : Nat) ≠ 3; omega, rfl, (h.pushLoad ht).mono (by omega) hB⟩
  · have eh : pushH hs q = hs := if_neg (fun h => by omega)
    have es : pushS ns q = ns.set q.bk (q.hd % 65536) := if_pos h0
    have e : pushN hs q = { q with at_ := 2 } := by unfold pushN; rw [if_neg (by omega), if_pos h0]
    rw [eh, es, e]
    exact .inr ⟨by show (2 : Nat) ≠ 3; omega, rfl, (h.pushStore ht h0).mono (by omega) hB⟩
  · have es : pushS ns q = ns := if_neg (by omega)
    rw [es]
    by_cases he : hs.getD q.cl 0 = q.hd
    · have e : pushN hs q = { q with at_ := 3 } := by unfold pushN; rw [if_neg (by omega), if_neg (by omega), if_pos he]
      have eh : pushH hs q = hs.set q.cl (bumpV q.hd q.bk) := if_pos ⟨h0, he⟩
      rw [e, eh]
      exact .inl ⟨_, rfl, h.pushYes hB ht h0 he⟩
    · have e : pushN hs q = { q with at_ := 0 } := by unfold pushN; rw [if_neg (by omega), if_neg (by omega), if_neg he]
      have eh : pushH hs q = hs := if_neg (fun h => he h.2)
      rw [e, eh]
      exact .inr ⟨by show (0 : Nat) ≠ 3; omega, rfl, (h.pushNo ht).mono (by omega) hB⟩
end
end Go.Proofs.Ytopcnaakdldkpaa
