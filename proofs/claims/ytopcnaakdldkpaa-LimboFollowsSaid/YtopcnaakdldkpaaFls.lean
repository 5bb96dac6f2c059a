/- freelist: the steps of pops and pushes over the view of heads and links. -/
import Derived.Test.YtopcnaakdldkpaaFr
import Derived.Test.YtopcnaakdldkpaaFlk
namespace Go.Proofs.Ytopcnaakdldkpaa
open Go.RowKit
set_option linter.unusedVariables false

def popN (hs ns : List Int) (m : PM) : PM :=
  if m.at_ = 0 then { m with at_ := if hs.getD m.cl 0 % 65536 = 0 then 3 else 1, hd := hs.getD m.cl 0 }
  else if m.at_ = 1 then { m with at_ := 2, nx := ns.getD (m.hd % 65536 - 1).toNat 0 }
  else if hs.getD m.cl 0 = m.hd then { m with at_ := 3, bk := m.hd % 65536 - 1 } else { m with at_ := 0 }
def popH (hs : List Int) (m : PM) : List Int := if m.at_ = 2 ∧ hs.getD m.cl 0 = m.hd then hs.set m.cl (bumpV m.hd (m.nx - 1)) else hs
def popC (C : Nat → List Int) (m : PM) : Nat → List Int := if m.at_ = 2 then opC C 7 m.cl (bumpV m.hd (m.nx - 1)) (valC C 7 m.cl == m.hd) else C
def popA (hs ns : List Int) (m : PM) : Acc :=
  if m.at_ = 0 then ⟨1, 7, m.cl, hs.getD m.cl 0, hs.getD m.cl 0, true⟩
  else if m.at_ = 1 then ⟨1, 8, (m.hd % 65536 - 1).toNat, ns.getD (m.hd % 65536 - 1).toNat 0, ns.getD (m.hd % 65536 - 1).toNat 0, true⟩
  else if hs.getD m.cl 0 = m.hd then ⟨3, 7, m.cl, m.hd, bumpV m.hd (m.nx - 1), true⟩ else ⟨3, 7, m.cl, hs.getD m.cl 0, hs.getD m.cl 0, false⟩
def pushN (hs : List Int) (m : QM) : QM :=
  if m.at_ = 0 then { m with at_ := 1, hd := hs.getD m.cl 0 } else if m.at_ = 1 then { m with at_ := 2 }
  else if hs.getD m.cl 0 = m.hd then { m with at_ := 3 } else { m with at_ := 0 }
def pushH (hs : List Int) (m : QM) : List Int := if m.at_ = 2 ∧ hs.getD m.cl 0 = m.hd then hs.set m.cl (bumpV m.hd m.bk) else hs
def pushS (ns : List Int) (m : QM) : List Int := if m.at_ = 1 then ns.set m.bk (m.hd % 65536) else ns
def pushC (C : Nat → List Int) (m : QM) : Nat → List Int := if m.at_ = 1 then opC C 8 m.bk (m.hd % 65536) true else if m.at_ = 2 then opC C 7 m.cl (bumpV m.hd m.bk) (valC C 7 m.cl == m.hd) else C
def pushA (hs ns : List Int) (m : QM) : Acc :=
  if m.at_ = 0 then ⟨1, 7, m.cl, hs.getD m.cl 0, hs.getD m.cl 0, true⟩
  else if m.at_ = 1 then ⟨2, 8, m.bk, ns.getD m.bk 0, m.hd % 65536, true⟩
  else if hs.getD m.cl 0 = m.hd then ⟨3, 7, m.cl, m.hd, bumpV m.hd m.bk, true⟩ else ⟨3, 7, m.cl, hs.getD m.cl 0, hs.getD m.cl 0, false⟩
section
variable {C : Nat → List Int} {hs ns : List Int} {B : Int} {m : PM} {q : QM}
theorem popC_fv (h : FV C hs ns) (f : FI hs ns B) (p : PW hs ns B m) : FV (popC C m) (popH hs m) ns := by
  have hk : m.cl < hs.length := by rw [f.hl]; exact p.c
  unfold popC popH
  by_cases h2 : m.at_ = 2
  · rw [if_pos h2]
    by_cases he : hs.getD m.cl 0 = m.hd
    · rw [if_pos ⟨h2, he⟩]; exact (h.sw_yes hk he _).2
    · rw [if_neg (fun h => he h.2), (h.sw_no hk he _).2]; exact h
  · rw [if_neg h2, if_neg (fun h => h2 h.1)]; exact h
theorem pushC_fv (h : FV C hs ns) (f : FI hs ns B) (p : QW hs ns B q) : FV (pushC C q) (pushH hs q) (pushS ns q) := by
  have hk : q.cl < hs.length := by rw [f.hl, p.c]; exact fcls_lt _
  have hb : q.bk < ns.length := by rw [f.nl]; exact p.b
  unfold pushC pushH pushS
  by_cases h1 : q.at_ = 1
  · rw [if_pos h1, if_neg (by omega), if_pos h1]; exact (h.st8 hb _).2
  rw [if_neg h1, if_neg h1]
  by_cases h2 : q.at_ = 2
  · rw [if_pos h2]
    by_cases he : hs.getD q.cl 0 = q.hd
    · rw [if_pos ⟨h2, he⟩]; exact (h.sw_yes hk he _).2
    · rw [if_neg (fun h => he h.2), (h.sw_no hk he _).2]; exact h
  · rw [if_neg h2, if_neg (fun h => h2 h.1)]; exact h
end
abbrev pmA (m : PM) : Asr := poA m.g m.cl m.at_ m.hd m.nx m.bk
abbrev qmA (m : QM) : Asr := puA m.g m.cl m.bk m.at_ m.hd
abbrev rqA (m : QM) : Asr := quA m.g m.cl m.bk m.at_ m.hd
theorem po_step (w0 w : World) (R : Asr) (r : Nat) (C : Nat → List Int) (hs ns : List Int) (B : Int) (m : PM) (h : Hold w0 w (pmA m * (memA r C * R))) (v : FV C hs ns) (f : FI hs ns B) (hB : B ≤ 1000) (p : PW hs ns B m) :
    Calls Try.prog 32 #[.pointer (some ⟨m.g, 0, none⟩), .pointer (some ⟨r, 0, none⟩)] w (RAccPost w0 (pmA (popN hs ns m) * (memA r (popC C m) * R)) (popA hs ns m)) := by
  obtain ⟨g, cl, at_, hd, nx, bk⟩ := m
  have pc : cl < 4 := p.c
  have hk : cl < hs.length := by rw [f.hl]; exact pc
  have hb := f.hb cl pc
  obtain h0 | h0 | h0 : at_ = 0 ∨ at_ = 1 ∨ at_ = 2 := by have : at_ ≤ 2 := p.a; omega
  · subst h0
    have ha := v.ld7 hk
    by_cases hz : hs.getD cl 0 % 65536 = 0
    · have hc := po_step0_none w0 w R g r C cl hd nx bk _ h v.ok ⟨by omega, by omega⟩ (by show 0 ≤ hs.getD cl 0 ∧ hs.getD cl 0 < 18446744073709551616; omega) hz ha
      simp only [popN, popA, popC, if_pos, hz]
      exact hc
    · have hc := po_step0_some w0 w R g r C cl hd nx bk _ h v.ok ⟨by omega, by omega⟩ (by show 0 ≤ hs.getD cl 0 ∧ hs.getD cl 0 < 18446744073709551616; omega) (by show 1 ≤ hs.getD cl 0 % 65536; omega) ha
      simp only [popN, popA, popC, if_pos, if_neg hz]
      exact hc
  · subst h0
    obtain ⟨hw, h1⟩ := p.h (by show 1 ≤ 1; omega)
    have h1 : 1 ≤ hd % 65536 := h1
    have h2 := hw.b; have h3 := hw.m; have h4 := hw.t
    have h2 : 0 ≤ hd := h2
    have h3 : hd % 65536 ≤ 6 := h3
    have h4 : hd / 65536 ≤ B := h4
    obtain ⟨b, hb⟩ : ∃ b : Nat, hd % 65536 - 1 = b := ⟨(hd % 65536 - 1).toNat, by omega⟩
    have ha := v.ld8 (k := b) (by rw [f.nl]; omega)
    rw [← hb] at ha
    have hc := po_step1 w0 w R g r C cl hd nx bk _ h v.ok ⟨by omega, by omega⟩ ha
    have hbt : (hd % 65536 - 1).toNat = b := by omega
    have e1 : popN hs ns ⟨g, cl, 1, hd, nx, bk⟩ = ⟨g, cl, 2, hd, ns.getD b 0, bk⟩ := by simp [popN, hbt]
    have e2 : popA hs ns ⟨g, cl, 1, hd, nx, bk⟩ = ⟨1, 8, hd % 65536 - 1, ns.getD b 0, ns.getD b 0, true⟩ := by simp [popA, hb]
    have e3 : popC C ⟨g, cl, 1, hd, nx, bk⟩ = C := by simp [popC]
    rw [e1, e2, e3]
    exact hc
  · subst h0
    obtain ⟨hw, h1⟩ := p.h (by show 1 ≤ 2; omega)
    have h2 : 0 ≤ hd := hw.b
    have h3 : hd % 65536 ≤ 6 := hw.m
    have h4 : hd / 65536 ≤ B := hw.t
    have h5 : 0 ≤ nx ∧ nx ≤ 6 := p.n
    have e3 : popC C ⟨g, cl, 2, hd, nx, bk⟩ = opC C 7 cl (bumpV hd (nx - 1)) (valC C 7 cl == hd) := by simp [popC]
    rw [e3]
    by_cases he : hs.getD cl 0 = hd
    · have ha := (v.sw_yes hk he (bumpV hd (nx - 1))).1
      have hc := po_step2_yes w0 w R g r C _ cl hd nx bk _ h v.ok ⟨by omega, by omega⟩ ⟨by omega, by omega⟩ (by omega) rfl ha rfl
      have e1 : popN hs ns ⟨g, cl, 2, hd, nx, bk⟩ = ⟨g, cl, 3, hd, nx, hd % 65536 - 1⟩ := by simp only [popN]; rw [if_neg (by decide), if_neg (by decide), if_pos he]
      have e2 : popA hs ns ⟨g, cl, 2, hd, nx, bk⟩ = ⟨3, 7, cl, hd, bumpV hd (nx - 1), true⟩ := by simp only [popA]; rw [if_neg (by decide), if_neg (by decide), if_pos he]
      rw [e1, e2]
      exact hc
    · have ha := (v.sw_no hk he (bumpV hd (nx - 1))).1
      have hc := po_step2_no w0 w R g r C _ cl hd nx bk _ h v.ok ⟨by omega, by omega⟩ ⟨by omega, by omega⟩ (by omega) rfl ha rfl
      have e1 : popN hs ns ⟨g, cl, 2, hd, nx, bk⟩ = ⟨g, cl, 0, hd, nx, bk⟩ := by simp only [popN]; rw [if_neg (by decide), if_neg (by decide), if_neg he]
      have e2 : popA hs ns ⟨g, cl, 2, hd, nx, bk⟩ = ⟨3, 7, cl, hs.getD cl 0, hs.getD cl 0, false⟩ := by simp only [popA]; rw [if_neg (by decide), if_neg (by decide), if_neg he]
      rw [e1, e2]
      exact hc
theorem pu_step (w0 w : World) (R : Asr) (r : Nat) (C : Nat → List Int) (hs ns : List Int) (B : Int) (m : QM) (h : Hold w0 w (qmA m * (memA r C * R))) (v : FV C hs ns) (f : FI hs ns B) (hB : B ≤ 1000) (p : QW hs ns B m) :
    Calls Try.prog 39 #[.pointer (some ⟨m.g, 0, none⟩), .pointer (some ⟨r, 0, none⟩)] w (RAccPost w0 (qmA (pushN hs m) * (memA r (pushC C m) * R)) (pushA hs ns m)) := by
  obtain ⟨g, cl, bk, at_, hd⟩ := m
  have pc : cl < 4 := by have h1 := fcls_lt bk; have h2 : cl = fcls bk := p.c; omega
  have pb : bk < 6 := p.b
  have hk : cl < hs.length := by rw [f.hl]; exact pc
  have hb := f.hb cl pc
  obtain h0 | h0 | h0 : at_ = 0 ∨ at_ = 1 ∨ at_ = 2 := by have : at_ ≤ 2 := p.a; omega
  · subst h0
    have ha := v.ld7 hk
    have hc := pu_step0 w0 w R g r C cl bk hd _ h v.ok ⟨by omega, by omega⟩  ha
    have e1 : pushN hs ⟨g, cl, bk, 0, hd⟩ = ⟨g, cl, bk, 1, hs.getD cl 0⟩ := by simp [pushN]
    have e2 : pushA hs ns ⟨g, cl, bk, 0, hd⟩ = ⟨1, 7, cl, hs.getD cl 0, hs.getD cl 0, true⟩ := by simp [pushA]
    have e3 : pushC C ⟨g, cl, bk, 0, hd⟩ = C := by simp [pushC]
    rw [e1, e2, e3]
    exact hc
  · subst h0
    have hw := p.h (by show 1 ≤ 1; omega)
    have h2 : 0 ≤ hd := hw.b
    have h3 : hd % 65536 ≤ 6 := hw.m
    have h4 : hd / 65536 ≤ B := hw.t
    have ha := (v.st8 (k := bk) (by rw [f.nl]; exact pb) (hd % 65536)).1
    have hc := pu_step1 w0 w R g r C _ cl bk hd _ h v.ok ⟨by omega, by omega⟩ ⟨by omega, by omega⟩ ha rfl
    have e1 : pushN hs ⟨g, cl, bk, 1, hd⟩ = ⟨g, cl, bk, 2, hd⟩ := by simp [pushN]
    have e2 : pushA hs ns ⟨g, cl, bk, 1, hd⟩ = ⟨2, 8, bk, ns.getD bk 0, hd % 65536, true⟩ := by simp [pushA]
    have e3 : pushC C ⟨g, cl, bk, 1, hd⟩ = opC C 8 bk (hd % 65536) true := by simp [pushC]
    rw [e1, e2, e3]
    exact hc
  · subst h0
    have hw := p.h (by show 1 ≤ 2; omega)
    have h2 : 0 ≤ hd := hw.b
    have h4 : hd / 65536 ≤ B := hw.t
    have e3 : pushC C ⟨g, cl, bk, 2, hd⟩ = opC C 7 cl (bumpV hd bk) (valC C 7 cl == hd) := by simp [pushC]
    rw [e3]
    by_cases he : hs.getD cl 0 = hd
    · have ha := (v.sw_yes hk he (bumpV hd bk)).1
      have hc := pu_step2_yes w0 w R g r C _ cl bk hd _ h v.ok ⟨by omega, by omega⟩ ⟨by omega, by omega⟩ rfl ha rfl
      have e1 : pushN hs ⟨g, cl, bk, 2, hd⟩ = ⟨g, cl, bk, 3, hd⟩ := by simp only [pushN]; rw [if_neg (by decide), if_neg (by decide), if_pos he]
      have e2 : pushA hs ns ⟨g, cl, bk, 2, hd⟩ = ⟨3, 7, cl, hd, bumpV hd bk, true⟩ := by simp only [pushA]; rw [if_neg (by decide), if_neg (by decide), if_pos he]
      rw [e1, e2]
      exact hc
    · have ha := (v.sw_no hk he (bumpV hd bk)).1
      have hc := pu_step2_no w0 w R g r C _ cl bk hd _ h v.ok ⟨by omega, by omega⟩ ⟨by omega, by omega⟩ rfl ha rfl
      have e1 : pushN hs ⟨g, cl, bk, 2, hd⟩ = ⟨g, cl, bk, 0, hd⟩ := by simp only [pushN]; rw [if_neg (by decide), if_neg (by decide), if_neg he]
      have e2 : pushA hs ns ⟨g, cl, bk, 2, hd⟩ = ⟨3, 7, cl, hs.getD cl 0, hs.getD cl 0, false⟩ := by simp only [pushA]; rw [if_neg (by decide), if_neg (by decide), if_neg he]
      rw [e1, e2]
      exact hc
theorem qu_step (w0 w : World) (R : Asr) (r : Nat) (c : Cfg) (C : Nat → List Int) (hs ns : List Int) (B : Int) (m : QM) (h : Hold w0 w (rqA m * (refA r c C * R))) (v : FV C hs ns) (f : FI hs ns B) (hB : B ≤ 1000) (p : QW hs ns B m) :
    Calls Try.prog 41 #[.pointer (some ⟨m.g, 0, none⟩), .pointer (some ⟨r, 0, none⟩)] w (RAccPost w0 (rqA (pushN hs m) * (refA r c (pushC C m) * R)) (pushA hs ns m)) := by
  obtain ⟨g, cl, bk, at_, hd⟩ := m
  have pc : cl < 4 := by have h1 := fcls_lt bk; have h2 : cl = fcls bk := p.c; omega
  have pb : bk < 6 := p.b
  have hk : cl < hs.length := by rw [f.hl]; exact pc
  have hb := f.hb cl pc
  obtain h0 | h0 | h0 : at_ = 0 ∨ at_ = 1 ∨ at_ = 2 := by have : at_ ≤ 2 := p.a; omega
  · subst h0
    have ha := v.ld7 hk
    have hc := qu_step0 w0 w R g r c C cl bk hd _ h v.ok  ha
    have e1 : pushN hs ⟨g, cl, bk, 0, hd⟩ = ⟨g, cl, bk, 1, hs.getD cl 0⟩ := by simp [pushN]
    have e2 : pushA hs ns ⟨g, cl, bk, 0, hd⟩ = ⟨1, 7, cl, hs.getD cl 0, hs.getD cl 0, true⟩ := by simp [pushA]
    have e3 : pushC C ⟨g, cl, bk, 0, hd⟩ = C := by simp [pushC]
    rw [e1, e2, e3]
    exact hc
  · subst h0
    have hw := p.h (by show 1 ≤ 1; omega)
    have h2 : 0 ≤ hd := hw.b
    have h3 : hd % 65536 ≤ 6 := hw.m
    have h4 : hd / 65536 ≤ B := hw.t
    have ha := (v.st8 (k := bk) (by rw [f.nl]; exact pb) (hd % 65536)).1
    have hc := qu_step1 w0 w R g r c C _ cl bk hd _ h v.ok ⟨by omega, by omega⟩ ha rfl
    have e1 : pushN hs ⟨g, cl, bk, 1, hd⟩ = ⟨g, cl, bk, 2, hd⟩ := by simp [pushN]
    have e2 : pushA hs ns ⟨g, cl, bk, 1, hd⟩ = ⟨2, 8, bk, ns.getD bk 0, hd % 65536, true⟩ := by simp [pushA]
    have e3 : pushC C ⟨g, cl, bk, 1, hd⟩ = opC C 8 bk (hd % 65536) true := by simp [pushC]
    rw [e1, e2, e3]
    exact hc
  · subst h0
    have hw := p.h (by show 1 ≤ 2; omega)
    have h2 : 0 ≤ hd := hw.b
    have h4 : hd / 65536 ≤ B := hw.t
    have e3 : pushC C ⟨g, cl, bk, 2, hd⟩ = opC C 7 cl (bumpV hd bk) (valC C 7 cl == hd) := by simp [pushC]
    rw [e3]
    by_cases he : hs.getD cl 0 = hd
    · have ha := (v.sw_yes hk he (bumpV hd bk)).1
      have hc := qu_step2_yes w0 w R g r c C _ cl bk hd _ h v.ok ⟨by omega, by omega⟩ rfl ha rfl
      have e1 : pushN hs ⟨g, cl, bk, 2, hd⟩ = ⟨g, cl, bk, 3, hd⟩ := by simp only [pushN]; rw [if_neg (by decide), if_neg (by decide), if_pos he]
      have e2 : pushA hs ns ⟨g, cl, bk, 2, hd⟩ = ⟨3, 7, cl, hd, bumpV hd bk, true⟩ := by simp only [pushA]; rw [if_neg (by decide), if_neg (by decide), if_pos he]
      rw [e1, e2]
      exact hc
    · have ha := (v.sw_no hk he (bumpV hd bk)).1
      have hc := qu_step2_no w0 w R g r c C _ cl bk hd _ h v.ok ⟨by omega, by omega⟩ rfl ha rfl
      have e1 : pushN hs ⟨g, cl, bk, 2, hd⟩ = ⟨g, cl, bk, 0, hd⟩ := by simp only [pushN]; rw [if_neg (by decide), if_neg (by decide), if_neg he]
      have e2 : pushA hs ns ⟨g, cl, bk, 2, hd⟩ = ⟨3, 7, cl, hs.getD cl 0, hs.getD cl 0, false⟩ := by simp only [pushA]; rw [if_neg (by decide), if_neg (by decide), if_neg he]
      rw [e1, e2]
      exact hc
end Go.Proofs.Ytopcnaakdldkpaa
