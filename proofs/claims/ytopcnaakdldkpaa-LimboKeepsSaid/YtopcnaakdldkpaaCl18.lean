/- Drains to their ends, one machine at a time: what the lists become; no program in sight. -/
import Derived.Test.YtopcnaakdldkpaaAw18
import Derived.Test.YtopcnaakdldkpaaFlks
namespace Go.Proofs.Ytopcnaakdldkpaa
open Go.RowKit
set_option linter.unusedVariables false

theorem KI.perm {hs ns : List Int} {L : Nat → List Nat} {a b : List Nat} {xs : List (Option PM)} {ys : List (Option QM)} {B : Int} (h : KI hs ns L a xs ys B) (hp : a.Perm b) : KI hs ns L b xs ys B :=
  ⟨h.fi, h.bb, h.ch, h.cl, fun x hx => h.hd x (hp.mem_iff.2 hx), fun x hx => by rw [← hp.count_eq]; exact h.ct x hx, h.px, h.qy⟩
/-- A drain under way: un: the blocks that are nowhere yet. -/
def SI (hs ns : List Int) (L : Nat → List Nat) (un : List Nat) (B : Int) : List QM → Prop
  | [] => KI hs ns L un [] [none] B
  | q :: rest => KI hs ns L (un ++ rest.map (·.bk)) [] [some q] B ∧ (1 ≤ q.at_ → q.hd = hs.getD q.cl 0) ∧ ∀ x ∈ rest, x.at_ = 0 ∧ x.hd = 0 ∧ x.cl = fcls x.bk
def putL18 (L : Nat → List Nat) (k b : Nat) : Nat → List Nat := updL L k (b :: L k)
def finL (L : Nat → List Nat) : List QM → Nat → List Nat
  | [] => L
  | q :: qs => finL (putL18 L q.cl q.bk) qs
def remQ : List QM → Nat
  | [] => 0
  | q :: rest => 3 * rest.length + (3 - q.at_)
theorem SI.begin {hs ns : List Int} {L : Nat → List Nat} {un : List Nat} {B : Int} : ∀ {qs : List QM}, KI hs ns L (un ++ qs.map (·.bk)) [] [none] B → (∀ x ∈ qs, x.at_ = 0 ∧ x.hd = 0 ∧ x.cl = fcls x.bk) → SI hs ns L un B qs
  | [], h, _ => by simpa [SI] using h
  | q :: rest, h, hq => by
    have h1 := h.perm (b := q.bk :: (un ++ rest.map (·.bk))) (by rw [List.map_cons]; exact List.perm_middle)
    have h2 := h1.pushNew (t := 0) rfl q.g
    obtain ⟨q1, q2, q3⟩ := hq q (by simp)
    have e : (⟨q.g, fcls q.bk, q.bk, 0, 0⟩ : QM) = q := by
      obtain ⟨a, b, c, d, e⟩ := q
      simp only at q1 q2 q3
      subst q1 q2 q3
      rfl
    rw [e] at h2
    exact ⟨h2, fun h => by omega, fun x hx => hq x (by simp [hx])⟩
theorem SI.qw {hs ns : List Int} {L : Nat → List Nat} {un : List Nat} {B : Int} {q : QM} {rest : List QM} (h : SI hs ns L un B (q :: rest)) : QW hs ns B q := h.1.qy 0 q rfl
theorem SI.fi {hs ns : List Int} {L : Nat → List Nat} {un : List Nat} {B : Int} {qs : List QM} (h : SI hs ns L un B qs) : FI hs ns B := by
  cases qs with
  | nil => exact KI.fi h
  | cons q rest => exact h.1.fi
theorem SI.step {hs ns : List Int} {L : Nat → List Nat} {un : List Nat} {B : Int} {q : QM} {rest : List QM} (h : SI hs ns L un B (q :: rest)) (hB : B + 1 ≤ 1000) :
    ∃ L', SI (pushH hs q) (pushS ns q) L' un (B + 1) (drN hs (q :: rest)) ∧ finL L' (drN hs (q :: rest)) = finL L (q :: rest) ∧ remQ (drN hs (q :: rest)) + 1 = remQ (q :: rest) := by
  obtain ⟨hk, he, hr⟩ := h
  have p := hk.qy 0 q rfl
  have pa := p.a
  have ht : [some q][0]? = some (some q) := rfl
  obtain h0 | h0 | h0 : q.at_ = 0 ∨ q.at_ = 1 ∨ q.at_ = 2 := by omega
  · have eh : pushH hs q = hs := if_neg (fun h => by omega)
    have es : pushS ns q = ns := if_neg (by omega)
    have e : pushN hs q = { q with at_ := 1, hd := hs.getD q.cl 0 } := by unfold pushN; rw [if_pos h0]
    have ed : drN hs (q :: rest) = { q with at_ := 1, hd := hs.getD q.cl 0 } :: rest := by show (if (pushN hs q).at_ = 3 then rest else pushN hs q :: rest) = _; rw [e, if_neg (by show (1 : Nat) ≠ 3; omega)]
    rw [eh, es, ed]
    refine ⟨L, ⟨(hk.pushLoad ht).mono (by omega) hB, fun _ => rfl, hr⟩, rfl, ?_⟩
    simp only [remQ]; omega
  · have eh : pushH hs q = hs := if_neg (fun h => by omega)
    have es : pushS ns q = ns.set q.bk (q.hd % 65536) := if_pos h0
    have e : pushN hs q = { q with at_ := 2 } := by unfold pushN; rw [if_neg (by omega), if_pos h0]
    have ed : drN hs (q :: rest) = { q with at_ := 2 } :: rest := by show (if (pushN hs q).at_ = 3 then rest else pushN hs q :: rest) = _; rw [e, if_neg (by show (2 : Nat) ≠ 3; omega)]
    rw [eh, es, ed]
    refine ⟨L, ⟨(hk.pushStore ht h0).mono (by omega) hB, fun _ => he (by omega), hr⟩, rfl, ?_⟩
    simp only [remQ]; omega
  · have hd := (he (by omega)).symm
    have eh : pushH hs q = hs.set q.cl (bumpV q.hd q.bk) := if_pos ⟨h0, hd⟩
    have es : pushS ns q = ns := if_neg (by omega)
    have e : pushN hs q = { q with at_ := 3 } := by unfold pushN; rw [if_neg (by omega), if_neg (by omega), if_pos hd]
    have ed : drN hs (q :: rest) = rest := by show (if (pushN hs q).at_ = 3 then rest else pushN hs q :: rest) = _; rw [e, if_pos rfl]
    rw [eh, es, ed]
    refine ⟨putL18 L q.cl q.bk, SI.begin (hk.pushYes hB ht h0 hd) hr, rfl, ?_⟩
    cases rest with
    | nil => simp only [remQ, List.length_nil]; omega
    | cons x l =>
      have := (hr x (by simp)).1
      simp only [remQ, List.length_cons]; omega
def wantL (L : Nat → List Nat) : List Nat → Nat → List Nat
  | [] => L
  | b :: bs => wantL (putL18 L (fcls b) b) bs
theorem wantL_snoc : ∀ (bs : List Nat) (L : Nat → List Nat) (b : Nat), wantL L (bs ++ [b]) = putL18 (wantL L bs) (fcls b) b
  | [], L, b => rfl
  | x :: bs, L, b => wantL_snoc bs _ b
theorem finL_zip (v : Int) : ∀ (bs : List Nat) (gs : List Nat) (L : Nat → List Nat), gs.length = bs.length → finL L (List.zipWith qOf gs (bs.map fun b : Nat => ((b : Int), v))) = wantL L bs
  | [], gs, L, h => by
    obtain rfl : gs = [] := List.length_eq_zero_iff.1 (by simpa using h)
    rfl
  | b :: bs, [], L, h => by simp at h
  | b :: bs, g :: gs, L, h => by
    have h1 := finL_zip v bs gs (putL18 L (fcls b) b) (by simpa using h)
    simp only [List.map_cons, List.zipWith_cons_cons, finL, wantL]
    show finL (putL18 L (fcls ((b : Int).toNat)) ((b : Int).toNat)) _ = _
    rw [Int.toNat_natCast]
    exact h1
theorem zip_bk (v : Int) : ∀ (bs : List Nat) (gs : List Nat), gs.length = bs.length → (List.zipWith qOf gs (bs.map fun b : Nat => ((b : Int), v))).map (·.bk) = bs
  | [], gs, h => by
    obtain rfl : gs = [] := List.length_eq_zero_iff.1 (by simpa using h)
    rfl
  | b :: bs, [], h => by simp at h
  | b :: bs, g :: gs, h => by
    simp only [List.map_cons, List.zipWith_cons_cons]
    rw [zip_bk v bs gs (by simpa using h)]
    congr 1
theorem zip_new (v : Int) : ∀ (bs : List Nat) (gs : List Nat), gs.length = bs.length → ∀ x ∈ List.zipWith qOf gs (bs.map fun b : Nat => ((b : Int), v)), x.at_ = 0 ∧ x.hd = 0 ∧ x.cl = fcls x.bk
  | [], gs, h, x, hx => by
    obtain rfl : gs = [] := List.length_eq_zero_iff.1 (by simpa using h)
    cases hx
  | b :: bs, [], h, x, hx => by simp at h
  | b :: bs, g :: gs, h, x, hx => by
    simp only [List.map_cons, List.zipWith_cons_cons] at hx
    rcases List.mem_cons.1 hx with rfl | hx
    · exact ⟨rfl, rfl, rfl⟩
    · exact zip_new v bs gs (by simpa using h) x hx
theorem zip_rem {qs : List QM} (h : ∀ x ∈ qs, x.at_ = 0) : remQ qs = 3 * qs.length := by
  cases qs with
  | nil => rfl
  | cons q rest =>
    have := h q (by simp)
    simp only [remQ, List.length_cons]; omega
end Go.Proofs.Ytopcnaakdldkpaa
