/- freelist: plain laws: the view of heads and links, chains, the lists, the invariant of pops and pushes. -/
import Derived.Test.YtopcnaakdldkpaaRef08c
namespace Go.Proofs.Ytopcnaakdldkpaa
open Go.RowKit
set_option linter.unusedVariables false

/-- The heads and the links. -/
structure FV (C : Nat → List Int) (hs ns : List Int) : Prop where
  ok : COk C
  h7 : C 7 = hs
  h8 : C 8 = ns
section
variable {C : Nat → List Int} {hs ns : List Int}
theorem FV.get7 (h : FV C hs ns) : getC C 7 = hs := (getC_at (k := 7) (by decide) (by decide)).trans h.h7
theorem FV.get8 (h : FV C hs ns) : getC C 8 = ns := (getC_at (k := 8) (by decide) (by decide)).trans h.h8
theorem FV.val7 (h : FV C hs ns) (k : Nat) : valC C 7 k = hs.getD k 0 := by unfold valC; rw [h.get7]; rfl
theorem FV.val8 (h : FV C hs ns) (k : Nat) : valC C 8 k = ns.getD k 0 := by unfold valC; rw [h.get8]; rfl
theorem FV.has7 (h : FV C hs ns) {k : Nat} (hk : k < hs.length) : hasC C 7 k := ⟨by omega, by rw [h.get7]; omega⟩
theorem FV.has8 (h : FV C hs ns) {k : Nat} (hk : k < ns.length) : hasC C 8 k := ⟨by omega, by rw [h.get8]; omega⟩
theorem FV.ld7 (h : FV C hs ns) {k : Nat} (hk : k < hs.length) : opA C 1 7 k (valC C 7 k) true = ⟨1, 7, k, hs.getD k 0, hs.getD k 0, true⟩ := by
  rw [(op_yes (h.has7 hk) 1 _).1, h.val7]
theorem FV.ld8 (h : FV C hs ns) {k : Nat} (hk : k < ns.length) : opA C 1 8 k (valC C 8 k) true = ⟨1, 8, k, ns.getD k 0, ns.getD k 0, true⟩ := by
  rw [(op_yes (h.has8 hk) 1 _).1, h.val8]
theorem FV.st8 (h : FV C hs ns) {k : Nat} (hk : k < ns.length) (v : Int) : opA C 2 8 k v true = ⟨2, 8, k, ns.getD k 0, v, true⟩ ∧ FV (opC C 8 k v true) hs (ns.set k v) := by
  rw [(op_yes (h.has8 hk) 2 _).1, (op_yes (h.has8 hk) 2 _).2.1, h.val8]
  exact ⟨rfl, h.ok.setK _ _ _, (setK_ne (by decide)).trans h.h7, setK_eq.trans (by rw [show C (8 : Int).toNat = C 8 from rfl, h.h8]; rfl)⟩
theorem FV.st7 (h : FV C hs ns) {k : Nat} (hk : k < hs.length) (v : Int) : FV (opC C 7 k v true) (hs.set k v) ns := by
  rw [(op_yes (h.has7 hk) 2 _).2.1]
  exact ⟨h.ok.setK _ _ _, setK_eq.trans (by rw [show C (7 : Int).toNat = C 7 from rfl, h.h7]; rfl), (setK_ne (by decide)).trans h.h8⟩
theorem FV.sw_yes (h : FV C hs ns) {k : Nat} (hk : k < hs.length) {hd : Int} (he : hs.getD k 0 = hd) (v : Int) : opA C 3 7 k v (valC C 7 k == hd) = ⟨3, 7, k, hd, v, true⟩ ∧ FV (opC C 7 k v (valC C 7 k == hd)) (hs.set k v) ns := by
  rw [show (valC C 7 k == hd) = true by rw [h.val7, he]; exact beq_self_eq_true _, (op_yes (h.has7 hk) 3 _).1, h.val7, he]
  exact ⟨rfl, h.st7 hk v⟩
theorem FV.sw_no (h : FV C hs ns) {k : Nat} (hk : k < hs.length) {hd : Int} (he : hs.getD k 0 ≠ hd) (v : Int) : opA C 3 7 k v (valC C 7 k == hd) = ⟨3, 7, k, hs.getD k 0, hs.getD k 0, false⟩ ∧ opC C 7 k v (valC C 7 k == hd) = C := by
  rw [show (valC C 7 k == hd) = false by rw [h.val7]; exact beq_false_of_ne he, (op_off (h.has7 hk) 3 _).1, (op_off (h.has7 hk) 3 _).2, h.val7]
  exact ⟨rfl, rfl⟩
end
theorem getD_set {l : List Int} {k j : Nat} {v : Int} (hk : k < l.length) : (l.set k v).getD j 0 = if j = k then v else l.getD j 0 := by
  by_cases h : k = j
  · subst h; simp [List.getD, List.getElem?_set_self hk]
  · rw [if_neg (Ne.symm h)]; simp [List.getD, List.getElem?_set_ne h]

/-! ## Lists -/
/-- The blocks from a link on; 'seen' are those that have come up. -/
def chase (ns : List Int) : Nat → List Bool → Int → Option (List Int)
  | 0, _, _ => none
  | f + 1, seen, k => if k = 0 then some [] else if (ns.length : Int) < k ∨ seen.getD (k - 1).toNat false = true then none else (chase ns f (seen.set (k - 1).toNat true) (ns.getD (k - 1).toNat 0)).map fun l => (k - 1) :: l
def listR (ns : List Int) (k : Int) : Option (List Int) := chase ns (ns.length + 1) (List.replicate ns.length false) k
def finR : Option (List Int) → List Int × Int
  | some l => (l, 0)
  | none => ([], 91)
/-- List of the document. -/
def listF (hs ns : List Int) (k : Int) : List Int × Int :=
  if k < 0 ∨ 4 ≤ k ∨ hs.length ≠ 4 then ([], 2) else finR (listR ns (hs.getD k.toNat 0 % 65536))
def Chain (ns : List Int) : Int → List Nat → Prop
  | k, [] => k = 0
  | k, b :: l => k = (b : Int) + 1 ∧ b < ns.length ∧ Chain ns (ns.getD b 0) l
theorem Chain.set {ns : List Int} {b : Nat} {v : Int} : ∀ {l : List Nat} {k : Int}, Chain ns k l → b ∉ l → Chain (ns.set b v) k l
  | [], _, h, _ => h
  | a :: l, k, ⟨h1, h2, h3⟩, hb => ⟨h1, by rw [List.length_set]; exact h2, by
      have hab : b ≠ a := fun h => hb (by simp [h])
      have e : (ns.set b v).getD a 0 = ns.getD a 0 := by simp [List.getD, List.getElem?_set_ne hab]
      rw [e]
      exact h3.set fun h => hb (by simp [h])⟩
def toI (l : List Nat) : List Int := l.map fun b : Nat => (b : Int)
theorem chase_chain {ns : List Int} : ∀ {l : List Nat} {k : Int} {seen : List Bool} {f : Nat}, Chain ns k l → l.Nodup → seen.length = ns.length → (∀ b ∈ l, seen.getD b false = false) → l.length < f → chase ns f seen k = some (toI l)
  | [], k, seen, f, h, _, _, _, hf => by
    obtain ⟨f, rfl⟩ : ∃ g, f = g + 1 := ⟨f - 1, by simp at hf; omega⟩
    have h : k = 0 := h
    simp [chase, h, toI]
  | b :: l, k, seen, f, ⟨h1, h2, h3⟩, hn, hl, hs, hf => by
    obtain ⟨f, rfl⟩ : ∃ g, f = g + 1 := ⟨f - 1, by simp at hf; omega⟩
    have hk : (k - 1).toNat = b := by omega
    have hb := hs b (by simp)
    have ih := chase_chain (seen := seen.set b true) (f := f) h3 (List.nodup_cons.1 hn).2 (by simp [hl]) (fun c hc => by
      have hbc : b ≠ c := fun h => (List.nodup_cons.1 hn).1 (h ▸ hc)
      have e : (seen.set b true).getD c false = seen.getD c false := by simp [List.getD, List.getElem?_set_ne hbc]
      rw [e]; exact hs c (by simp [hc])) (by simp at hf; omega)
    unfold chase
    rw [if_neg (by omega), hk, if_neg (by rintro (h | h); · omega
                                          · rw [hb] at h; cases h), ih]
    simp [toI]; omega
theorem listF_chain {hs ns : List Int} {k : Nat} {l : List Nat} (hk : k < 4) (hl : hs.length = 4) (hc : Chain ns (hs.getD k 0 % 65536) l) (hn : l.Nodup) (hb : l.length ≤ ns.length) : listF hs ns k = (toI l, 0) := by
  unfold listF listR
  rw [if_neg (by omega), show ((k : Int)).toNat = k by omega, chase_chain hc hn (by simp) (fun b hb => by
    simp only [List.getD, List.getElem?_replicate]
    split <;> rfl) (by omega)]
  rfl
theorem count_set_true : ∀ {s : List Bool} {i : Nat}, s[i]? = some false → (s.set i true).count true = s.count true + 1
  | [], i, h => by simp at h
  | a :: s, 0, h => by simp at h; subst h; simp
  | a :: s, i + 1, h => by
    have := count_set_true (s := s) (i := i) (by simpa using h)
    simp only [List.set_cons_succ, List.count_cons, this]; omega
theorem count_lt : ∀ {s : List Bool} {i : Nat}, s[i]? = some false → s.count true < s.length
  | [], i, h => by simp at h
  | a :: s, 0, h => by
    simp at h; subst h
    have : s.count true ≤ s.length := List.count_le_length
    simp; omega
  | a :: s, i + 1, h => by
    have := count_lt (s := s) (i := i) (by simpa using h)
    simp only [List.count_cons, List.length_cons]; split <;> omega
/-- The state of a run of List: l has been found, 'seen' marks it, k is the next link. -/
structure LR (ns : List Int) (res : Option (List Int)) (l : List Int) (seen : List Bool) (k : Int) : Prop where
  sl : seen.length = ns.length
  ct : seen.count true = l.length
  eq : (chase ns (ns.length + 1 - l.length) seen k).map (fun x => l ++ x) = res
theorem LR.start (ns : List Int) (k : Int) : LR ns (listR ns k) [] (List.replicate ns.length false) k :=
  ⟨by simp, by rw [List.count_replicate]; rfl, by simp [listR, Option.map]; cases chase ns (ns.length + 1) (List.replicate ns.length false) k <;> rfl⟩
section
variable {ns : List Int} {res : Option (List Int)} {l : List Int} {seen : List Bool} {k : Int}
theorem LR.le (h : LR ns res l seen k) : l.length ≤ ns.length := by
  rw [← h.ct, ← h.sl]; exact List.count_le_length
theorem LR.fin (h : LR ns res l seen 0) : res = some l := by
  have h1 := h.eq
  have := h.le
  obtain ⟨f, hf⟩ : ∃ f, ns.length + 1 - l.length = f + 1 := ⟨ns.length - l.length, by omega⟩
  rw [hf] at h1
  unfold chase at h1
  rw [if_pos rfl] at h1
  simp at h1
  exact h1.symm
theorem LR.bad (h : LR ns res l seen k) (hk : k ≠ 0) (hb : (ns.length : Int) < k ∨ seen.getD (k - 1).toNat false = true) : res = none := by
  have h1 := h.eq
  have := h.le
  obtain ⟨f, hf⟩ : ∃ f, ns.length + 1 - l.length = f + 1 := ⟨ns.length - l.length, by omega⟩
  rw [hf] at h1
  unfold chase at h1
  rw [if_neg hk, if_pos hb] at h1
  exact h1.symm
theorem LR.next (h : LR ns res l seen k) (h0 : 0 < k) (hk : k ≤ ns.length) (hb : seen.getD (k - 1).toNat false = false) :
    l.length < ns.length ∧ LR ns res (l ++ [k - 1]) (seen.set (k - 1).toNat true) (ns.getD (k - 1).toNat 0) := by
  have hi : seen[(k - 1).toNat]? = some false := by
    have hl : (k - 1).toNat < seen.length := by rw [h.sl]; omega
    rw [List.getElem?_eq_getElem hl]
    unfold List.getD at hb
    rw [List.getElem?_eq_getElem hl] at hb
    exact congrArg some hb
  have h2 := count_lt hi
  rw [h.ct, h.sl] at h2
  refine ⟨h2, by simp [h.sl], by rw [count_set_true hi, h.ct]; simp, ?_⟩
  have h1 := h.eq
  obtain ⟨f, hf⟩ : ∃ f, ns.length + 1 - l.length = f + 1 := ⟨ns.length - l.length, by omega⟩
  rw [hf] at h1
  rw [show ns.length + 1 - (l ++ [k - 1]).length = f by simp; omega]
  unfold chase at h1
  rw [if_neg (by omega), if_neg (by rintro (h | h); · omega
                                    · rw [hb] at h; cases h)] at h1
  rw [← h1]
  cases chase ns f (seen.set (k - 1).toNat true) (ns.getD (k - 1).toNat 0) <;> simp
end
end Go.Proofs.Ytopcnaakdldkpaa
