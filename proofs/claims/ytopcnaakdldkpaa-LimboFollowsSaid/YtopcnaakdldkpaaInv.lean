/- Operations of a region that come up in any order (the middle M of a region): by a condition I that each of them keeps. -/
import Derived.Test.YtopcnaakdldkpaaReg3
namespace Go.Proofs.Ytopcnaakdldkpaa
open Go.RowKit
set_option linter.unusedVariables false

/-- i is done, too. -/
def upd (f : Nat → Bool) (i : Nat) : Nat → Bool := fun j => if j = i then true else f j

section
variable {P : Program} {ops : Array Oper} {Q : Exit → Act → World → Prop} {md : Region.Mode} {S : World → Prop}

/-- M: each waits for earlier ones alone, and only for M or what is done. -/
def innerB (md : Region.Mode) (ops : Array Oper) (M : List Nat) (listed : Array Bool) : Bool :=
  M.all fun i => decide (i < ops.size) && (List.range ops.size).all fun j => !Region.waitsFor md ops i j || (decide (j < i) && (M.contains j || listed.getD j false))
/-- What is neither M nor done waits for all of M, or for another such operation. -/
def outerB (md : Region.Mode) (ops : Array Oper) (M : List Nat) (listed : Array Bool) : Bool :=
  (List.range ops.size).all fun i => M.contains i || listed.getD i false || (M.all fun m => Region.waitsFor md ops i m) || (List.range ops.size).any fun j => Region.waitsFor md ops i j && (!M.contains j && !listed.getD j false)
/-- Each edge leads to an operation. -/
def edgesB (md : Region.Mode) (ops : Array Oper) : Bool := ops.all fun o => o.after.all fun e => !Region.binds md e || decide (e.on < ops.size)

theorem waits_of_edge {i : Nat} {o : Oper} {e : Edge} (hi : ops[i]? = some o) (he : e ∈ o.after) (hb : Region.binds md e = true) : Region.waitsFor md ops i e.on = true := by
  unfold Region.waitsFor
  simp only [hi]
  rw [Array.any_eq_true']
  exact ⟨e, he, by simp [hb]⟩

theorem wpOp_of_list {i : Nat} {o : Oper} {a : Act} {w : World} {K : Act → World → Prop} (hoi : ops[i]? = some o)
    (h : ∀ QB : Exit → Act → World → Prop, Shut (∀ a' w', K a' w' → QB .normal a' w') → Shut (∀ e a' w', e ≠ .normal → Q e a' w' → QB e a' w') → wpList P ops QB [o] a w) : wpOp P ops Q i K a w := by
  have h0 := h (fun e a' w' => match e with
    | .normal => K a' w'
    | e => Q e a' w') (fun a' w' h1 => h1) (fun e a' w' h1 h2 => by cases e <;> first | exact absurd rfl h1 | exact h2)
  unfold wpList at h0
  unfold wpOp
  simp only [hoi]
  split
  · rename_i hw
    rw [if_pos hw] at h0
    rcases h0 with h0 | ⟨ha, hl⟩
    · left
      unfold Oper.wp at *
      generalize (execOp a.eval o).run P w = r at *
      cases r with
      | ok n w' =>
        cases n <;> simp only [Oper.upon, wpList] at h0 ⊢ <;>
          first
            | exact h0
            | exact Calls.mono h0 (fun e w'' he => by cases e <;> exact he)
      | halt x w' => cases x <;> simp only [Oper.upon] at h0 ⊢ <;> exact h0
    · exact .inr ⟨ha, hl⟩
  · rename_i hw
    rw [if_neg hw] at h0
    simpa only [wpList] using h0

structure Mid (ops : Array Oper) (M : List Nat) (listed l : Array Bool) : Prop where
  size : l.size = ops.size
  out : ∀ i, i ∉ M → l.getD i false = listed.getD i false

theorem wpAnyB_midAux {M : List Nat} {listed listed' : Array Bool} {fuel : Nat} (I : (Nat → Bool) → Act → World → Prop) (hed : edgesB md ops = true) (hin : innerB md ops M listed = true) (hout : outerB md ops M listed = true)
    (hIS : ∀ f a w, I f a w → S w)
    (hstep : ∀ f a w, I f a w → ∀ i ∈ M, f i = false → (∀ j, Region.waitsFor md ops i j = true → f j = true) → wpOp P ops Q i (fun a' w' => I (upd f i) a' w') a w)
    (hL : ∀ i, listed'.getD i false = (M.contains i || listed.getD i false)) (hsz : listed'.size = ops.size)
    (hend : ∀ a w, I (fun j => listed'.getD j false) a w → wpAnyB P md ops Q [] S fuel listed' a w) :
    ∀ (k : Nat) (l : Array Bool) (a : Act) (w : World), Mid ops M listed l → (M.countP fun i => !l.getD i false) = k → M.Nodup → I (fun j => l.getD j false) a w → wpAnyB P md ops Q [] S (fuel + k) l a w := by
  have hinM : ∀ i ∈ M, i < ops.size ∧ ∀ j, j < ops.size → Region.waitsFor md ops i j = true → j < i ∧ (j ∈ M ∨ listed.getD j false = true) := fun i hi => by
    have := List.all_eq_true.1 hin i hi
    simp only [Bool.and_eq_true, decide_eq_true_eq, List.all_eq_true, List.mem_range] at this
    refine ⟨this.1, fun j hj hw => ?_⟩
    have h2 := this.2 j hj
    rw [hw] at h2
    simpa using h2
  have hedge : ∀ (i : Nat) {o : Oper}, ops[i]? = some o → ∀ e ∈ o.after, Region.binds md e = true → e.on < ops.size := fun i o ho e he hb => by
    have h1 := Array.all_eq_true'.1 hed o (Array.mem_of_getElem? ho)
    have h2 := Array.all_eq_true'.1 h1 e he
    simpa [hb] using h2
  intro k
  induction k with
  | zero =>
    intro l a w hm hc hnd hI
    have hall : ∀ i ∈ M, l.getD i false = true := fun i hi => by
      have := List.countP_eq_zero.1 hc i hi
      simpa using this
    have hl : l = listed' := by
      refine Array.ext (by rw [hm.size, hsz]) fun i h1 h2 => ?_
      have e1 : l.getD i false = l[i] := by simp [h1]
      have e2 : listed'.getD i false = listed'[i] := by simp [h2]
      rw [← e1, ← e2, hL i]
      by_cases hi : i ∈ M
      · rw [hall i hi]; simp [hi]
      · rw [hm.out i hi]; simp [hi]
    subst hl
    exact hend a w hI
  | succ k ih =>
    intro l a w hm hc hnd hI
    have hready : ∀ i, i ∈ M → l.getD i false = false → (∀ j, j < i → j ∈ M → l.getD j false = true) → i ∈ Region.ready md ops l := by
      intro i hi hf hlt
      obtain ⟨hio, hdep⟩ := hinM i hi
      rw [mem_ready]
      refine ⟨?_, ops[i], Array.getElem?_eq_getElem hio, fun e he hb => ?_⟩
      · have hls : i < l.size := by rw [hm.size]; exact hio
        simpa [hls] using hf
      · have hw := waits_of_edge (md := md) (Array.getElem?_eq_getElem hio) he hb
        have heo : e.on < ops.size := hedge _ (Array.getElem?_eq_getElem hio) e he hb
        obtain ⟨h1, h2⟩ := hdep _ heo hw
        by_cases hM : e.on ∈ M
        · exact hlt _ h1 hM
        · rw [hm.out _ hM]
          rcases h2 with h2 | h2
          · exact absurd h2 hM
          · exact h2
    have hpos : 0 < M.countP fun i => !l.getD i false := by omega
    obtain ⟨m0, hm0, hm0f⟩ := List.countP_pos_iff.1 hpos
    have hm0f : l.getD m0 false = false := by simpa using hm0f
    have hex : ∀ n, (∃ i ∈ M, i < n ∧ l.getD i false = false) → ∃ i ∈ M, l.getD i false = false ∧ ∀ j, j < i → j ∈ M → l.getD j false = true := by
      intro n
      induction n with
      | zero => rintro ⟨i, _, h, _⟩; omega
      | succ n ihn =>
        rintro ⟨i, hi, hin', hf⟩
        by_cases hb : ∃ i ∈ M, i < n ∧ l.getD i false = false
        · exact ihn hb
        · refine ⟨i, hi, hf, fun j hj hjM => ?_⟩
          cases hv : l.getD j false with
          | true => rfl
          | false => exact absurd ⟨j, hjM, by omega, hv⟩ hb
    obtain ⟨i0, hi0, hf0, hlt0⟩ := hex (m0 + 1) ⟨m0, hm0, by omega, hm0f⟩
    have hr0 := hready i0 hi0 hf0 hlt0
    refine ⟨fun h => (by rw [h] at hr0; cases hr0), fun i hi => ?_⟩
    obtain ⟨hun, oi, hoi, hall⟩ := mem_ready.1 hi
    have hio : i < ops.size := (Array.getElem?_eq_some_iff.1 hoi).1
    have hls : i < l.size := by rw [hm.size]; exact hio
    have hf : l.getD i false = false := by simpa [hls] using hun
    have hwf : ∀ j, Region.waitsFor md ops i j = true → l.getD j false = true := fun j hj => by
      obtain ⟨oj, hoj, e, he, hb, rfl⟩ := Region.waitsFor_spec hj
      rw [hoi] at hoj
      injection hoj with hoj
      subst hoj
      exact hall e he hb
    by_cases hiM : i ∈ M
    · have h1 := hstep _ a w hI i hiM hf hwf
      refine wpOp_mono (fun a' w' h2 => ⟨fun _ => hIS _ _ _ h2, ih _ a' w' ⟨by simpa using hm.size, fun j hj => ?_⟩ ?_ hnd ?_⟩) h1
      · have hne : i ≠ j := fun e => hj (e ▸ hiM)
        rw [getD_set_ne false hne]
        exact hm.out j hj
      · have e1 : ∀ j, ((l.setIfInBounds i true).getD j false) = if j = i then true else l.getD j false := fun j => by
          by_cases h : j = i
          · subst h; simp [hls]
          · rw [getD_set_ne false (Ne.symm h), if_neg h]
        have e2 : ∀ (M : List Nat), M.Nodup → i ∈ M → (M.countP fun j => !(l.setIfInBounds i true).getD j false) + 1 = M.countP fun j => !l.getD j false := by
          intro M
          induction M with
          | nil => intro _ h; cases h
          | cons b M ihM =>
            intro hnd hmem
            rw [List.countP_cons, List.countP_cons]
            rw [List.nodup_cons] at hnd
            by_cases hbi : b = i
            · subst hbi
              have h3 : (M.countP fun j => !(l.setIfInBounds b true).getD j false) = M.countP fun j => !l.getD j false := List.countP_congr fun j hj => by
                have hjb : j ≠ b := fun e => hnd.1 (by rw [← e]; exact hj)
                rw [e1, if_neg hjb]
              rw [h3, e1, if_pos rfl, hf]
              simp
            · rw [e1 b, if_neg hbi]
              have hmem' : i ∈ M := by
                rcases List.mem_cons.1 hmem with h | h
                · exact absurd h.symm hbi
                · exact h
              have := ihM hnd.2 hmem'
              omega
        have := e2 M hnd hiM
        omega
      · have e3 : (fun j => (l.setIfInBounds i true).getD j false) = upd (fun j => l.getD j false) i := by
          funext j
          unfold upd
          by_cases h : j = i
          · subst h; simp [hls]
          · rw [getD_set_ne false (Ne.symm h), if_neg h]
        rw [e3]
        exact h2
    · exfalso
      have h1 := List.all_eq_true.1 hout i (List.mem_range.2 hio)
      have h2 : listed.getD i false = false := by rw [← hm.out i hiM]; exact hf
      have h3 : (M.all fun m => Region.waitsFor md ops i m) = true ∨ ((List.range ops.size).any fun j => Region.waitsFor md ops i j && (!M.contains j && !listed.getD j false)) = true := by
        rw [h2] at h1
        simpa only [Bool.or_eq_true, List.contains_eq_mem, decide_eq_true_eq, hiM, Bool.false_eq_true, false_or, or_false] using h1
      rcases h3 with h3 | h3
      · have h4 := List.all_eq_true.1 h3 m0 hm0
        rw [hwf m0 h4] at hm0f
        cases hm0f
      · obtain ⟨j, _, hj⟩ := List.any_eq_true.1 h3
        simp only [Bool.and_eq_true, Bool.not_eq_true', List.contains_eq_mem, decide_eq_false_iff_not] at hj
        have h5 := hwf j hj.1
        rw [hm.out j hj.2.1, hj.2.2] at h5
        cases h5

theorem wpAnyB_mid {ol : List Oper} (M : List Nat) {listed listed' : Array Bool} {fuel : Nat} (I : (Nat → Bool) → Act → World → Prop) {a : Act} {w : World} (hed : edgesB md ol.toArray = true) (hin : innerB md ol.toArray M listed = true) (hout : outerB md ol.toArray M listed = true)
    (hM : (M.all fun i => !listed.getD i false) = true) (hnd : decide M.Nodup = true) (hsz0 : decide (listed.size = ol.toArray.size) = true) (hL : listAll M listed = listed') (hf : M.length ≤ fuel)
    (hI : I (fun j => listed.getD j false) a w)
    (hIS : ∀ f a w, I f a w → S w)
    (hstep : ∀ f a w, I f a w → ∀ i ∈ M, f i = false → (∀ j, Region.waitsFor md ol.toArray i j = true → f j = true) → wpOp P ol.toArray Q i (fun a' w' => I (upd f i) a' w') a w)
    (hend : ∀ a w, I (fun j => listed'.getD j false) a w → wpAnyB P md ol.toArray Q [] S (fuel - M.length) listed' a w) : wpAnyB P md ol.toArray Q [] S fuel listed a w := by
  have hsz : listed.size = ol.toArray.size := of_decide_eq_true hsz0
  have hsize : ∀ (M : List Nat) (l : Array Bool), (listAll M l).size = l.size := fun M => by
    induction M with
    | nil => intro l; rfl
    | cons i M ih => intro l; rw [listAll, ih]; simp
  have hget : ∀ (M : List Nat) (l : Array Bool), (∀ i ∈ M, i < l.size) → ∀ j, (listAll M l).getD j false = (M.contains j || l.getD j false) := fun M => by
    induction M with
    | nil => intro l _ j; simp [listAll]
    | cons i M ih =>
      intro l hl j
      rw [listAll, ih _ (fun k hk => by simpa using hl k (List.mem_cons_of_mem _ hk))]
      by_cases h : j = i
      · subst h
        have hjl := hl j (by simp)
        have : (l.setIfInBounds j true).getD j false = true := by simp [hjl]
        rw [this]; simp
      · rw [getD_set_ne false (Ne.symm h)]
        simp [h]
  have hlt : ∀ i ∈ M, i < listed.size := fun i hi => by
    have := List.all_eq_true.1 hin i hi
    simp only [Bool.and_eq_true, decide_eq_true_eq] at this
    rw [hsz]; exact this.1
  have hc : (M.countP fun i => !listed.getD i false) = M.length := List.countP_eq_length.2 (fun i hi => List.all_eq_true.1 hM i hi)
  have := wpAnyB_midAux (P := P) (Q := Q) (md := md) (fuel := fuel - M.length) I hed hin hout hIS hstep (listed' := listed') (fun i => by rw [← hL]; exact hget M listed hlt i) (by rw [← hL, hsize, hsz]) hend M.length listed a w ⟨hsz, fun _ _ => rfl⟩ hc (of_decide_eq_true hnd) hI
  rwa [show fuel - M.length + M.length = fuel by omega] at this
end
end Go.Proofs.Ytopcnaakdldkpaa
