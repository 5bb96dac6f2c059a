/- A region that draws its order, walked by phases: what reads is taken first, many operations at once, under a condition S on the world; what writes comes up alone. -/
import Derived.Test.YtopcnaakdldkpaaMem
import Derived.Deep.RegionHeld3
namespace Go.Proofs.Ytopcnaakdldkpaa
open Go.RowKit
set_option linter.unusedVariables false

section
variable {P : Program} {ops : Array Oper} {Q : Exit → Act → World → Prop} {md : Region.Mode} {S S' : World → Prop}

theorem wpAnyH_mono (hS : ∀ w, S' w → S w) : ∀ (fuel : Nat) (listed : Array Bool) (a : Act) (w : World), wpAnyH P md ops Q S' fuel listed a w → wpAnyH P md ops Q S fuel listed a w
  | 0, _, _, _, h => h
  | fuel + 1, _, _, _, h => ⟨h.1, fun i hi => wpOp_mono (fun a' w' h' => ⟨hS _ h'.1, wpAnyH_mono hS fuel _ a' w' h'.2⟩) (h.2 i hi)⟩

/-- In every world of S the operation yields v and leaves the world as it is (a call may: it returns v and leaves the world). -/
def SameV (P : Program) (ops : Array Oper) (S : World → Prop) (o : Oper) (v : Value) (a : Act) : Prop :=
  (Region.wanted o (yielded ops a.tmps) = true ∧ ∀ w, S w → o.quietAt P a (fun w'' => w'' = w) w v) ∨
  (Region.wanted o (yielded ops a.tmps) = false ∧ v = undef)

theorem SameV.wpOp {i : Nat} {o : Oper} {v : Value} {a : Act} (hi : ops[i]? = some o) (hy : SameV P ops S o v a)
    {K : Act → World → Prop} {w : World} (hS : S w) (h : K (a.put o.dst v) w) : wpOp P ops Q i K a w := by
  unfold Go.wpOp
  simp only [hi]
  rcases hy with ⟨hw, hv⟩ | ⟨hw, rfl⟩
  · simp only [hw, if_true]
    refine .inl (Oper.wp_of_quiet (C := fun w'' => w'' = w) (K := fun a' => a' = a.put o.dst v) (w := w) rfl ?_ ⟨v, ?_, rfl⟩)
    · rintro a' w' rfl rfl
      exact h
    · rintro w' rfl
      exact hv _ hS
  · simp only [hw, Bool.false_eq_true, if_false]; exact h

theorem SameV.of_same {o : Oper} {v : Value} {a a' : Act} (hy : SameV P ops S o v a) (he : execOp a'.eval o = execOp a.eval o)
    (hw : Region.wanted o (yielded ops a'.tmps) = Region.wanted o (yielded ops a.tmps)) : SameV P ops S o v a' := by
  unfold SameV Oper.quietAt at *
  rw [he, hw]
  exact hy

theorem wpOp_putSame {j : Nat} {oi oj : Oper} {v : Value} (hj : ops[j]? = some oj) (hap : oi.apart ops oj = true)
    (hsi : ∀ cs b, oi.op ≠ .select cs b) (hsj : ∀ cs b, oj.op ≠ .select cs b)
    (hQ : ∀ c a w, Q (.panic c) (a.put oi.dst v) w → Q (.panic c) a w) {K : Act → World → Prop} {a : Act} {w : World}
    (hy : SameV P ops S oi v a) (h : wpOp P ops Q j K (a.put oi.dst v) w) :
    wpOp P ops Q j (fun a' w' => SameV P ops S oi v a' ∧ K (a'.put oi.dst v) w') a w := by
  obtain ⟨h1, h2, h3⟩ := Oper.apart_spec hap
  have keep : ∀ (a : Act), SameV P ops S oi v a → ∀ u, SameV P ops S oi v (a.put oj.dst u) := fun a hy u =>
    hy.of_same (execOp_put oi hsi a oj.dst u h3) (wanted_put oi a oj.dst u h3)
  have keepD : ∀ d, SameV P ops S oi v { a with defers := d :: a.defers } := fun d => hy.of_same rfl rfl
  unfold wpOp at *
  simp only [hj] at *
  rw [wanted_put oj a oi.dst v h1] at h
  split
  · rename_i hw
    simp only [hw, if_true] at h
    rcases h with h | ⟨hasks, hlets⟩
    case inr => exact .inr ⟨by unfold Oper.asks at *; rw [execOp_put oj hsj a oi.dst v h1] at hasks; exact hasks, hlets⟩
    refine .inl ?_
    unfold Oper.wp at *
    rw [execOp_put oj hsj a oi.dst v h1] at h
    generalize (execOp a.eval oj).run P w = r at *
    cases r with
    | ok n w' =>
      cases n <;> simp only [Oper.upon] at h ⊢
      case value u => exact ⟨keep a hy u, by rw [← Act.put_comm a v u h2]; exact h⟩
      case skip => exact ⟨keep a hy _, by rw [← Act.put_comm a v undef h2]; exact h⟩
      case defer d =>
        refine ⟨keep _ (keepD d) _, ?_⟩
        rw [← Act.put_comm _ v undef h2, ← Act.put_defers]
        exact h
      case enter f args =>
        refine Calls.mono h fun e w'' he => ?_
        cases e with
        | returned u => exact ⟨keep a hy u, by rw [← Act.put_comm a v u h2]; exact he⟩
        | panicked c => exact hQ _ _ _ he
        | outgrown => exact he
      case row row args => exact Rows.mono h fun u w'' he => ⟨keep a hy u, by rw [← Act.put_comm a v u h2]; exact he⟩
    | halt x w' =>
      cases x <;> simp only [Oper.upon] at h ⊢
      case panic u => exact hQ _ _ _ h
  · rename_i hw
    simp only [hw] at h
    exact ⟨keep a hy _, by rw [← Act.put_comm a v undef h2]; exact h⟩

theorem wpAnyH_firstSame {i : Nat} {oi : Oper} {v : Value} (hi : ops[i]? = some oi) (hsel : ∀ (j : Nat) (o : Oper) cs b, ops[j]? = some o → o.op ≠ .select cs b)
    (hQ : ∀ c a w, Q (.panic c) (a.put oi.dst v) w → Q (.panic c) a w) :
    ∀ (fuel : Nat) (listed : Array Bool) (a : Act) (w : World),
      (∀ j oj, ops[j]? = some oj → j ≠ i → listed.getD j true = false → (∀ e ∈ oj.after, Region.binds md e = true → e.on ≠ i) → oi.apart ops oj = true) →
      i ∈ Region.ready md ops listed → SameV P ops S oi v a → S w →
      wpAnyH P md ops Q S fuel (listed.setIfInBounds i true) (a.put oi.dst v) w → wpAnyH P md ops Q S (fuel + 1) listed a w := by
  intro fuel
  induction fuel with
  | zero =>
    intro listed a w _ hr hy hS H
    refine ⟨fun h => (by rw [h] at hr; cases hr), fun j hj => ?_⟩
    by_cases hji : j = i
    · subst hji; exact hy.wpOp hi hS ⟨hS, H⟩
    · have := ready_mono hj hji
      rw [H.1] at this
      cases this
  | succ fuel ih =>
    intro listed a w hfree hr hy hS H
    refine ⟨fun h => (by rw [h] at hr; cases hr), fun j hj => ?_⟩
    by_cases hji : j = i
    · subst hji; exact hy.wpOp hi hS ⟨hS, H⟩
    · have h1 := H.2 j (ready_mono hj hji)
      obtain ⟨hjun, oj, hoj, hall⟩ := mem_ready.1 hj
      have hnot : ∀ e ∈ oj.after, Region.binds md e = true → e.on ≠ i := fun e he hb heq => by
        have h1 := hall e he hb
        have h0 := (mem_ready.1 hr).1
        rw [heq] at h1
        rcases Nat.lt_or_ge i listed.size with h' | h'
        · simp [h'] at h0 h1; rw [h0] at h1; cases h1
        · simp [Array.getElem?_eq_none h'] at h1
      have h2 := wpOp_putSame hoj (hfree j oj hoj hji hjun hnot) (fun cs b => hsel i oi cs b hi) (fun cs b => hsel j oj cs b hoj) hQ hy h1
      have hfree' : ∀ k ok, ops[k]? = some ok → k ≠ i → (listed.setIfInBounds j true).getD k true = false →
          (∀ e ∈ ok.after, Region.binds md e = true → e.on ≠ i) → oi.apart ops ok = true := fun k ok hk hki hun hno => by
        refine hfree k ok hk hki ?_ hno
        by_cases hjk : j = k
        · subst hjk; exact hjun
        · rw [getD_set_ne true hjk] at hun; exact hun
      refine wpOp_mono (fun a' w' h3 => ⟨h3.2.1, ih (listed.setIfInBounds j true) a' w' hfree' (ready_mono hr (Ne.symm hji)) h3.1 h3.2.1 ?_⟩) h2
      rw [Array.setIfInBounds_comm _ _ hji]
      exact h3.2.2

/-! ### Masks -/
def maskL {α : Type} : List Bool → List α → List α
  | true :: m, o :: l => o :: maskL m l
  | false :: m, _ :: l => maskL m l
  | _, _ => []
def maskI : Nat → List Bool → List Nat
  | _, [] => []
  | k, true :: m => k :: maskI (k + 1) m
  | k, false :: m => maskI (k + 1) m
def listAll : List Nat → Array Bool → Array Bool
  | [], listed => listed
  | i :: is, listed => listAll is (listed.setIfInBounds i true)
def bulkB (md : Region.Mode) (ops : Array Oper) : List Nat → Array Bool → Bool
  | [], _ => true
  | i :: is, listed => Region.free md ops listed i && ((Region.ready md ops listed).contains i && bulkB md ops is (listed.setIfInBounds i true))
/-- Each of these operations writes a slot of its own. -/
def dstB (n : Nat) : List Oper → Bool
  | [] => true
  | o :: l => (match o.dst with | some d => decide (d < n) && l.all (fun o' => o'.dst != some d) | none => false) && dstB n l

theorem maskL_get {ops : Array Oper} : ∀ (m : List Bool) (l : List Oper) (k : Nat), (∀ j, l[j]? = ops[k + j]?) → (maskI k m).length = (maskL m l).length →
    ∀ (t i : Nat), (maskI k m)[t]? = some i → ops[i]? = (maskL m l)[t]? := by
  intro m
  induction m with
  | nil => intro l k _ _ t i h; simp [maskI] at h
  | cons b m ih =>
    intro l k hl hlen t i h
    cases l with
    | nil => cases b <;> simp [maskI, maskL] at h hlen <;> (rw [hlen] at h; simp at h)
    | cons o l =>
      have hl' : ∀ j, l[j]? = ops[k + 1 + j]? := fun j => by have := hl (j + 1); simpa [Nat.add_assoc, Nat.add_comm 1 j] using this
      cases b with
      | false => exact ih l (k + 1) hl' (by simpa [maskI, maskL] using hlen) t i (by simpa [maskI] using h)
      | true =>
        cases t with
        | zero =>
          simp [maskI] at h
          subst h
          have := hl 0
          simp at this
          simp [maskL, this]
        | succ t => exact ih l (k + 1) hl' (by simpa [maskI, maskL] using hlen) t i (by simpa [maskI] using h)

/-- What the walk of the list says: the slots that it does not write are as they were. -/
theorem quiet_keeps {w : World} {A : Act} : ∀ (l : List Oper) (a : Act) (d : Nat), (l.all fun o' => o'.dst != some d) = true → wpQuiet P ops (fun w' => w' = w) (fun a' => a' = A) l a → A.tmps[d]? = a.tmps[d]?
  | [], a, d, _, h => by rw [show A = a from (h : a = A).symm]
  | o :: l, a, d, hd, h => by
    simp only [List.all_cons, Bool.and_eq_true] at hd
    have hp : ∀ v, (a.put o.dst v).tmps[d]? = a.tmps[d]? := fun v => by
      cases ho : o.dst with
      | none => rfl
      | some e =>
        have : e ≠ d := by rintro rfl; simp [ho] at hd
        simp [Act.put, Array.getElem?_setIfInBounds_ne this]
    unfold wpQuiet at h
    split at h
    · obtain ⟨v, _, h2⟩ := h
      exact (quiet_keeps l _ d hd.2 h2).trans (hp v)
    · exact (quiet_keeps l _ d hd.2 h).trans (hp _)

theorem quiet_size {w : World} {A : Act} : ∀ (l : List Oper) (a : Act), wpQuiet P ops (fun w' => w' = w) (fun a' => a' = A) l a → A.tmps.size = a.tmps.size
  | [], a, h => by rw [show A = a from (h : a = A).symm]
  | o :: l, a, h => by
    have hp : ∀ v, (a.put o.dst v).tmps.size = a.tmps.size := fun v => by cases ho : o.dst <;> simp [Act.put]
    unfold wpQuiet at h
    split at h
    · obtain ⟨v, _, h2⟩ := h
      exact (quiet_size l _ h2).trans (hp v)
    · exact (quiet_size l _ h).trans (hp _)

theorem wpAnyH_bulkAux (hs : Region.noSelect ops = true) (hQ : ∀ c (t : Array Value) (a : Act) w, Q (.panic c) { a with tmps := t } w → Q (.panic c) a w) {A : Act} {w : World} (hS : S w) {n : Nat} :
    ∀ (is : List Nat) (l : List Oper), (∀ (t i : Nat), is[t]? = some i → ops[i]? = l[t]?) → is.length = l.length → ∀ (fuel : Nat) (listed : Array Bool) (a : Act), bulkB md ops is listed = true → dstB n l = true → a.tmps.size = n →
      (∀ w', S w' → wpQuiet P ops (fun w'' => w'' = w') (fun a' => a' = A) l a) → wpAnyH P md ops Q S fuel (listAll is listed) A w → wpAnyH P md ops Q S (fuel + is.length) listed a w
  | [], l, _, hlen, fuel, listed, a, _, _, _, hrun, h => by
    obtain rfl : l = [] := List.eq_nil_of_length_eq_zero (by simpa using hlen.symm)
    have : a = A := hrun w hS
    subst this
    exact h
  | i :: is, [], _, hlen, _, _, _, _, _, _, _, _ => by simp at hlen
  | i :: is, o :: l, hget, hlen, fuel, listed, a, hB, hD, hn, hrun, h => by
    have hi : ops[i]? = some o := by simpa using hget 0 i rfl
    simp only [bulkB, Bool.and_eq_true] at hB
    obtain ⟨hf, hr, hB'⟩ := hB
    simp only [dstB, Bool.and_eq_true] at hD
    obtain ⟨hd, hD'⟩ := hD
    cases hdst : o.dst with
    | none => simp [hdst] at hd
    | some d =>
      simp only [hdst, Bool.and_eq_true, decide_eq_true_eq] at hd
      obtain ⟨v, hv⟩ : ∃ v, A.tmps[d]? = some v := by
        have h0 := hrun w hS
        have hsz : A.tmps.size = n := (quiet_size _ _ h0).trans hn
        have hdn : d < A.tmps.size := by rw [hsz]; exact hd.1
        exact ⟨A.tmps[d]'hdn, Array.getElem?_eq_getElem hdn⟩
      have hval : ∀ u, (∀ w', S w' → wpQuiet P ops (fun w'' => w'' = w') (fun a' => a' = A) l (a.put o.dst u) → u = v) := fun u w' _ hq => by
        have h1 := quiet_keeps l _ d hd.2 hq
        rw [hv, hdst] at h1
        simp [Act.put, hn, hd.1] at h1
        exact h1.symm
      have hsame : SameV P ops S o v a ∧ ∀ w', S w' → wpQuiet P ops (fun w'' => w'' = w') (fun a' => a' = A) l (a.put o.dst v) := by
        by_cases hw : Region.wanted o (yielded ops a.tmps) = true
        · have hall : ∀ w', S w' → o.quietAt P a (fun w'' => w'' = w') w' v ∧ wpQuiet P ops (fun w'' => w'' = w') (fun a' => a' = A) l (a.put o.dst v) := fun w' hS' => by
            have h0 := hrun w' hS'
            unfold wpQuiet at h0
            rw [if_pos hw] at h0
            obtain ⟨u, h1, h2⟩ := h0
            obtain rfl := hval u w' hS' h2
            exact ⟨h1 w' rfl, h2⟩
          exact ⟨.inl ⟨hw, fun w' hS' => (hall w' hS').1⟩, fun w' hS' => (hall w' hS').2⟩
        · have hall : ∀ w', S w' → wpQuiet P ops (fun w'' => w'' = w') (fun a' => a' = A) l (a.put o.dst undef) := fun w' hS' => by
            have h0 := hrun w' hS'
            unfold wpQuiet at h0
            rwa [if_neg hw] at h0
          have hu := hval undef w hS (hall w hS)
          subst hu
          exact ⟨.inr ⟨by simpa using hw, rfl⟩, hall⟩
      refine wpAnyH_firstSame hi (Region.noSelect_spec hs) (fun c a w h' => by rw [hdst] at h'; exact hQ c _ a w h') (fuel + is.length) listed a w (Region.free_spec hi hf) (by simpa using hr) hsame.1 hS ?_
      exact wpAnyH_bulkAux hs hQ hS is l (fun t i' ht => by simpa using hget (t + 1) i' (by simpa using ht)) (by simpa using hlen) fuel _ _ hB' hD' (by rw [hdst]; simpa [Act.put] using hn) hsame.2 h

/-- MANY THAT READ, AT ONCE. m: which operations; A: the frame behind them; the walk is of any world of S. -/
theorem wpAnyH_bulk {ol : List Oper} (m : List Bool) (n : Nat) {A : Act} {a : Act} {w : World} {fuel : Nat} {listed listed' : Array Bool} (hlen : (maskI 0 m).length = (maskL m ol).length)
    (hs : Region.noSelect ol.toArray = true) (hB : bulkB md ol.toArray (maskI 0 m) listed = true) (hD : dstB n (maskL m ol) = true) (hL : listAll (maskI 0 m) listed = listed') (hf : (maskI 0 m).length ≤ fuel)
    (hQ : ∀ c (t : Array Value) (a : Act) w, Q (.panic c) { a with tmps := t } w → Q (.panic c) a w) (hn : a.tmps.size = n) (hS : S w)
    (hrun : ∀ w', S w' → wpQuiet P ol.toArray (fun w'' => w'' = w') (fun a' => a' = A) (maskL m ol) a)
    (h : wpAnyH P md ol.toArray Q S (fuel - (maskI 0 m).length) listed' A w) : wpAnyH P md ol.toArray Q S fuel listed a w := by
  subst hL
  have hk : fuel - (maskI 0 m).length + (maskI 0 m).length = fuel := by omega
  have := wpAnyH_bulkAux (ops := ol.toArray) hs hQ hS (maskI 0 m) (maskL m ol) (maskL_get m ol 0 (fun j => by simp) hlen) hlen _ listed a hB hD hn hrun h
  rwa [hk] at this

/-- ONE THAT WRITES, ALONE: it is met as any operation; behind it S is to be shown anew, and the region goes on. -/
theorem wpAnyH_bar {ol : List Oper} (m : List Bool) {i : Nat} {o : Oper} {a : Act} {w : World} {fuel : Nat} {listed : Array Bool} (hi : maskI 0 m = [i]) (ho : maskL m ol = [o])
    (hr : Region.ready md ol.toArray listed = [i])
    (h : ∀ QB : Exit → Act → World → Prop, Shut (∀ a' w', S w' → wpAnyH P md ol.toArray Q S fuel (listed.setIfInBounds i true) a' w' → QB .normal a' w') → Shut (∀ e a' w', e ≠ .normal → Q e a' w' → QB e a' w') →
      wpList P ol.toArray QB (maskL m ol) a w) : wpAnyH P md ol.toArray Q S (fuel + 1) listed a w := by
  have hoi : ol.toArray[i]? = some o := by
    have := maskL_get (ops := ol.toArray) m ol 0 (fun j => by simp) (by rw [hi, ho]; rfl) 0 i (by rw [hi]; rfl)
    rw [this, ho]; rfl
  refine wpAnyH_all hr (by simp) fun j hj => ?_
  obtain rfl : j = i := by simpa using hj
  have h0 := h (fun e a' w' => match e with
    | .normal => S w' ∧ wpAnyH P md ol.toArray Q S fuel (listed.setIfInBounds j true) a' w'
    | e => Q e a' w') (fun a' w' h1 h2 => ⟨h1, h2⟩) (fun e a' w' h1 h2 => by cases e <;> first | exact absurd rfl h1 | exact h2)
  rw [ho] at h0
  unfold wpList at h0
  unfold wpOp
  simp only [hoi]
  split
  · rename_i hw
    rw [if_pos hw] at h0
    rcases h0 with h0 | ⟨ha, hl⟩
    · left
      unfold Oper.wp at *
      generalize (execOp a.eval o).run P w = r at *
      cases r with
      | ok n w' =>
        cases n <;> simp only [Oper.upon, wpList] at h0 ⊢ <;>
          first
            | exact h0
            | exact Calls.mono h0 (fun e w'' he => by cases e <;> exact he)
      | halt x w' => cases x <;> simp only [Oper.upon] at h0 ⊢ <;> exact h0
    · exact .inr ⟨ha, hl⟩
  · rename_i hw
    rw [if_neg hw] at h0
    simpa only [wpList] using h0

theorem wp_region_phases {id : Nat} {ol : List Oper} {a : Act} {w : World} (hm : P.follows .mixedOrders = true)
    (h : wpAnyH P .any ol.toArray Q (fun _ => True) ol.toArray.size (Array.replicate ol.toArray.size false) a w.drew) : (Code.region id ol.toArray true).wp P Q a w :=
  wp_region_held hm h

theorem wpAnyH_now (S' : World → Prop) {fuel : Nat} {listed : Array Bool} {a : Act} {w : World} (hS : ∀ w, S' w → S w) (h : wpAnyH P md ops Q S' fuel listed a w) : wpAnyH P md ops Q S fuel listed a w :=
  wpAnyH_mono hS _ _ _ _ h
end
end Go.Proofs.Ytopcnaakdldkpaa
