/- An array of pointers to machines of one kind, with the machines. -/
import Derived.Test.YtigjpfhjddkckaaObj
namespace Go.Proofs.Ytigjpfhjddkckaa
open Go.RowKit
set_option linter.unusedVariables false

section
variable {α : Type}
def optA (f : α → Asr) : Option α → Asr
  | none => Asr.emp
  | some a => f a
def arrP (T : TypeId) (f : α → Asr) (g : α → Nat) (ga : Nat) (xs : List (Option α)) : Asr := machs T ga (xs.map (Option.map g)) * objs (optA f) xs
def arrH (T : TypeId) (f : α → Asr) (g : α → Nat) (ga : Nat) (xs : List (Option α)) (t : Nat) : Asr := machs T ga (xs.map (Option.map g)) * objsBut (optA f) xs t
variable {w0 w : World} {R : Asr} {T : TypeId} {f : α → Asr} {g : α → Nat} {ga t : Nat} {xs : List (Option α)} {a b : α}
theorem arr_at (h : Hold w0 w (arrP T f g ga xs * R)) {o : Option α} (ht : xs[t]? = some o) : w.cell? ⟨ga, t, none⟩ = some (ptrV (o.map g)) := Hold.machGet h.part (by simp [ht])
theorem arr_some (h : Hold w0 w (arrP T f g ga xs * R)) (ht : xs[t]? = some (some a)) : w.cell? ⟨ga, t, none⟩ = some (.pointer (some ⟨g a, 0, none⟩)) := arr_at h ht
theorem arr_none (h : Hold w0 w (arrP T f g ga xs * R)) (ht : xs[t]? = some none) : w.cell? ⟨ga, t, none⟩ = some (.pointer none) := arr_at h ht
theorem arr_frozen (h : Hold w0 w (arrP T f g ga xs * R)) (t : Nat) : w.frozen? ⟨ga, t, none⟩ = false := Hold.machFrozen h.part t
theorem arr_take (h : Hold w0 w (arrP T f g ga xs * R)) (ht : xs[t]? = some (some a)) : Hold w0 w (f a * (arrH T f g ga xs t * R)) :=
  by
    have h2 := Hold.takeO (f := optA f) h.part.swap ht
    have h3 : Hold w0 w (machs T ga (xs.map (Option.map g)) * (objsBut (optA f) xs t * (f a * R))) := h2.pk3 [2, 1, 0]
    exact h3.join.swap
theorem arr_keep (ht : xs[t]? = some (some a)) (hg : g b = g a) : (xs.set t (some b)).map (Option.map g) = xs.map (Option.map g) := by
  rw [List.map_set]
  refine List.ext_getElem? fun k => ?_
  by_cases hk : t = k
  · subst hk
    rw [List.getElem?_set_self (by simpa using (List.getElem?_eq_some_iff.1 ht).1)]
    simp [ht, hg]
  · rw [List.getElem?_set_ne hk]
theorem arr_give (h : Hold w0 w (f b * (arrH T f g ga xs t * R))) (ht : xs[t]? = some (some a)) (hg : g b = g a) : Hold w0 w (arrP T f g ga (xs.set t (some b)) * R) := by
  have hl : t < xs.length := (List.getElem?_eq_some_iff.1 ht).1
  have h1 : Hold w0 w (machs T ga (xs.map (Option.map g)) * (objsBut (optA f) xs t * (f b * R))) := h.swap.part
  have h2 : Hold w0 w (optA f (some b) * (objsBut (optA f) xs t * (machs T ga (xs.map (Option.map g)) * R))) := h1.pk3 [2, 1, 0]
  have h3 := (h2.giveO hl).swap
  unfold arrP
  rw [arr_keep ht hg]
  exact h3.join
/-- A new machine in the place t: what lay there is there no longer. -/
theorem arr_born (h : Hold w0 w (f b * (arrP T f g ga xs * R))) (hl : t < xs.length) : Hold w0 (w.setCell ⟨ga, t, none⟩ (.pointer (some ⟨g b, 0, none⟩))) (arrP T f g ga (xs.set t (some b)) * R) := by
  have ho : xs[t]? = some (xs[t]'hl) := List.getElem?_eq_getElem hl
  have h1 : Hold w0 w (machs T ga (xs.map (Option.map g)) * (objs (optA f) xs * (f b * R))) := h.swap.part
  have h2 := Hold.machSet h1 t (some (g b))
  have h3 := h2.swap.takeNone ho
  have h4 : Hold w0 (w.setCell ⟨ga, t, none⟩ (.pointer (some ⟨g b, 0, none⟩))) (optA f (some b) * (objsBut (optA f) xs t * (machs T ga ((xs.map (Option.map g)).set t (some (g b))) * R))) := h3.pk3 [2, 0, 1]
  have h5 := (h4.giveO hl).swap
  unfold arrP
  rw [List.map_set]
  exact h5.join
theorem arr_gone (h : Hold w0 w (arrP T f g ga xs * R)) (hl : t < xs.length) : Hold w0 (w.setCell ⟨ga, t, none⟩ (.pointer none)) (arrP T f g ga (xs.set t none) * R) := by
  have ho : xs[t]? = some (xs[t]'hl) := List.getElem?_eq_getElem hl
  have h2 := Hold.machSet h.part t none
  have h3 := (h2.swap.takeNone ho).giveNone hl (b := none) rfl
  have h5 := h3.swap
  unfold arrP
  rw [List.map_set]
  exact h5.join
theorem arr_init (h : Hold w0 w (machs T ga (xs.map (Option.map g)) * R)) (hx : ∀ x ∈ xs, x = none) : Hold w0 w (arrP T f g ga xs * R) :=
  (h.imp (Imp.under _ (Imp.objsEmp (f := optA f) (xs := xs) (fun x h => by rw [hx x h]; rfl)))).join
theorem set_same {xs : List α} {t : Nat} {a : α} (h : xs[t]? = some a) : xs.set t a = xs := by
  refine List.ext_getElem? fun k => ?_
  by_cases hk : t = k
  · subst hk
    rw [List.getElem?_set_self (List.getElem?_eq_some_iff.1 h).1, h]
  · rw [List.getElem?_set_ne hk]
end
end Go.Proofs.Ytigjpfhjddkckaa
