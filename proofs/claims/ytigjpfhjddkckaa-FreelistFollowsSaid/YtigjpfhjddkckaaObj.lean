/- An array of pointers that may be nil, and the objects behind them. -/
import Derived.Test.YtigjpfhjddkckaaSl
namespace Go.Proofs.Ytigjpfhjddkckaa
open Go.RowKit
set_option linter.unusedVariables false

/-- A pointer or nil. -/
def ptrV : Option Nat → Value
  | none => .pointer none
  | some g => .pointer (some ⟨g, 0, none⟩)
/-- The block of an array of pointers. -/
def machs (T : TypeId) (ga : Nat) (l : List (Option Nat)) : Asr := blkA T ga (l.map ptrV).toArray
/-- The objects of a list. -/
def objs {α : Type} (f : α → Asr) (xs : List α) : Asr := sepR (xs.map f) Asr.emp
/-- All but one of them. -/
def objsBut {α : Type} (f : α → Asr) (xs : List α) (t : Nat) : Asr := sepR ((xs.map f).set t Asr.emp) Asr.emp
section
variable {w0 w : World} {R p : Asr} {T : TypeId} {ga : Nat} {l : List (Option Nat)}
theorem Hold.machGet (h : Hold w0 w (machs T ga l * R)) {i : Nat} {o : Option Nat} (hi : l[i]? = some o) : w.cell? ⟨ga, i, none⟩ = some (ptrV o) :=
  h.blk.some_ (by simp [hi])
theorem Hold.machFrozen (h : Hold w0 w (machs T ga l * R)) (i : Nat) : w.frozen? ⟨ga, i, none⟩ = false := h.blk.frozen i
theorem Hold.machSet (h : Hold w0 w (machs T ga l * R)) (i : Nat) (o : Option Nat) : Hold w0 (w.setCell ⟨ga, i, none⟩ (ptrV o)) (machs T ga (l.set i o) * R) := by
  have h1 := h.setBlk i (ptrV o)
  have e : (l.map ptrV).toArray.setIfInBounds i (ptrV o) = ((l.set i o).map ptrV).toArray := by simp [List.map_set]
  rw [e] at h1
  exact h1
variable {α : Type} {f : α → Asr} {xs : List α}
theorem Hold.takeO (h : Hold w0 w (objs f xs * R)) {t : Nat} {a : α} (ht : xs[t]? = some a) : Hold w0 w (f a * (objsBut f xs t * R)) :=
  h.imp ((Imp.on R (Imp.nth (f a) Asr.emp (xs.map f) t (by simp [ht]))).trans (Imp.assoc _ _ _))
theorem Hold.giveO {t : Nat} {b : α} (h : Hold w0 w (f b * (objsBut f xs t * R))) (ht : t < xs.length) : Hold w0 w (objs f (xs.set t b) * R) := by
  have h1 := h.imp ((Imp.assoc' _ _ _).trans (Imp.on R (Imp.putAt (f b) Asr.emp ((xs.map f).set t Asr.emp) t (by simp [ht]))))
  have e : ((xs.map f).set t Asr.emp).set t (f b) = (xs.set t b).map f := by simp [List.map_set]
  rw [e] at h1
  exact h1
theorem Imp.addEmp (R : Asr) : Imp R (Asr.emp * R) := Imp.intro_emp R
/-- The object at t is there no longer. -/
theorem Hold.giveNone {t : Nat} {b : α} (h : Hold w0 w (objsBut f xs t * R)) (ht : t < xs.length) (hb : f b = Asr.emp) : Hold w0 w (objs f (xs.set t b) * R) := by
  have h1 : Hold w0 w (f b * (objsBut f xs t * R)) := by rw [hb]; exact h.imp (Imp.addEmp _)
  exact h1.giveO ht
theorem Imp.objsEmp {R : Asr} : ∀ {xs : List α}, (∀ x ∈ xs, f x = Asr.emp) → Imp R (objs f xs * R)
  | [], _ => Imp.intro_emp R
  | x :: xs, h => by
    have h1 : f x = Asr.emp := h x (by simp)
    have e : objs f (x :: xs) = Asr.emp * objs f xs := by show f x * objs f xs = _; rw [h1]
    rw [e]
    exact ((Imp.objsEmp (fun y hy => h y (by simp [hy]))).trans (Imp.intro_emp _)).trans (Imp.assoc' _ _ _)
/-- No object lies at t. -/
theorem Hold.takeNone (h : Hold w0 w (objs f xs * R)) {t : Nat} {a : α} (ht : xs[t]? = some a) : Hold w0 w (objsBut f xs t * R) := (h.takeO ht).drop
end
end Go.Proofs.Ytigjpfhjddkckaa
