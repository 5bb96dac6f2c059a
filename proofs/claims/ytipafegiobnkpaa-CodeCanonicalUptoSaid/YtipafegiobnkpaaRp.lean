/- The reference's reader, broken or not: plain laws. -/
import Derived.Test.YtipafegiobnkpaaRf
import Derived.Test.YtipafegiobnkpaaRi
namespace Go.Proofs.Ytipafegiobnkpaa
open Go.RowKit
set_option linter.unusedVariables false

section
variable {α : Type} {p : List Nat → Option (α × List Nat)} {X : Option (List α × List Nat)} {m : Nat} {o o' : Option (List Nat)} {l : List α} {x : α}
/-- What has been read by p: x, and o' is left. -/
def Res (p : List Nat → Option (α × List Nat)) (o o' : Option (List Nat)) (x : α) : Prop := match o' with
  | none => o.bind p = none
  | some r => o.bind p = some (x, r)
def LeftO (p : List Nat → Option (α × List Nat)) (X : Option (List α × List Nat)) (m : Nat) (o : Option (List Nat)) (l : List α) : Prop := match o with
  | none => X = none
  | some r => Left p X m r l
def Done (X : Option (List α × List Nat)) (o : Option (List Nat)) (l : List α) : Prop := match o with
  | none => X = none
  | some r => X = some (l, r)
theorem LeftO.start (p : List Nat → Option (α × List Nat)) (n : Nat) (o : Option (List Nat)) : LeftO p (o.bind (many p n)) n o [] := by
  cases o with
  | none => rfl
  | some r => exact Left.start p n r
theorem LeftO.step (h : LeftO p X (m + 1) o l) (hr : Res p o o' x) : LeftO p X m o' (l ++ [x]) := by
  cases o with
  | none =>
    cases o' with
    | none => exact h
    | some r => cases hr
  | some r =>
    cases o' with
    | none => exact Left.stop h hr
    | some r' => exact Left.step h hr
theorem LeftO.done (h : LeftO p X 0 o l) : Done X o l := by
  cases o with
  | none => exact h
  | some r => exact Left.done h
end
theorem res_s (o : Option (List Nat)) : Res decS o ((sR o).map (·.2)) ((sR o).elim 0 (·.1)) := by
  unfold sR
  cases o with
  | none => rfl
  | some r =>
    show Res decS (some r) ((decS r).map (·.2)) ((decS r).elim 0 (·.1))
    cases h : decS r with
    | none => exact h
    | some y => exact h
theorem res_u (o : Option (List Nat)) : Res decU o ((uR o).map (·.2)) ((uR o).elim 0 (·.1)) := by
  unfold uR
  cases o with
  | none => rfl
  | some r =>
    show Res decU (some r) ((decU r).map (·.2)) ((decU r).elim 0 (·.1))
    cases h : decU r with
    | none => exact h
    | some y => exact h
/-- Bytes are less than 256, and there are at most N of them. -/
def OkR (N : Nat) (o : Option (List Nat)) : Prop := ∀ r, o = some r → (∀ x ∈ r, x < 256) ∧ r.length ≤ N
theorem OkR.none (N : Nat) : OkR N none := fun r h => by cases h
theorem OkR.res {α : Type} {p : List Nat → Option (α × List Nat)} {f : α → List Nat} {ok : α → Prop} (hc : Codec p f ok) {N : Nat} {o o' : Option (List Nat)} {x : α} (h : OkR N o) (hr : Res p o o' x) : OkR N o' := by
  intro r hr'
  subst hr'
  cases o with
  | none => cases hr
  | some s =>
    have h1 := hc.inv s r x (h s rfl).1 hr
    have h2 := (h s rfl).2
    rw [h1.2, List.length_append] at h2
    exact ⟨fun y hy => (h s rfl).1 y (by rw [h1.2]; exact List.mem_append_right _ hy), by omega⟩
theorem okR_s {N : Nat} {o : Option (List Nat)} (h : OkR N o) : OkR N ((sR o).map (·.2)) := h.res codecS (res_s o)
theorem okR_u {N : Nat} {o : Option (List Nat)} (h : OkR N o) : OkR N ((uR o).map (·.2)) := h.res codecU (res_u o)
theorem okR_l {N m : Nat} {o : Option (List Nat)} (h : OkR N o) : OkR N ((lR m o).map (·.2)) := by
  intro r hr
  unfold lR at hr
  cases hu : Go.Proofs.Ytipafegiobnkpaa.uR o with
  | none => rw [hu] at hr; cases hr
  | some y =>
    rw [hu] at hr
    simp only [Option.bind_some] at hr
    split at hr
    · cases hr
    · refine okR_u h r ?_
      rw [hu]; exact hr
theorem lR_le {N m : Nat} {o : Option (List Nat)} (h : OkR N o) : (lR m o).elim 0 (·.1) ≤ N := by
  have h1 := okR_u h
  unfold lR
  cases hu : Go.Proofs.Ytipafegiobnkpaa.uR o with
  | none => exact Nat.zero_le _
  | some y =>
    simp only [Option.bind_some]
    split
    · exact Nat.zero_le _
    · rename_i hl
      show y.1 ≤ N
      have h2 := (h1 y.2 (by rw [hu]; rfl)).2
      have h3 : y.2.length / m ≤ y.2.length := Nat.div_le_self _ _
      omega
theorem lR_none (m : Nat) : lR m none = none := rfl
/-- The start of a list whose elements have at least m bytes. -/
theorem start_list {α : Type} {p : List Nat → Option (α × List Nat)} {f : α → List Nat} {ok : α → Prop} (hc : Codec p f ok) {N m : Nat} (hm : 0 < m) (hf : ∀ x, ok x → m ≤ (f x).length) {o : Option (List Nat)} (h : OkR N o) :
    LeftO p (o.bind (listD p)) ((lR m o).elim 0 (·.1)) ((lR m o).map (·.2)) [] := by
  cases o with
  | none => exact (rfl : (none : Option (List α × List Nat)) = none)
  | some r =>
    show LeftO p (listD p r) ((lR m (some r)).elim 0 (·.1)) ((lR m (some r)).map (·.2)) []
    unfold lR uR
    simp only [Option.bind_some]
    cases hu : decU r with
    | none =>
      show listD p r = none
      unfold listD; rw [hu]; rfl
    | some y =>
      obtain ⟨v, s⟩ := y
      simp only [Option.bind_some]
      obtain ⟨_, hrs⟩ := decU_inv (h r rfl).1 hu
      by_cases hl : s.length / m < v
      · rw [if_pos hl]
        show listD p r = none
        unfold listD
        rw [hu]
        simp only [Option.bind_some]
        split
        · rfl
        · cases hmm : many p v s with
          | none => rfl
          | some z =>
            exfalso
            obtain ⟨l, t⟩ := z
            obtain ⟨h1, h2, h3⟩ := many_inv hc v s t l (fun b hb => (h r rfl).1 b (by rw [hrs]; exact List.mem_append_right _ hb)) hmm
            have h4 : ∀ l : List α, (∀ x ∈ l, ok x) → m * l.length ≤ (l.flatMap f).length := by
              intro l
              induction l with
              | nil => simp
              | cons a l ih =>
                intro hl
                have h5 := hf a (hl a (by simp))
                have h6 := ih (fun x hx => hl x (by simp [hx]))
                rw [List.flatMap_cons, List.length_append, List.length_cons, Nat.mul_succ]; omega
            have h7 := h4 l h2
            rw [h1] at h7
            have h8 := congrArg List.length h3
            rw [List.length_append] at h8
            rw [Nat.div_lt_iff_lt_mul hm] at hl
            rw [Nat.mul_comm] at hl
            omega
      · rw [if_neg hl]
        have hl2 : ¬ s.length < v := by
          intro h9
          apply hl
          exact Nat.lt_of_le_of_lt (Nat.div_le_self _ _) h9
        show Left p (listD p r) v s []
        rw [show listD p r = many p v s by unfold listD; rw [hu]; simp [hl2]]
        exact Left.start p v s
/-- Five numbers make an instruction. -/
theorem res_five {o o1 o2 o3 o4 o5 : Option (List Nat)} {a b c d e : Int} (h1 : Res decS o o1 a) (h2 : Res decS o1 o2 b) (h3 : Res decS o2 o3 c) (h4 : Res decS o3 o4 d) (h5 : Res decS o4 o5 e) : Res insD o o5 [a, b, c, d, e] := by
  have h := (((((LeftO.start decS 5 o).step h1).step h2).step h3).step h4).step h5
  have hd := h.done
  cases o5 with
  | none => exact hd
  | some r => exact hd
/-- A list read to its end. -/
theorem res_list {α : Type} {p : List Nat → Option (α × List Nat)} {o o' : Option (List Nat)} {l : List α} (h : Done (o.bind (listD p)) o' l) : Res (listD p) o o' l := by
  cases o' with
  | none => exact h
  | some r => exact h
theorem encI5_ge {i : List Int} (h : i.length = 5 ∧ ∀ x ∈ i, I64 x) : 5 ≤ (encI i).length := by
  have := flat_le (f := encS) (fun n => encU_pos _) i
  unfold encI; omega
def fin4 (s : Scr) : Option (List Nat) → Option Scr
  | some [] => some s
  | _ => none
/-- The whole script. -/
theorem scrD_done {r0 : List Nat} {L : List Int} {sb : Bool} {o1 o2 o3 o4 : Option (List Nat)} {i : List Nat} {p : List (List (List Int))} {q : List Int} (hc : Done ((cfgD r0).map fun y => ([y.1], y.2)) o1 [(L, sb)])
    (hi : Res (listD decU) o1 o2 i) (hp : Res (listD (listD insD)) o2 o3 p) (hq : Res (listD decS) o3 o4 q) : scrD r0 = fin4 ⟨L, sb, i, p, q⟩ o4 := by
  unfold scrD
  cases hcf : cfgD r0 with
  | none =>
    rw [hcf] at hc
    cases o1 with
    | some r => simp [Done] at hc
    | none =>
      cases o2 with
      | some r => cases hi
      | none =>
        cases o3 with
        | some r => cases hp
        | none =>
          cases o4 with
          | some r => cases hq
          | none => rfl
  | some y =>
    rw [hcf] at hc
    cases o1 with
    | none => simp [Done] at hc
    | some r1 =>
      simp only [Done, Option.map_some, Option.some.injEq, Prod.mk.injEq, List.cons.injEq, and_true] at hc
      obtain ⟨hc1, hc2⟩ := hc
      simp only [Option.bind_some]
      rw [hc1, hc2]
      cases o2 with
      | none =>
        have h1 : listD decU r1 = none := hi
        rw [h1]
        cases o3 with
        | some r => cases hp
        | none =>
          cases o4 with
          | some r => cases hq
          | none => rfl
      | some r2 =>
        have h1 : listD decU r1 = some (i, r2) := hi
        rw [h1]
        simp only [Option.bind_some]
        cases o3 with
        | none =>
          have h2 : listD (listD insD) r2 = none := hp
          rw [h2]
          cases o4 with
          | some r => cases hq
          | none => rfl
        | some r3 =>
          have h2 : listD (listD insD) r2 = some (p, r3) := hp
          rw [h2]
          simp only [Option.bind_some]
          cases o4 with
          | none =>
            have h3 : listD decS r3 = none := hq
            rw [h3]; rfl
          | some r4 =>
            have h3 : listD decS r3 = some (q, r4) := hq
            rw [h3]
            simp only [Option.bind_some]
            cases r4 with
            | nil => rfl
            | cons x t => rfl
end Go.Proofs.Ytipafegiobnkpaa
