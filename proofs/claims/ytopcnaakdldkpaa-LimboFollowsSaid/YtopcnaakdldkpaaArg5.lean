/- Arguments of any flat shape: numbers, bools, slices of such, structs and arrays of such, by value. -/
import Derived.Test.YtopcnaakdldkpaaArg
import Derived.Deep.Slices
import Derived.Deep.Fields
import Derived.ChangeSame
import Derived.OpenShut
namespace Go.Proofs.Ytopcnaakdldkpaa
open Go.RowKit Go.ChangeShapes Go.WideShapes Go.Deep
set_option linter.unusedVariables false

inductive Kd where
  | int (k : IntKind)
  | bool
  | slice (ks : List Kd)
/-- The cell v fits the kind, in the world w (depth n). -/
def KFits (w : World) : Nat → Kd → Value → Prop
  | 0, _, _ => False
  | _ + 1, .int k, v => ∃ n, v = .int k n ∧ (Lit.int k n).wf = true
  | _ + 1, .bool, v => ∃ b, v = .bool b
  | n + 1, .slice ks, v => ∃ (a : Option Addr) (len cap : Nat), v = .slice a len cap ∧ ((a = none ∧ len = 0 ∧ cap = 0) ∨
      ∃ x : Addr, a = some x ∧ len ≤ cap ∧ cap ≤ maxLen ∧ ∀ i, i < cap → ∀ (j : Nat) (k : Kd), ks[j]? = some k → ∃ u, w.cell? (x.add (i * ks.length + j)) = some u ∧ KFits w n k u)
theorem KFits.succ {w : World} : ∀ (n : Nat) (k : Kd) (v : Value), KFits w n k v → KFits w (n + 1) k v
  | 0, _, _, h => h.elim
  | _ + 1, .int _, _, h => h
  | _ + 1, .bool, _, h => h
  | n + 1, .slice ks, v, ⟨a, len, cap, hv, h⟩ => ⟨a, len, cap, hv, h.imp id fun ⟨x, h1, h2, h3, f⟩ => ⟨x, h1, h2, h3, fun i hi j k hj => by
      obtain ⟨u, h4, h5⟩ := f i hi j k hj
      exact ⟨u, h4, KFits.succ n k u h5⟩⟩⟩
theorem KFits.below {w w' : World} (hb : Below w.heap.size w w') : ∀ (n : Nat) (k : Kd) (v : Value), KFits w n k v → KFits w' n k v
  | 0, _, _, h => h.elim
  | _ + 1, .int _, _, h => h
  | _ + 1, .bool, _, h => h
  | n + 1, .slice ks, v, ⟨a, len, cap, hv, h⟩ => ⟨a, len, cap, hv, h.imp id fun ⟨x, h1, h2, h3, f⟩ => ⟨x, h1, h2, h3, fun i hi j k hj => by
      obtain ⟨u, h4, h5⟩ := f i hi j k hj
      have h6 := World.block_lt_of_cell? w _ h4
      exact ⟨u, (World.cell?_of_block (hb.block _ h6)).trans h4, KFits.below hb n k u h5⟩⟩⟩

def shapeFs (P : Program) (r : TypeId → Option (List Kd)) : Nat → List Field → Option (List Kd)
  | _, [] => some []
  | off, f :: fs => match r f.type with
    | some ks => if f.offset = off ∧ P.cellsOf f.type = ks.length then (shapeFs P r (off + ks.length) fs).map (ks ++ ·) else none
    | none => none
def shapeK (P : Program) : Nat → TypeId → Option (List Kd)
  | 0, _ => none
  | n + 1, t => match P.underlying t with
    | some (.int k) => some [.int k]
    | some .bool => some [.bool]
    | some (.slice e) => match shapeK P n e with
      | some ks => if P.cellsOf e = ks.length then some [.slice ks] else none
      | none => none
    | some (.struct fs) => match shapeFs P (shapeK P n) 0 fs.toList with
      | some ks => if P.cellsOf t = ks.length then some ks else none
      | none => none
    | some (.array m e) => match shapeK P n e with
      | some ks => if P.cellsOf e = ks.length ∧ P.cellsOf t = m * ks.length then some (List.flatten (List.replicate m ks)) else none
      | none => none
    | _ => none

theorem getElem?_flatten_replicate {α : Type} (ks : List α) : ∀ (m j : Nat) (k : α), (List.flatten (List.replicate m ks))[j]? = some k → j / ks.length < m ∧ ks[j % ks.length]? = some k
  | 0, j, k, h => by simp at h
  | m + 1, j, k, h => by
    rw [List.replicate_succ, List.flatten_cons] at h
    by_cases hj : j < ks.length
    · rw [List.getElem?_append_left hj] at h
      rw [Nat.div_eq_of_lt hj, Nat.mod_eq_of_lt hj]
      exact ⟨by omega, h⟩
    · rw [List.getElem?_append_right (by omega)] at h
      obtain ⟨h1, h2⟩ := getElem?_flatten_replicate ks m _ k h
      have hp : 0 < ks.length := by
        rcases Nat.eq_zero_or_pos ks.length with h0 | h0
        · rw [List.length_eq_zero_iff.1 h0] at h2; simp at h2
        · exact h0
      have e1 : j = (j - ks.length) + ks.length := by omega
      rw [e1, Nat.add_div_right _ hp, Nat.add_mod_right]
      exact ⟨by omega, h2⟩

theorem arr3 {α : Type} {cs : Array α} (h : cs.size = 3) : ∃ c0 c1 c2, cs = #[c0, c1, c2] := by
  obtain ⟨l⟩ := cs
  match l, h with
  | [c0, c1, c2], _ => exact ⟨c0, c1, c2, rfl⟩
theorem arr4 {α : Type} {cs : Array α} (h : cs.size = 4) : ∃ c0 c1 c2 c3, cs = #[c0, c1, c2, c3] := by
  obtain ⟨l⟩ := cs
  match l, h with
  | [c0, c1, c2, c3], _ => exact ⟨c0, c1, c2, c3, rfl⟩
theorem arr5 {α : Type} {cs : Array α} (h : cs.size = 5) : ∃ c0 c1 c2 c3 c4, cs = #[c0, c1, c2, c3, c4] := by
  obtain ⟨l⟩ := cs
  match l, h with
  | [c0, c1, c2, c3, c4], _ => exact ⟨c0, c1, c2, c3, c4, rfl⟩
theorem arr8 {α : Type} {cs : Array α} (h : cs.size = 8) : ∃ c0 c1 c2 c3 c4 c5 c6 c7, cs = #[c0, c1, c2, c3, c4, c5, c6, c7] := by
  obtain ⟨l⟩ := cs
  match l, h with
  | [c0, c1, c2, c3, c4, c5, c6, c7], _ => exact ⟨c0, c1, c2, c3, c4, c5, c6, c7, rfl⟩
theorem arr13 {α : Type} {cs : Array α} (h : cs.size = 13) : ∃ c0 c1 c2 c3 c4 c5 c6 c7 c8 c9 c10 c11 c12, cs = #[c0, c1, c2, c3, c4, c5, c6, c7, c8, c9, c10, c11, c12] := by
  obtain ⟨l⟩ := cs
  match l, h with
  | [c0, c1, c2, c3, c4, c5, c6, c7, c8, c9, c10, c11, c12], _ => exact ⟨c0, c1, c2, c3, c4, c5, c6, c7, c8, c9, c10, c11, c12, rfl⟩
theorem arr16 {α : Type} {cs : Array α} (h : cs.size = 16) : ∃ c0 c1 c2 c3 c4 c5 c6 c7 c8 c9 c10 c11 c12 c13 c14 c15, cs = #[c0, c1, c2, c3, c4, c5, c6, c7, c8, c9, c10, c11, c12, c13, c14, c15] := by
  obtain ⟨l⟩ := cs
  match l, h with
  | [c0, c1, c2, c3, c4, c5, c6, c7, c8, c9, c10, c11, c12, c13, c14, c15], _ => exact ⟨c0, c1, c2, c3, c4, c5, c6, c7, c8, c9, c10, c11, c12, c13, c14, c15, rfl⟩
section
variable {H : Type} {enc : TypeId × Value → H} {P : Program} {w : World} {base : Nat} {held : Bool}
def KAll (w : World) (n : Nat) (ks : List Kd) (cs : List Value) : Prop := ∀ (j : Nat) (k : Kd), ks[j]? = some k → ∃ u, cs[j]? = some u ∧ KFits w n k u

theorem shapeFs_fits {n m : Nat} {cs : List Value} (ih : ∀ (t : TypeId) (ks : List Kd) (cs : List Value) (x : DataW H × List MemPlace), shapeK P n t = some ks → DataW.trod enc P w base (fun _ => true) held m t cs = some x → KAll w n ks cs) :
    ∀ (fs : List Field) (off : Nat) (ks : List Kd), shapeFs P (shapeK P n) off fs = some ks → (∀ f ∈ fs, ∃ y, DataW.trod enc P w base (fun _ => true) held m f.type ((cs.drop f.offset).take (P.cellsOf f.type)) = some y) →
      ∀ (j : Nat) (k : Kd), ks[j]? = some k → ∃ u, cs[off + j]? = some u ∧ KFits w n k u
  | [], off, ks, h, _, j, k, hj => by
    simp only [shapeFs, Option.some.injEq] at h
    subst h
    simp at hj
  | f :: fs, off, ks, h, hf, j, k, hj => by
    simp only [shapeFs] at h
    split at h
    · rename_i kf hkf
      split at h
      · rename_i hc
        simp only [Option.map_eq_some_iff] at h
        obtain ⟨kr, hr, rfl⟩ := h
        by_cases hl : j < kf.length
        · rw [List.getElem?_append_left hl] at hj
          obtain ⟨y, hy⟩ := hf f (by simp)
          obtain ⟨u, h1, h2⟩ := ih f.type kf _ y hkf hy j k hj
          rw [List.getElem?_take, if_pos (by rw [hc.2]; exact hl), List.getElem?_drop, hc.1] at h1
          exact ⟨u, h1, h2⟩
        · rw [List.getElem?_append_right (by omega)] at hj
          obtain ⟨u, h1, h2⟩ := shapeFs_fits ih fs _ kr hr (fun g hg => hf g (by simp [hg])) _ k hj
          refine ⟨u, ?_, h2⟩
          rw [← h1]; congr 1; omega
      · cases h
    · cases h

theorem shapeK_fits : ∀ (n : Nat) (t : TypeId) (ks : List Kd) (fuel : Nat) (cs : List Value) (x : DataW H × List MemPlace), shapeK P n t = some ks → DataW.trod enc P w base (fun _ => true) held fuel t cs = some x → KAll w n ks cs
  | 0, t, ks, fuel, cs, x, hs, _ => by simp [shapeK] at hs
  | n + 1, t, ks, fuel, cs, x, hs, h => by
    simp only [shapeK] at hs
    split at hs
    · rename_i q hu
      obtain rfl : [Kd.int q] = ks := by simpa using hs
      obtain ⟨a, rfl, _, hw⟩ := DataW.trod_int hu h
      intro j k hj
      have hj0 : j < 1 := (List.getElem?_eq_some_iff.1 hj).1
      obtain rfl : j = 0 := by omega
      obtain rfl : Kd.int q = k := by simpa using hj
      exact ⟨.int q a, rfl, a, rfl, hw⟩
    · rename_i hu
      obtain rfl : [Kd.bool] = ks := by simpa using hs
      obtain ⟨b, rfl, _⟩ := DataW.trod_bool hu h
      intro j k hj
      have hj0 : j < 1 := (List.getElem?_eq_some_iff.1 hj).1
      obtain rfl : j = 0 := by omega
      obtain rfl : Kd.bool = k := by simpa using hj
      exact ⟨.bool b, rfl, b, rfl⟩
    · rename_i e hu
      split at hs
      · rename_i ke hke
        split at hs
        · rename_i hc
          obtain rfl : [Kd.slice ke] = ks := by simpa using hs
          intro j k hj
          have hj0 : j < 1 := (List.getElem?_eq_some_iff.1 hj).1
          obtain rfl : j = 0 := by omega
          obtain rfl : Kd.slice ke = k := by simpa using hj
          rcases open_slice hu h with ⟨rfl, _⟩ | ⟨a, len, cap, m, f, D, Pl, rfl, hb, hl, hm, hmm, _, hi⟩
          · exact ⟨_, rfl, none, 0, 0, rfl, .inl ⟨rfl, rfl, rfl⟩⟩
          · refine ⟨_, rfl, some a, len, cap, rfl, .inr ⟨a, rfl, hl, hm, fun i hlt j k hj => ?_⟩⟩
            simp only [if_true] at hmm
            obtain ⟨cs', hcs, ht'⟩ := hi i (by omega)
            obtain ⟨u, h1, h2⟩ := shapeK_fits n e ke f cs' _ hke ht' j k hj
            obtain ⟨_, hcl, hat⟩ := World.cells?_some hcs
            have hjl : j < ke.length := (List.getElem?_eq_some_iff.1 hj).1
            have h3 := hat j (by omega)
            rw [h1, hc, Go.Deep.add_add] at h3
            exact ⟨u, h3, h2⟩
        · cases hs
      · cases hs
    · rename_i fs hu
      split at hs
      · rename_i ke hke
        split at hs
        · rename_i hc
          obtain rfl : ke = ks := by simpa using hs
          obtain ⟨ys, m, _, _, hl, hyl, hf⟩ := DataW.trod_struct hu h
          intro j k hj
          obtain ⟨u, h1, h2⟩ := shapeFs_fits (m := m) (cs := cs) (fun t ks cs x h1 h2 => shapeK_fits n t ks m cs x h1 h2) fs.toList 0 ke hke (fun f hf' => by
            obtain ⟨i, hi, rfl⟩ := List.mem_iff_getElem.1 hf'
            have h3 := hf i _ (Array.getElem?_eq_getElem (by simpa using hi))
            rw [List.getElem?_eq_getElem (by rw [hyl]; simpa using hi)] at h3
            exact ⟨_, by simpa using h3⟩) j k hj
          rw [Nat.zero_add] at h1
          exact ⟨u, h1, KFits.succ n k u h2⟩
        · cases hs
      · cases hs
    · rename_i m e hu
      split at hs
      · rename_i ke hke
        split at hs
        · rename_i hc
          obtain rfl : List.flatten (List.replicate m ke) = ks := by simpa using hs
          obtain ⟨ys, f, _, _, hl, hyl, hf⟩ := DataW.trod_array hu h
          intro j k hj
          obtain ⟨h1, h2⟩ := getElem?_flatten_replicate ke m j k hj
          have h3 := hf (j / ke.length) h1
          rw [List.getElem?_eq_getElem (by omega)] at h3
          obtain ⟨u, h4, h5⟩ := shapeK_fits n e ke f _ _ hke h3 _ k h2
          have hlt : j % ke.length < ke.length := (List.getElem?_eq_some_iff.1 h2).1
          rw [List.getElem?_take, if_pos (by rw [hc.1]; exact hlt), List.getElem?_drop, hc.1] at h4
          refine ⟨u, ?_, KFits.succ n k u h5⟩
          rw [← h4]
          congr 1
          have := Nat.div_add_mod j ke.length
          rw [Nat.mul_comm] at this
          omega
        · cases hs
      · cases hs
    · cases hs

/-- A struct by value, opened: its cells fit the shape. -/
theorem open_shape {fs : Array Field} (n : Nat) {t : TypeId} {r : Reach} {b0 : Nat} {v : Value} {d : DataW H} {ps : List MemPlace} {ks : List Kd} (hu : P.underlying t = some (.struct fs)) (hs : shapeK P n t = some ks) (hk : P.cellsOf t = ks.length)
    (hv : Value.okWide P w r b0 t v) (h : DataW.Trod enc P w base (fun _ => true) held t v d ps) : ∃ cs : Array Value, v = .agg cs ∧ cs.size = ks.length ∧ KAll w n ks cs.toList := by
  obtain ⟨cs, rfl, hsz⟩ := okWide_struct hu hv
  obtain ⟨fuel, hf⟩ := h
  exact ⟨cs, rfl, hsz.trans hk, shapeK_fits n t ks fuel _ _ hs (by simpa [Value.cells] using hf)⟩
/-- A slice, opened. -/
theorem open_shape1 {e : TypeId} (n : Nat) {t : TypeId} {r : Reach} {b0 : Nat} {v : Value} {d : DataW H} {ps : List MemPlace} {ke : List Kd} (hu : P.underlying t = some (.slice e)) (hs : shapeK P n t = some [.slice ke])
    (hv : Value.okWide P w r b0 t v) (h : DataW.Trod enc P w base (fun _ => true) held t v d ps) : KFits w n (.slice ke) v := by
  obtain ⟨a, len, cap, rfl⟩ := okWide_slice hu hv
  obtain ⟨fuel, hf⟩ := h
  obtain ⟨u, h1, h2⟩ := shapeK_fits n t _ fuel _ _ hs hf 0 _ rfl
  simp [Value.cells] at h1
  rw [h1]; exact h2
end
end Go.Proofs.Ytopcnaakdldkpaa
