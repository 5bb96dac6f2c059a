/- Arguments: a slice of structs whose fields are numbers and bools. -/
import Derived.Test.YtddghhddafeojaaArg
import Derived.Deep.Slices
import Derived.Deep.Fields
import Derived.ChangeSame
namespace Go.Proofs.Ytddghhddafeojaa
open Go.RowKit Go.ChangeShapes Go.WideShapes Go.Deep
set_option linter.unusedVariables false

inductive FK where
  | int (k : IntKind)
  | bool
def Fits : FK → Value → Prop
  | .int k, v => ∃ n, v = .int k n ∧ (Lit.int k n).wf = true
  | .bool, v => ∃ b, v = .bool b
def fitsB (P : Program) (t : TypeId) : FK → Bool
  | .int k => match P.underlying t with
    | some (.int k') => k == k'
    | _ => false
  | .bool => match P.underlying t with
    | some .bool => true
    | _ => false
def fieldsB (P : Program) (fs : Array Field) (ks : List FK) : Bool := (List.range fs.size).all fun j => match fs[j]?, ks[j]? with
  | some f, some k => fitsB P f.type k
  | _, _ => false

/-- What a walk is told of a slice of structs. -/
def IsStructs (ks : List FK) (w : World) (a : Option Addr) (len cap : Nat) : Prop :=
  (a = none ∧ len = 0 ∧ cap = 0) ∨
  ∃ x, a = some x ∧ len ≤ cap ∧ cap ≤ maxLen ∧ ∀ i, i < len → ∀ (j : Nat) (fk : FK), ks[j]? = some fk → ∃ v, w.cell? (x.add (i * ks.length + j)) = some v ∧ Fits fk v

theorem IsStructs.at_ {ks : List FK} {w w' : World} {a : Option Addr} {len cap : Nat} (h : IsStructs ks w a len cap) (hb : Below w.heap.size w w') {i : Nat} (hi : i < len) :
    ∃ x, a = some x ∧ ∀ (j : Nat) (fk : FK), ks[j]? = some fk → ∃ v, w'.cell? (x.add (i * ks.length + j)) = some v ∧ Fits fk v := by
  rcases h with ⟨_, h, _⟩ | ⟨x, rfl, hl, _, hc⟩
  · omega
  · refine ⟨x, rfl, fun j fk hj => ?_⟩
    obtain ⟨v, h1, h2⟩ := hc i hi j fk hj
    have h3 := World.block_lt_of_cell? w _ h1
    exact ⟨v, (World.cell?_of_block (hb.block _ h3)).trans h1, h2⟩

section
variable {H : Type} {enc : TypeId × Value → H} {P : Program} {w : World} {base : Nat} {held : Bool}
theorem trod_fits {t : TypeId} {fk : FK} {fuel : Nat} {v : Value} {x : DataW H × List MemPlace} (hf : fitsB P t fk = true) (h : DataW.trod enc P w base (fun _ => true) held fuel t [v] = some x) : Fits fk v := by
  cases fk with
  | int k =>
    simp only [fitsB] at hf
    split at hf
    · rename_i k' hk
      obtain rfl : k = k' := by simpa using hf
      obtain ⟨n, hv, _, hw⟩ := DataW.trod_int hk h
      exact ⟨n, by simpa using hv, hw⟩
    · cases hf
  | bool =>
    simp only [fitsB] at hf
    split at hf
    · rename_i hk
      obtain ⟨b, hv, _⟩ := DataW.trod_bool hk h
      exact ⟨b, by simpa using hv⟩
    · cases hf

theorem open_structs {t e : TypeId} {fs : Array Field} {fuel : Nat} {cs : List Value} {x : DataW H × List MemPlace} (ks : List FK) (ht : P.underlying t = some (.slice e)) (he : P.underlying e = some (.struct fs))
    (hone : oneCellFields P fs = true) (hC : P.cellsOf e = fs.size) (hlen : ks.length = fs.size) (hks : fieldsB P fs ks = true) (h : DataW.trod enc P w base (fun _ => true) held fuel t cs = some x) :
    ∃ a len cap, cs = [.slice a len cap] ∧ IsStructs ks w a len cap := by
  rcases open_slice ht h with ⟨h0, _⟩ | ⟨a, len, cap, m, n, D, Pl, hcs, hb, hl, hm, hmm, _, hi⟩
  · exact ⟨none, 0, 0, h0, .inl ⟨rfl, rfl, rfl⟩⟩
  · refine ⟨some a, len, cap, hcs, .inr ⟨a, rfl, hl, hm, fun i hlt j fk hj => ?_⟩⟩
    simp only [if_true] at hmm
    obtain ⟨cs', hc, ht'⟩ := hi i (by omega)
    obtain ⟨ys, n', _, _, hlen', hyl, hf⟩ := DataW.trod_struct he ht'
    obtain ⟨_, hcl, hat⟩ := World.cells?_some hc
    have hjl : j < fs.size := by rw [← hlen]; exact (List.getElem?_eq_some_iff.1 hj).1
    have hfj : fs[j]? = some (fs[j]'hjl) := Array.getElem?_eq_getElem hjl
    obtain ⟨ho, hk⟩ := hone_of hone j _ hfj
    have hjc : j < cs'.length := by omega
    have hcell := hat j (by omega)
    rw [List.getElem?_eq_getElem hjc] at hcell
    have h1 := hf j _ hfj
    rw [ho, hk, List.drop_eq_getElem_cons hjc] at h1
    have hys : ys[j]? = some (ys[j]'(by omega)) := List.getElem?_eq_getElem (by omega)
    rw [hys] at h1
    have hfit : fitsB P (fs[j]'hjl).type fk = true := by
      have := List.all_eq_true.1 hks j (List.mem_range.2 hjl)
      simpa only [hfj, hj] using this
    refine ⟨_, ?_, trod_fits hfit h1⟩
    rw [hC, Go.Deep.add_add] at hcell
    rw [hlen]
    exact hcell
end
end Go.Proofs.Ytddghhddafeojaa
