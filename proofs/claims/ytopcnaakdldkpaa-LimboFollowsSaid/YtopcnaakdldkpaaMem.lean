/- Words for memory: which blocks a call has changed (Chg), a block known whole (Blk), a slice that reads as a list (Reads), a slice that the call owns (Row). -/
import Derived.Test.YtopcnaakdldkpaaRows
import Derived.WalkKit
import Derived.WalkSpells
import Derived.WalkLawsBesides
import Derived.OpenShut
import Derived.Below
import Derived.Laws.OwnMore
import Derived.Deep.AppendLies
import Derived.Deep.Draws
import Derived.Deep.RegionWith
import Derived.Deep.QuietTactic
import Derived.BigQuiet
import Derived.Maps.AppendAt
namespace Go.Proofs.Ytopcnaakdldkpaa
open Go.RowKit
set_option linter.unusedVariables false

theorem hid {p : Prop} (h : p) : Hid p := h

/-! ## What a call has changed -/
/-- w' is w but for the blocks listed in S, and new blocks. -/
structure Chg (S : List Nat) (w w' : World) : Prop where
  os : w'.os = w.os
  tape : w'.tape = w.tape
  output : w'.output = w.output
  size : w.heap.size ≤ w'.heap.size
  block : ∀ k, k < w.heap.size → k ∉ S → w'.heap[k]? = w.heap[k]?

section
variable {S T : List Nat} {a b c w w' : World}
theorem Chg.refl (S : List Nat) (w : World) : Chg S w w := ⟨rfl, rfl, rfl, Nat.le_refl _, fun _ _ _ => rfl⟩
theorem Chg.trans (h : Chg S a b) (k : Chg T b c) (hT : ∀ x ∈ T, x ∈ S ∨ a.heap.size ≤ x) : Chg S a c :=
  ⟨k.os.trans h.os, k.tape.trans h.tape, k.output.trans h.output, Nat.le_trans h.size k.size, fun i hi hS =>
    (k.block i (Nat.lt_of_lt_of_le hi h.size) (fun hx => by rcases hT i hx with h1 | h1; exact hS h1; omega)).trans (h.block i hi hS)⟩
theorem Chg.trans' (h : Chg [] a b) (k : Chg S b c) : Chg S a c :=
  ⟨k.os.trans h.os, k.tape.trans h.tape, k.output.trans h.output, Nat.le_trans h.size k.size, fun i hi hS => (k.block i (Nat.lt_of_lt_of_le hi h.size) hS).trans (h.block i hi (by simp))⟩
theorem Chg.fresh (h : Chg S a b) (hS : ∀ x ∈ S, a.heap.size ≤ x) : Chg [] a b := ⟨h.os, h.tape, h.output, h.size, fun i hi _ => h.block i hi (fun hx => by have := hS i hx; omega)⟩
theorem Chg.mono (h : Chg S a b) (hS : ∀ x ∈ S, x ∈ T ∨ a.heap.size ≤ x) : Chg T a b :=
  ⟨h.os, h.tape, h.output, h.size, fun i hi hT => h.block i hi (fun hx => by rcases hS i hx with h1 | h1; exact hT h1; omega)⟩
theorem Chg.drew (h : Chg S a b) : Chg S a b.drew := ⟨h.os, h.tape, h.output, h.size, h.block⟩
theorem Chg.drewN (h : Chg S a b) (n : Nat) : Chg S a (b.drewN n) := ⟨h.os, h.tape, h.output, h.size, h.block⟩
theorem Chg.of_drew (h : Chg S a.drew b) : Chg S a b := ⟨h.os, h.tape, h.output, h.size, h.block⟩
theorem Chg.of_drewN {n : Nat} (h : Chg S (a.drewN n) b) : Chg S a b := ⟨h.os, h.tape, h.output, h.size, h.block⟩
theorem Chg.alloc (h : Chg S a b) (o : Obj) : Chg S a (b.alloc o) :=
  ⟨h.os, h.tape, h.output, Nat.le_trans h.size (by simp), fun i hi hS => (Below.heap_alloc b o i (Nat.lt_of_lt_of_le hi h.size)).trans (h.block i hi hS)⟩
theorem Chg.setCell (h : Chg S a b) {p : Addr} (hp : p.block ∈ S ∨ a.heap.size ≤ p.block) (u : Value) : Chg S a (b.setCell p u) :=
  ⟨h.os, h.tape, h.output, by simpa [World.setCell] using h.size, fun i hi hS => (Below.heap_setCell b p u i (by
    rintro rfl
    rcases hp with hp | hp
    · exact hS hp
    · omega)).trans (h.block i hi hS)⟩
theorem Chg.grown (h : Chg S a b) {row : Option Nat} (hg : b.grownBy c row) (hr : ∀ k, row = some k → k ∈ S ∨ a.heap.size ≤ k) : Chg S a c :=
  ⟨hg.os.trans h.os, hg.tape.trans h.tape, hg.output.trans h.output, Nat.le_trans h.size hg.size, fun i hi hS =>
    (hg.block i (Nat.lt_of_lt_of_le hi h.size) (fun e => by
      rcases hr i e.symm with h1 | h1
      · exact hS h1
      · omega)).trans (h.block i hi hS)⟩
theorem Chg.of_below (h : Below a.heap.size a b) : Chg S a b := ⟨h.os, h.tape, h.output, h.size, fun i hi _ => h.block i hi⟩
theorem Chg.of_below' {B : Nat} (h : Below B a b) (hB : a.heap.size ≤ B) : Chg S a b := ⟨h.os, h.tape, h.output, h.size, fun i hi _ => h.block i (by omega)⟩
/-- From the heap's size on nothing that was there is named. -/
theorem Chg.below (h : Chg S a b) {B : Nat} (hB : B ≤ a.heap.size) (hS : ∀ x ∈ S, B ≤ x) : Below B a b :=
  ⟨h.os, h.tape, h.output, h.size, fun i hi => h.block i (by omega) (fun hx => by have := hS i hx; omega)⟩
theorem Chg.cell (h : Chg S a b) {p : Addr} (hp : p.block < a.heap.size) (hn : p.block ∉ S) : b.cell? p = a.cell? p := World.cell?_of_block (h.block p.block hp hn)
theorem Chg.frozen (h : Chg S a b) {p : Addr} (hp : p.block < a.heap.size) (hn : p.block ∉ S) : b.frozen? p = a.frozen? p := World.frozen?_of_block (h.block p.block hp hn)
end

/-- The call's own blocks: from B on. -/
def Own (B : Nat) (S : List Nat) : Prop := ∀ x ∈ S, B ≤ x
theorem Own.nil (B : Nat) : Own B [] := fun x hx => by cases hx
theorem Own.one {B g : Nat} (h : B ≤ g) : Own B [g] := fun x hx => by rw [List.mem_singleton.1 hx]; exact h
theorem Own.step {B : Nat} {S T : List Nat} {w : World} (h : Own B S) (d : ∀ x ∈ T, x ∈ S ∨ w.heap.size ≤ x) (hB : B ≤ w.heap.size) : Own B T := fun x hx => by
  rcases d x hx with h1 | h1
  · exact h x h1
  · omega
theorem chg_below {S : List Nat} {w a b : World} (h : Below w.heap.size w a) (hc : Chg S a b) (ho : Own w.heap.size S) : Below w.heap.size w b :=
  h.trans ((hc.below h.size ho).mono (Nat.le_refl _))

/-! ## A block known whole -/
def Blk (w : World) (g : Nat) (t : TypeId) (cs : Array Value) : Prop := w.heap[g]? = some (.cells cs t (0, 0))

section
variable {w w' : World} {g : Nat} {t : TypeId} {cs : Array Value} {S : List Nat}
theorem Blk.lt (h : Blk w g t cs) : g < w.heap.size := by
  rcases Nat.lt_or_ge g w.heap.size with hlt | hge
  · exact hlt
  · unfold Blk at h; rw [Array.getElem?_eq_none hge] at h; cases h
theorem Blk.cell (h : Blk w g t cs) (i : Nat) : w.cell? ⟨g, i, none⟩ = cs[i]? := cell_of_row w g i cs t (0, 0) h
theorem Blk.some_ (h : Blk w g t cs) {i : Nat} {u : Value} (hi : cs[i]? = some u) : w.cell? ⟨g, i, none⟩ = some u := (h.cell i).trans hi
theorem Blk.frozen (h : Blk w g t cs) (i : Nat) : w.frozen? ⟨g, i, none⟩ = false := by
  unfold Blk at h
  simp [World.frozen?, h]
theorem Blk.new (w : World) (t : TypeId) (cs : Array Value) : Blk (w.alloc (.cells cs t)) w.heap.size t cs := heap_alloc_new w _
theorem Blk.drew (h : Blk w g t cs) : Blk w.drew g t cs := h
theorem Blk.drewN (h : Blk w g t cs) (n : Nat) : Blk (w.drewN n) g t cs := h
theorem Blk.alloc (h : Blk w g t cs) (o : Obj) : Blk (w.alloc o) g t cs := (Below.heap_alloc w o g h.lt).trans h
theorem Blk.set_ (h : Blk w g t cs) (i : Nat) (u : Value) : Blk (w.setCell ⟨g, i, none⟩ u) g t (cs.setIfInBounds i u) := by
  unfold Blk at h ⊢
  simp [World.setCell, Array.getElem?_modify, h]
theorem Blk.far (h : Blk w g t cs) {p : Addr} (hp : g ≠ p.block) (u : Value) : Blk (w.setCell p u) g t cs := (Below.heap_setCell w p u g hp).trans h
theorem Blk.below {B : Nat} (h : Blk w g t cs) (hb : Below B w w') (hg : g < B) : Blk w' g t cs := (hb.block g hg).trans h
theorem Blk.grown {row : Option Nat} (h : Blk w g t cs) (hb : w.grownBy w' row) (hg : some g ≠ row) : Blk w' g t cs := (hb.block g h.lt hg).trans h
theorem Blk.chg (h : Blk w g t cs) (hc : Chg S w w') (hg : g ∉ S) : Blk w' g t cs := (hc.block g h.lt hg).trans h
theorem Blk.ne_ {g' : Nat} {t' : TypeId} {cs' : Array Value} (h : Blk w g t cs) (h' : Blk w g' t' cs') (hne : t ≠ t') : g ≠ g' := by
  rintro rfl
  unfold Blk at h h'
  rw [h] at h'
  injection h' with h'
  injection h' with _ ht
  exact hne ht
end

/-! ## A slice that reads as a list; nil let in -/
theorem block_of_add (a : Addr) (n : Nat) : (a.add n).block = a.block := by unfold Addr.add; split <;> rfl
theorem add_of_add (a : Addr) (i j : Nat) : (a.add i).add j = a.add (i + j) := by
  unfold Addr.add
  by_cases hi : i = 0 <;> by_cases hj : j = 0 <;> simp [hi, hj, Nat.add_assoc]

/-- The slice value '.slice A n c' holds the cells xs (one cell an element); its block is b where it has elements. -/
structure Reads (w : World) (b : Nat) (A : Option Addr) (n : Nat) (xs : List Value) : Prop where
  len : xs.length = n
  at_ : ∀ k, k < n → ∃ ad u, A = some ad ∧ ad.block = b ∧ b < w.heap.size ∧ xs[k]? = some u ∧ w.cell? (ad.add k) = some u

section
variable {w w' : World} {b n : Nat} {A : Option Addr} {xs : List Value} {S : List Nat}
theorem Reads.chg (h : Reads w b A n xs) (hc : Chg S w w') (hb : b ∉ S) : Reads w' b A n xs :=
  ⟨h.len, fun k hk => by
    obtain ⟨ad, u, h1, h2, h3, h4, h5⟩ := h.at_ k hk
    exact ⟨ad, u, h1, h2, Nat.lt_of_lt_of_le h3 hc.size, h4, (hc.cell (by rw [block_of_add]; omega) (by rw [block_of_add, h2]; exact hb)).trans h5⟩⟩
theorem Reads.drew (h : Reads w b A n xs) : Reads w.drew b A n xs := ⟨h.len, h.at_⟩
theorem Reads.drewN (h : Reads w b A n xs) (k : Nat) : Reads (w.drewN k) b A n xs := ⟨h.len, h.at_⟩
theorem Reads.nil (w : World) (b : Nat) : Reads w b none 0 [] := ⟨rfl, fun k hk => by omega⟩
theorem Reads.cellAt (h : Reads w b A n xs) {k : Nat} (hk : k < n) : ∃ ad, A = some ad ∧ ad.block = b ∧ w.cell? (ad.add k) = some (xs[k]'(by rw [h.len]; exact hk)) := by
  obtain ⟨ad, u, h1, h2, _, h4, h5⟩ := h.at_ k hk
  rw [List.getElem?_eq_getElem (by rw [h.len]; exact hk)] at h4
  exact ⟨ad, h1, h2, by rw [h5, ← h4]⟩
/-- A slice of numbers. -/
theorem Reads.numAt {k : IntKind} {zs : List Int} (h : Reads w b A n (zs.map (Value.int k))) {i : Nat} (hi : i < n) :
    ∃ ad, A = some ad ∧ ad.block = b ∧ w.cell? (ad.add i) = some (.int k (zs.getD i 0)) := by
  obtain ⟨ad, u, h1, h2, _, h4, h5⟩ := h.at_ i hi
  have hl : i < zs.length := by have := h.len; simp at this; omega
  refine ⟨ad, h1, h2, ?_⟩
  rw [h5, ← h4]
  simp [List.getD, List.getElem?_eq_getElem hl]
end

theorem Reads.lit (W : World) (cs : Array Value) (e : TypeId) (xs : List Value) (hxs : cs.toList = xs) (n : Nat) (hn : cs.size = n) : Reads (W.alloc (.cells cs e)) W.heap.size (some ⟨W.heap.size, 0, none⟩) n xs := by
  subst hxs; subst hn
  refine ⟨by simp, fun k hk => ⟨_, cs[k], rfl, rfl, by simp, by simp [hk], ?_⟩⟩
  have h := (Blk.new W e cs).cell k
  have ha : (⟨W.heap.size, 0, none⟩ : Addr).add k = ⟨W.heap.size, k, none⟩ := by unfold Addr.add; split <;> simp_all
  rw [ha, h]
  exact Array.getElem?_eq_getElem hk

/-! ## A slice that the call owns -/
/-- What a value's own block is, as a list. -/
def fpV (v : Value) : List Nat := v.ownBlock.toList
theorem mem_fpV {v : Value} {k : Nat} : k ∈ fpV v ↔ v.ownBlock = some k := by unfold fpV; cases v.ownBlock <;> simp [eq_comm]
theorem fpV_nil (n c : Nat) : fpV (.slice none n c) = [] := rfl
theorem fpV_some (a : Addr) (n c : Nat) : fpV (.slice (some a) n c) = [a.block] := rfl

section
variable {w w' : World} {base : Nat} {e : TypeId} {size n : Nat} {v : Value} {xs : List Value} {S : List Nat}
theorem row_chg (h : w.ownsRow base e size v n xs) (hc : Chg S w w') (hv : ∀ k ∈ fpV v, k ∉ S) : w'.ownsRow base e size v n xs := by
  refine ⟨h.1, ?_⟩
  rcases h.2 with hn | ⟨g, cap, cur, rfl, hb, hgg, rest⟩
  · exact .inl hn
  · refine .inr ⟨g, cap, cur, rfl, hb, ?_, rest⟩
    rw [hc.block g (Array.getElem?_eq_some_iff.1 hgg).1 (hv g (by rw [fpV_some]; simp))]
    exact hgg
theorem row_lt (h : w.ownsRow base e size v n xs) : ∀ k ∈ fpV v, k < w.heap.size := fun k hk => (h.lt k (mem_fpV.1 hk)).2
theorem row_form (h : w.ownsRow base e size v n xs) : ∃ A c, v = .slice A n c := by
  rcases h.2 with ⟨rfl, rfl⟩ | ⟨g, cap, cur, rfl, _⟩
  · exact ⟨_, _, rfl⟩
  · exact ⟨_, _, rfl⟩
theorem row_reads {A : Option Addr} {c : Nat} (h : w.ownsRow base e 1 (.slice A n c) n xs) : Reads w (A.elim 0 (·.block)) A n xs := by
  refine ⟨by simpa using h.1, fun k hk => ?_⟩
  rcases h.2 with ⟨_, h0⟩ | ⟨g, cap, cur, hv, _, hh, _⟩
  · omega
  · injection hv with hA
    subst hA
    have hx : k < xs.length := by have := h.1; simp at this; omega
    refine ⟨_, xs[k], rfl, rfl, ?_, List.getElem?_eq_getElem hx, ?_⟩
    · exact (Array.getElem?_eq_some_iff.1 hh).1
    · exact h.cells (g := g) rfl k _ (List.getElem?_eq_getElem hx)
theorem row_base {base' : Nat} (h : w.ownsRow base e size v n xs) (hb : base' ≤ base) : w.ownsRow base' e size v n xs := by
  refine ⟨h.1, ?_⟩
  rcases h.2 with hn | ⟨g, cap, cur, rfl, hg, rest⟩
  · exact .inl hn
  · exact .inr ⟨g, cap, cur, rfl, by omega, rest⟩
theorem row_ge (h : w.ownsRow base e size v n xs) : ∀ k ∈ fpV v, base ≤ k := fun k hk => (h.lt k (mem_fpV.1 hk)).1
/-- A row and a block of another element type lie apart. -/
theorem row_blk_ne {g : Nat} {t : TypeId} {cs : Array Value} (h : w.ownsRow base e size v n xs) (hg : Blk w g t cs) (hne : e ≠ t) : g ∉ fpV v := by
  rcases h.2 with ⟨rfl, _⟩ | ⟨g', cap, cur, rfl, _, hh, _⟩
  · simp [fpV_nil]
  · rw [fpV_some]
    intro he
    simp at he
    subst he
    exact Blk.ne_ (t := e) hh hg hne rfl
end

section
variable {w w' : World} {e : TypeId} {n c : Nat} {A : Option Addr} {xs : List Value}
/-- An element of a row that the call owns: where it lies. -/
theorem row_at (h : w.ownsRow 0 e 1 (.slice A n c) n xs) {k : Nat} (hk : k < n) :
    ∃ g, A = some ⟨g, 0, none⟩ ∧ g ∈ fpV (.slice A n c) ∧ w.cell? ⟨g, k, none⟩ = xs[k]? ∧ w.frozen? ⟨g, k, none⟩ = false ∧
      ∀ u, (w.setCell ⟨g, k, none⟩ u).ownsRow 0 e 1 (.slice A n c) n (xs.set k u) := by
  rcases h.2 with ⟨hv, h0⟩ | ⟨g, cap, cur, hv, _⟩
  · omega
  · injection hv with hA hn hc
    subst hA; subst hc
    exact ⟨g, rfl, by rw [fpV_some]; simp, h.cellAt k (by omega), h.frozenAt k, fun u => (h.stored k u).1⟩
end

/-! ## append of one element of one cell onto a row that the call owns -/
theorem wpList_append1 {P : Program} {W : World} {ops : Array Oper} {rest : List Oper} {o : Oper} {a : Act} {Q : Exit → Act → World → Prop} (hgd : o.guard = none) (s x : Operand) (t : TypeId)
    (ho : o.op = .call { callee := .builtin .append, args := #[s, x], argTypes := #[t, t] })
    (e : TypeId) (i : TypeInfo) (z : Value) (bytes : Nat) (ht : P.underlying t = some (.slice e)) (hi : P.info? e = some i) (hz : i.zero = some z)
    (hsize : i.size = 1) (hby : i.bytes = bytes) (hzs : z.cells.size = 1)
    (v : Value) (n : Nat) (xs : List Value) (u : Value) (te : TypeId) (hs : a.eval s = v) (hown : W.ownsRow 0 e 1 v n xs)
    (hx : a.eval x = .slice (some ⟨W.heap.size, 0, none⟩) 1 1) (h1 : u.oneCell' = true) (hn : n ≤ 1000000) (hb : bytes ≤ 4096)
    (h : ∀ A' c' w', w'.ownsRow 0 e 1 (.slice A' (n + 1) c') (n + 1) (xs ++ [u]) → Chg (fpV v) W w' → (∀ k ∈ fpV (.slice A' (n + 1) c'), k ∈ fpV v ∨ W.heap.size ≤ k) → wpList P ops Q rest (a.put o.dst (.slice A' (n + 1) c')) w') :
    wpList P ops Q (o :: rest) a (W.alloc (.cells #[u] te)) := by
  refine wpList_append_own_at (W.alloc (.cells #[u] te)) hgd s x t ho 0 e i z 1 bytes ht hi hz hsize hby hzs (by decide) v n xs hs (hown.alloc _) ⟨W.heap.size, 0, none⟩ 1 1 [u] hx rfl (cell_one_new _ _ _) ?_ ?_ ?_ (Nat.zero_le _) ?_
  · intro u' hu'; simp at hu'; subst hu'; exact h1
  · unfold maxLen; omega
  · have : (n + 1) * bytes ≤ (n + 1) * 4096 := Nat.mul_le_mul_left _ hb
    omega
  · intro v' w' hown' hg _ hat
    obtain ⟨A', c', hv⟩ := row_form hown'
    subst hv
    refine h A' c' w' hown' (((Chg.refl _ W).alloc _).grown hg (fun k hk => .inl (mem_fpV.2 hk))) (fun k hk => ?_)
    rcases hat with e1 | e1
    · left; rw [mem_fpV] at hk ⊢; rw [← e1]; exact hk
    · right; rw [mem_fpV] at hk; rw [e1] at hk; simp at hk; omega
end Go.Proofs.Ytopcnaakdldkpaa
