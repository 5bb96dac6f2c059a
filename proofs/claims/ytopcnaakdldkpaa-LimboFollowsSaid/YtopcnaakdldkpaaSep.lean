/- Assertions with a footprint (Asr), their separating product, and what a law holds of its world (Hold): a call's contract is stated for any rest R that lies apart. -/
import Derived.Test.YtopcnaakdldkpaaMem
namespace Go.Proofs.Ytopcnaakdldkpaa
open Go.RowKit
set_option linter.unusedVariables false

/-- An assertion on a world, with the blocks that it speaks of. -/
structure Asr where
  P : World → List Nat → Prop
  chg : ∀ {S : List Nat} {w w' : World} {fp : List Nat}, P w fp → Chg S w w' → (∀ b ∈ fp, b ∉ S) → P w' fp
  lt : ∀ {w : World} {fp : List Nat}, P w fp → ∀ b ∈ fp, b < w.heap.size

def Asr.sep (p q : Asr) : Asr where
  P w fp := ∃ f g, fp = f ++ g ∧ p.P w f ∧ q.P w g ∧ ∀ b ∈ f, b ∉ g
  chg := by
    rintro S w w' fp ⟨f, g, rfl, hp, hq, hd⟩ hc hS
    exact ⟨f, g, rfl, p.chg hp hc (fun b hb => hS b (List.mem_append_left _ hb)), q.chg hq hc (fun b hb => hS b (List.mem_append_right _ hb)), hd⟩
  lt := by
    rintro w fp ⟨f, g, rfl, hp, hq, hd⟩ b hb
    rcases List.mem_append.1 hb with h | h
    · exact p.lt hp b h
    · exact q.lt hq b h
def Asr.emp : Asr := ⟨fun _ fp => fp = [], fun h _ _ => h, fun h b hb => by rw [h] at hb; cases hb⟩
instance : Mul Asr := ⟨Asr.sep⟩

/-- What is held of the world w, behind a call that began at w0: p, on blocks that are younger than w0; nothing older has changed. -/
structure Hold (w0 w : World) (p : Asr) : Prop where
  ex : ∃ fp, p.P w fp ∧ Own w0.heap.size fp
  below : Below w0.heap.size w0 w

section
variable {w0 w w' : World} {p q r s t R : Asr}
theorem Hold.start (w0 : World) : Hold w0 w0 Asr.emp := ⟨⟨[], rfl, Own.nil _⟩, Below.refl _ _⟩
theorem Hold.size (h : Hold w0 w p) : w0.heap.size ≤ w.heap.size := h.below.size
theorem Hold.chg0 (h : Hold w0 w p) (hc : Chg [] w w') : Hold w0 w' p := by
  obtain ⟨fp, hp, ho⟩ := h.ex
  exact ⟨⟨fp, p.chg hp hc (by simp), ho⟩, chg_below h.below hc (Own.nil _)⟩
theorem Hold.drewN (h : Hold w0 w p) (n : Nat) : Hold w0 (w.drewN n) p := h.chg0 ((Chg.refl _ _).drewN n)
theorem Hold.drew (h : Hold w0 w p) : Hold w0 w.drew p := h.chg0 (Chg.refl _ _).drew
theorem Hold.alloc (h : Hold w0 w p) (o : Obj) : Hold w0 (w.alloc o) p := h.chg0 ((Chg.refl _ _).alloc o)
/-- An object that is made anew. -/
theorem Hold.new (h : Hold w0 w R) {fp : List Nat} (hc : Chg [] w w') (hp : p.P w' fp) (hn : ∀ b ∈ fp, w.heap.size ≤ b) : Hold w0 w' (p * R) := by
  obtain ⟨g, hg, ho⟩ := h.ex
  refine ⟨⟨fp ++ g, ⟨fp, g, rfl, hp, R.chg hg hc (by simp), fun b hb hb2 => ?_⟩, fun b hb => ?_⟩, chg_below h.below hc (Own.nil _)⟩
  · have := R.lt hg b hb2
    have := hn b hb
    omega
  · rcases List.mem_append.1 hb with h1 | h1
    · exact Nat.le_trans h.size (hn b h1)
    · exact ho b h1
/-- The first object, opened: whatever changes its own blocks alone may be put in its place. -/
theorem Hold.open_ (h : Hold w0 w (p * R)) : ∃ fp, p.P w fp ∧ ∀ (w' : World) (q : Asr) (fp' : List Nat), Chg fp w w' → q.P w' fp' → (∀ b ∈ fp', b ∈ fp ∨ w.heap.size ≤ b) → Hold w0 w' (q * R) := by
  obtain ⟨fp, ⟨f, g, rfl, hp, hR, hd⟩, ho⟩ := h.ex
  have hof : Own w0.heap.size f := fun b hb => ho b (List.mem_append_left _ hb)
  refine ⟨f, hp, fun w' q fp' hc hq hf => ⟨⟨fp' ++ g, ⟨fp', g, rfl, hq, R.chg hR hc (fun b hb hb2 => hd b hb2 hb), fun b hb hb2 => ?_⟩, fun b hb => ?_⟩, chg_below h.below hc hof⟩⟩
  · rcases hf b hb with h1 | h1
    · exact hd b h1 hb2
    · have := R.lt hR b hb2; omega
  · rcases List.mem_append.1 hb with h1 | h1
    · rcases hf b h1 with h2 | h2
      · exact hof b h2
      · exact Nat.le_trans h.size h2
    · exact ho b (List.mem_append_right _ h1)
theorem Hold.get (h : Hold w0 w (p * R)) : ∃ fp, p.P w fp := by
  obtain ⟨fp, ⟨f, g, rfl, hp, hR, hd⟩, ho⟩ := h.ex
  exact ⟨f, hp⟩
theorem Hold.drop (h : Hold w0 w (p * R)) : Hold w0 w R := by
  obtain ⟨fp, ⟨f, g, rfl, hp, hR, hd⟩, ho⟩ := h.ex
  exact ⟨⟨g, hR, fun b hb => ho b (List.mem_append_right _ hb)⟩, h.below⟩
theorem Hold.swap (h : Hold w0 w (p * (q * R))) : Hold w0 w (q * (p * R)) := by
  obtain ⟨fp, ⟨f, g, rfl, hp, ⟨f2, g2, rfl, hq, hR, hd2⟩, hd⟩, ho⟩ := h.ex
  refine ⟨⟨f2 ++ (f ++ g2), ⟨f2, f ++ g2, rfl, hq, ⟨f, g2, rfl, hp, hR, fun b hb hb2 => hd b hb (List.mem_append_right _ hb2)⟩, fun b hb hb2 => ?_⟩, fun b hb => ho b ?_⟩, h.below⟩
  · rcases List.mem_append.1 hb2 with h1 | h1
    · exact hd b h1 (List.mem_append_left _ hb)
    · exact hd2 b hb h1
  · simp only [List.mem_append] at hb ⊢
    rcases hb with h1 | h1 | h1
    · exact .inr (.inl h1)
    · exact .inl h1
    · exact .inr (.inr h1)
/-- p says at least what q says, of no more blocks. -/
def Imp (p q : Asr) : Prop := ∀ w fp, p.P w fp → ∃ fp', q.P w fp' ∧ ∀ b ∈ fp', b ∈ fp
theorem Imp.refl (p : Asr) : Imp p p := fun _ fp h => ⟨fp, h, fun _ hb => hb⟩
theorem Imp.trans (h : Imp p q) (k : Imp q r) : Imp p r := fun w fp hp => by
  obtain ⟨f1, h1, s1⟩ := h w fp hp
  obtain ⟨f2, h2, s2⟩ := k w f1 h1
  exact ⟨f2, h2, fun b hb => s1 b (s2 b hb)⟩
theorem Imp.both (h : Imp p q) (k : Imp r s) : Imp (p * r) (q * s) := by
  rintro w fp ⟨f, g, rfl, hp, hr, hd⟩
  obtain ⟨f1, h1, s1⟩ := h w f hp
  obtain ⟨f2, h2, s2⟩ := k w g hr
  refine ⟨f1 ++ f2, ⟨f1, f2, rfl, h1, h2, fun b hb hb2 => hd b (s1 b hb) (s2 b hb2)⟩, fun b hb => ?_⟩
  rcases List.mem_append.1 hb with h | h
  · exact List.mem_append_left _ (s1 b h)
  · exact List.mem_append_right _ (s2 b h)
theorem Imp.under (p : Asr) (k : Imp r s) : Imp (p * r) (p * s) := (Imp.refl p).both k
theorem Imp.on (r : Asr) (k : Imp p q) : Imp (p * r) (q * r) := k.both (Imp.refl r)
theorem Imp.comm (p q : Asr) : Imp (p * q) (q * p) := by
  rintro w fp ⟨f, g, rfl, hp, hq, hd⟩
  exact ⟨g ++ f, ⟨g, f, rfl, hq, hp, fun b hb hb2 => hd b hb2 hb⟩, fun b hb => by simp only [List.mem_append] at hb ⊢; exact hb.symm⟩
theorem Imp.assoc (p q r : Asr) : Imp ((p * q) * r) (p * (q * r)) := by
  rintro w fp ⟨f, g, rfl, ⟨f2, g2, rfl, hp, hq, hd2⟩, hr, hd⟩
  refine ⟨f2 ++ (g2 ++ g), ⟨f2, g2 ++ g, rfl, hp, ⟨g2, g, rfl, hq, hr, fun b hb hb2 => hd b (List.mem_append_right _ hb) hb2⟩, fun b hb hb2 => ?_⟩, fun b hb => by simpa [or_assoc] using hb⟩
  rcases List.mem_append.1 hb2 with h1 | h1
  · exact hd2 b hb h1
  · exact hd b (List.mem_append_left _ hb) h1
theorem Imp.assoc' (p q r : Asr) : Imp (p * (q * r)) ((p * q) * r) := by
  rintro w fp ⟨f, g, rfl, hp, ⟨f2, g2, rfl, hq, hr, hd2⟩, hd⟩
  refine ⟨(f ++ f2) ++ g2, ⟨f ++ f2, g2, rfl, ⟨f, f2, rfl, hp, hq, fun b hb hb2 => hd b hb (List.mem_append_left _ hb2)⟩, hr, fun b hb hb2 => ?_⟩, fun b hb => by simpa [or_assoc] using hb⟩
  rcases List.mem_append.1 hb with h1 | h1
  · exact hd b h1 (List.mem_append_right _ hb2)
  · exact hd2 b h1 hb2
theorem Imp.swap (p q r : Asr) : Imp (p * (q * r)) (q * (p * r)) := ((Imp.assoc' p q r).trans (Imp.on r (Imp.comm p q))).trans (Imp.assoc q p r)
theorem Imp.third (p q r s : Asr) : Imp (p * (q * (r * s))) (r * (p * (q * s))) := (Imp.under p (Imp.swap q r s)).trans (Imp.swap p r (q * s))
theorem Imp.third' (p q r s : Asr) : Imp (r * (p * (q * s))) (p * (q * (r * s))) := (Imp.swap r p (q * s)).trans (Imp.under p (Imp.swap r q s))
theorem Imp.fourth (p q r t s : Asr) : Imp (p * (q * (r * (t * s)))) (t * (p * (q * (r * s)))) := (Imp.under p (Imp.third q r t s)).trans (Imp.swap p t (q * (r * s)))
theorem Imp.fourth' (p q r t s : Asr) : Imp (t * (p * (q * (r * s)))) (p * (q * (r * (t * s)))) := (Imp.swap t p _).trans (Imp.under p (Imp.third' q r t s))
theorem Imp.drop (p q : Asr) : Imp (p * q) q := by
  rintro w fp ⟨f, g, rfl, hp, hq, hd⟩
  exact ⟨g, hq, fun b hb => List.mem_append_right _ hb⟩
theorem Hold.imp (h : Hold w0 w p) (k : Imp p q) : Hold w0 w q := by
  obtain ⟨fp, hp, ho⟩ := h.ex
  obtain ⟨f, hq, hs⟩ := k w fp hp
  exact ⟨⟨f, hq, fun b hb => ho b (hs b hb)⟩, h.below⟩
theorem Hold.third (h : Hold w0 w (p * (q * (r * R)))) : Hold w0 w (r * (p * (q * R))) := h.imp (Imp.third p q r R)
theorem Hold.third' (h : Hold w0 w (r * (p * (q * R)))) : Hold w0 w (p * (q * (r * R))) := h.imp (Imp.third' p q r R)
theorem Hold.fourth (h : Hold w0 w (p * (q * (r * (t * R))))) : Hold w0 w (t * (p * (q * (r * R)))) := h.imp (Imp.fourth p q r t R)
theorem Hold.fourth' (h : Hold w0 w (t * (p * (q * (r * R))))) : Hold w0 w (p * (q * (r * (t * R)))) := h.imp (Imp.fourth' p q r t R)
theorem Hold.join (h : Hold w0 w (p * (q * R))) : Hold w0 w ((p * q) * R) := h.imp (Imp.assoc' p q R)
theorem Hold.part (h : Hold w0 w ((p * q) * R)) : Hold w0 w (p * (q * R)) := h.imp (Imp.assoc p q R)
/-- Two objects lie apart. -/
theorem Hold.apart (h : Hold w0 w (p * (q * R))) : ∃ f g, p.P w f ∧ q.P w g ∧ ∀ b ∈ f, b ∉ g := by
  obtain ⟨fp, ⟨f, g, rfl, hp, ⟨f2, g2, rfl, hq, hR, hd2⟩, hd⟩, ho⟩ := h.ex
  exact ⟨f, f2, hp, hq, fun b hb hb2 => hd b hb (List.mem_append_left _ hb2)⟩
/-- A cell that was there at the start. -/
theorem Hold.old (h : Hold w0 w p) {a : Addr} {v : Value} (hc : w0.cell? a = some v) : w.cell? a = some v := by
  rw [h.below.cell (World.block_lt_of_cell? w0 a hc)]; exact hc
end

/-! ## Lists of objects -/
def sepR : List Asr → Asr → Asr
  | [], R => R
  | p :: ps, R => p * sepR ps R
section
variable {w0 w w' : World} {p q R : Asr} {ps : List Asr}
theorem Imp.intro_emp (p : Asr) : Imp p (Asr.emp * p) := fun w fp h => ⟨fp, ⟨[], fp, rfl, rfl, h, fun b hb => by cases hb⟩, fun _ hb => hb⟩
theorem Imp.nth (p R : Asr) : ∀ (ps : List Asr) (j : Nat), ps[j]? = some p → Imp (sepR ps R) (p * sepR (ps.set j Asr.emp) R)
  | [], j, h => by simp at h
  | q :: ps, 0, h => by
    simp at h
    subst h
    exact Imp.under _ (Imp.intro_emp _)
  | q :: ps, j + 1, h => (Imp.under q (Imp.nth p R ps j (by simpa using h))).trans (Imp.swap q p _)
theorem Imp.putAt (p R : Asr) : ∀ (ps : List Asr) (j : Nat), ps[j]? = some Asr.emp → Imp (p * sepR ps R) (sepR (ps.set j p) R)
  | [], j, h => by simp at h
  | q :: ps, 0, h => by
    simp at h
    subst h
    exact Imp.under p (Imp.drop _ _)
  | q :: ps, j + 1, h => (Imp.swap p q _).trans (Imp.under q (Imp.putAt p R ps j (by simpa using h)))
theorem Imp.rest (R : Asr) : ∀ ps : List Asr, Imp (sepR ps R) R
  | [] => Imp.refl _
  | q :: ps => (Imp.drop _ _).trans (Imp.rest R ps)
theorem Imp.flat (R : Asr) : ∀ ps : List Asr, Imp (sepR ps Asr.emp * R) (sepR ps R)
  | [] => Imp.drop _ _
  | q :: ps => (Imp.assoc _ _ _).trans (Imp.under q (Imp.flat R ps))
theorem Imp.fold (R : Asr) : ∀ ps : List Asr, Imp (sepR ps R) (sepR ps Asr.emp * R)
  | [] => Imp.intro_emp _
  | q :: ps => (Imp.under q (Imp.fold R ps)).trans (Imp.assoc' _ _ _)
theorem Hold.nth (h : Hold w0 w (sepR ps R)) (j : Nat) (hj : ps[j]? = some p) : Hold w0 w (p * sepR (ps.set j Asr.emp) R) := h.imp (Imp.nth p R ps j hj)
theorem Hold.putAt (h : Hold w0 w (p * sepR ps R)) (j : Nat) (hj : ps[j]? = some Asr.emp) : Hold w0 w (sepR (ps.set j p) R) := h.imp (Imp.putAt p R ps j hj)
theorem Hold.rest (h : Hold w0 w (sepR ps R)) : Hold w0 w R := h.imp (Imp.rest R ps)
end

/-- Some x of which p holds. -/
def Asr.ex {α : Type} (p : α → Asr) : Asr where
  P w fp := ∃ x, (p x).P w fp
  chg := fun ⟨x, h⟩ hc hS => ⟨x, (p x).chg h hc hS⟩
  lt := fun ⟨x, h⟩ => (p x).lt h
theorem Hold.exOpen {α : Type} {p : α → Asr} {w0 w : World} {R : Asr} (h : Hold w0 w (Asr.ex p * R)) : ∃ x, Hold w0 w (p x * R) := by
  obtain ⟨fp, ⟨f, g, rfl, ⟨x, hp⟩, hR, hd⟩, ho⟩ := h.ex
  exact ⟨x, ⟨_, ⟨f, g, rfl, hp, hR, hd⟩, ho⟩, h.below⟩
theorem Hold.exClose {α : Type} {p : α → Asr} {w0 w : World} {R : Asr} {x : α} (h : Hold w0 w (p x * R)) : Hold w0 w (Asr.ex p * R) := by
  obtain ⟨fp, ⟨f, g, rfl, hp, hR, hd⟩, ho⟩ := h.ex
  exact ⟨⟨_, ⟨f, g, rfl, ⟨x, hp⟩, hR, hd⟩, ho⟩, h.below⟩

/-! ## Rows and blocks as assertions -/
/-- A slice that the call owns. -/
def rowA (e : TypeId) (v : Value) (n : Nat) (xs : List Value) : Asr where
  P w fp := w.ownsRow 0 e 1 v n xs ∧ fp = fpV v
  chg := by
    rintro S w w' fp ⟨h, rfl⟩ hc hS
    exact ⟨row_chg h hc hS, rfl⟩
  lt := by
    rintro w fp ⟨h, rfl⟩
    exact row_lt h
/-- A block known whole. -/
def blkA (t : TypeId) (g : Nat) (cs : Array Value) : Asr where
  P w fp := Blk w g t cs ∧ fp = [g]
  chg := by
    rintro S w w' fp ⟨h, rfl⟩ hc hS
    exact ⟨h.chg hc (hS g (by simp)), rfl⟩
  lt := by
    rintro w fp ⟨h, rfl⟩ b hb
    rw [List.mem_singleton.1 hb]; exact h.lt
section
variable {w0 w w' : World} {p q r s t R : Asr}
theorem Hold.row {e : TypeId} {v : Value} {n : Nat} {xs : List Value} (h : Hold w0 w (rowA e v n xs * R)) : w.ownsRow 0 e 1 v n xs := by
  obtain ⟨fp, h1, _⟩ := h.get
  exact h1
theorem Hold.rowReads {e : TypeId} {A : Option Addr} {c n : Nat} {xs : List Value} (h : Hold w0 w (rowA e (.slice A n c) n xs * R)) : Reads w (A.elim 0 (·.block)) A n xs := row_reads h.row
theorem Hold.newRow {e : TypeId} {v : Value} {n : Nat} {xs : List Value} {B : Nat} (h : Hold w0 w R) (hc : Chg [] w w') (ho : w'.ownsRow B e 1 v n xs) (hB : w.heap.size ≤ B) : Hold w0 w' (rowA e v n xs * R) :=
  h.new hc ⟨row_base ho (Nat.zero_le _), rfl⟩ (fun b hb => Nat.le_trans hB (row_ge ho b hb))
theorem Hold.blk {t : TypeId} {g : Nat} {cs : Array Value} (h : Hold w0 w (blkA t g cs * R)) : Blk w g t cs := by
  obtain ⟨fp, h1, _⟩ := h.get
  exact h1
theorem Hold.newBlk {t : TypeId} {cs : Array Value} (h : Hold w0 w R) : Hold w0 (w.alloc (.cells cs t)) (blkA t w.heap.size cs * R) :=
  h.new ((Chg.refl _ _).alloc _) ⟨Blk.new _ _ _, rfl⟩ (by simp)
theorem Hold.setBlk {t : TypeId} {g : Nat} {cs : Array Value} (h : Hold w0 w (blkA t g cs * R)) (i : Nat) (u : Value) : Hold w0 (w.setCell ⟨g, i, none⟩ u) (blkA t g (cs.setIfInBounds i u) * R) := by
  obtain ⟨fp, ⟨hb, rfl⟩, K⟩ := h.open_
  exact K _ _ [g] ((Chg.refl _ _).setCell (.inl (by simp)) _) ⟨hb.set_ i u, rfl⟩ (fun b hb => .inl hb)
theorem Hold.setRow {e : TypeId} {A : Option Addr} {c n : Nat} {xs : List Value} (h : Hold w0 w (rowA e (.slice A n c) n xs * R)) {k : Nat} (hk : k < n) :
    ∃ g, A = some ⟨g, 0, none⟩ ∧ w.cell? ⟨g, k, none⟩ = xs[k]? ∧ w.frozen? ⟨g, k, none⟩ = false ∧ ∀ u, Hold w0 (w.setCell ⟨g, k, none⟩ u) (rowA e (.slice A n c) n (xs.set k u) * R) := by
  obtain ⟨fp, ⟨hr, rfl⟩, K⟩ := h.open_
  obtain ⟨g, hA, hg, hc, hf, hs⟩ := row_at hr hk
  exact ⟨g, hA, hc, hf, fun u => K _ _ _ ((Chg.refl _ _).setCell (.inl hg) _) ⟨hs u, rfl⟩ (fun b hb => .inl hb)⟩
theorem Hold.grow {e : TypeId} {v v' : Value} {n n' : Nat} {xs xs' : List Value} (h : Hold w0 w (rowA e v n xs * R)) (ho : w'.ownsRow 0 e 1 v' n' xs') (hc : Chg (fpV v) w w') (hs : ∀ k ∈ fpV v', k ∈ fpV v ∨ w.heap.size ≤ k) : Hold w0 w' (rowA e v' n' xs' * R) := by
  obtain ⟨fp, ⟨hr, rfl⟩, K⟩ := h.open_
  exact K _ _ _ hc ⟨ho, rfl⟩ hs
theorem Hold.nilRow (h : Hold w0 w R) (e : TypeId) : Hold w0 w (rowA e (.slice none 0 0) 0 [] * R) :=
  h.new (fp := []) (Chg.refl _ _) ⟨World.ownsRow_nil _ _ _ _, rfl⟩ (by simp)
end

/-- A slice of numbers that make has made. -/
theorem Hold.make {w0 W w1 : World} {R : Asr} {e n g B : Nat} {k : IntKind} (h : Hold w0 W R) (hown : w1.ownsRow B e 1 (.slice (some ⟨g, 0, none⟩) n n) n (madeCells #[Value.int k 0] n).toList) (hg : W.grownBy w1 none) (hB : W.heap.size ≤ B) :
    Hold w0 w1 (rowA e (.slice (some ⟨g, 0, none⟩) n n) n ((List.replicate n (0 : Int)).map (Value.int k)) * R) := by
  rw [toList_madeCells_one] at hown
  exact h.newRow ((Chg.refl _ _).grown hg (by simp)) (by simpa using hown) hB

/-- append of one element, where the walk spells the new block's number otherwise. -/
theorem wpList_append1s {P : Program} {W : World} {ops : Array Oper} {rest : List Oper} {o : Oper} {a : Act} {Q : Exit → Act → World → Prop} (hgd : o.guard = none) (s x : Operand) (t : TypeId)
    (ho : o.op = .call { callee := .builtin .append, args := #[s, x], argTypes := #[t, t] })
    (e : TypeId) (i : TypeInfo) (z : Value) (bytes : Nat) (ht : P.underlying t = some (.slice e)) (hi : P.info? e = some i) (hz : i.zero = some z)
    (hsize : i.size = 1) (hby : i.bytes = bytes) (hzs : z.cells.size = 1)
    (v : Value) (n : Nat) (xs : List Value) (u : Value) (te : TypeId) (hs : a.eval s = v) (hown : W.ownsRow 0 e 1 v n xs)
    (k : Nat) (hx : a.eval x = .slice (some ⟨k, 0, none⟩) 1 1) (hk : W.heap.size = k) (h1 : u.oneCell' = true) (hn : n ≤ 1000000) (hb : bytes ≤ 4096)
    (h : ∀ A' c' w', w'.ownsRow 0 e 1 (.slice A' (n + 1) c') (n + 1) (xs ++ [u]) → Chg (fpV v) W w' → (∀ k ∈ fpV (.slice A' (n + 1) c'), k ∈ fpV v ∨ W.heap.size ≤ k) → wpList P ops Q rest (a.put o.dst (.slice A' (n + 1) c')) w') :
    wpList P ops Q (o :: rest) a (W.alloc (.cells #[u] te)) :=
  wpList_append1 hgd s x t ho e i z bytes ht hi hz hsize hby hzs v n xs u te hs hown (hk ▸ hx) h1 hn hb h
end Go.Proofs.Ytopcnaakdldkpaa
