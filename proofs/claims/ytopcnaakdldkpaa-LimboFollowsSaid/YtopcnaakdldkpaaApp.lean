/- Slices of elements of any number of cells, owned; append of one element or of many, over assertions. -/
import Derived.Test.YtopcnaakdldkpaaSl
import Derived.ArgAppend
namespace Go.Proofs.Ytopcnaakdldkpaa
open Go.RowKit
set_option linter.unusedVariables false

/-- An owned slice; or the bytes of a constant, whose block bears the mark behind its last cell. -/
def Marked (w : World) (e : TypeId) (size : Nat) (v : Value) (n : Nat) (xs : List Value) : Prop := ∃ g cs, v = .slice (some ⟨g, 0, none⟩) n n ∧ w.heap[g]? = some (.cells cs e (n, n + 1)) ∧ cs.toList = xs ∧ size = 1 ∧ xs.length = n
def rowS (e : TypeId) (size : Nat) (v : Value) (n : Nat) (xs : List Value) : Asr where
  P w fp := (w.ownsRow 0 e size v n xs ∨ Marked w e size v n xs) ∧ fp = fpV v
  chg := by
    rintro S w w' fp ⟨h | ⟨g, cs, rfl, hg, h1⟩, rfl⟩ hc hS
    · exact ⟨.inl (row_chg h hc hS), rfl⟩
    · exact ⟨.inr ⟨g, cs, rfl, (hc.block g (Array.getElem?_eq_some_iff.1 hg).1 (hS g (by rw [fpV_some]; simp))).trans hg, h1⟩, rfl⟩
  lt := by
    rintro w fp ⟨h | ⟨g, cs, rfl, hg, h1⟩, rfl⟩
    · exact row_lt h
    · intro b hb
      rw [fpV_some] at hb
      rw [List.mem_singleton.1 hb]
      exact (Array.getElem?_eq_some_iff.1 hg).1
section
variable {w0 w w' : World} {R : Asr} {e : TypeId} {size n : Nat} {v : Value} {xs : List Value}
theorem Hold.rowS (h : Hold w0 w (rowS e size v n xs * R)) : w.ownsRow 0 e size v n xs ∨ Marked w e size v n xs := by
  obtain ⟨fp, h1, _⟩ := h.get
  exact h1
theorem Hold.nilRowS (h : Hold w0 w R) (e : TypeId) (size : Nat) : Hold w0 w (Go.Proofs.Ytopcnaakdldkpaa.rowS e size (.slice none 0 0) 0 [] * R) :=
  h.new (fp := []) (Chg.refl _ _) ⟨.inl (World.ownsRow_nil _ _ _ _), rfl⟩ (by simp)
/-- The bytes of a constant. -/
theorem Hold.markRow (h : Hold w0 w R) (e : TypeId) (C : Array Value) : Hold w0 (w.alloc (.cells C e (C.size, C.size + 1))) (Go.Proofs.Ytopcnaakdldkpaa.rowS e 1 (.slice (some ⟨w.heap.size, 0, none⟩) C.size C.size) C.size C.toList * R) :=
  h.new ((Chg.refl _ _).alloc _) ⟨.inr ⟨w.heap.size, C, rfl, heap_alloc_new w _, rfl, rfl, by simp⟩, rfl⟩ (by rw [fpV_some]; simp)
theorem Hold.rowSForm (h : Hold w0 w (Go.Proofs.Ytopcnaakdldkpaa.rowS e size v n xs * R)) : ∃ A c, v = .slice A n c := by
  rcases h.rowS with h | ⟨g, cs, rfl, _⟩
  · exact row_form h
  · exact ⟨_, _, rfl⟩
theorem Hold.rowSLen (h : Hold w0 w (Go.Proofs.Ytopcnaakdldkpaa.rowS e size v n xs * R)) : xs.length = n * size := by
  rcases h.rowS with h | ⟨g, cs, rfl, hg, hx, rfl, hl⟩
  · exact h.1
  · rw [hl]; simp
/-- The cells of an owned slice. -/
theorem Hold.rowSReads {A : Option Addr} {c : Nat} (h : Hold w0 w (Go.Proofs.Ytopcnaakdldkpaa.rowS e size (.slice A n c) n xs * R)) : ∃ b, Reads w b A (n * size) xs := by
  rcases h.rowS with h | ⟨g, cs, hv, hg, hx, rfl, hl⟩
  · rcases h.2 with ⟨hv, h0⟩ | ⟨g, cap, cur, hv, _, hg, h1, h2, h3, h4⟩
    · injection hv with hA
      subst hA
      subst h0
      refine ⟨0, by have := h.1; simpa using this, fun k hk => by simp at hk⟩
    · injection hv with hA hn hc
      subst hA; subst hc
      refine ⟨g, h.1, fun k hk => ?_⟩
      have hl : k < xs.length := by rw [h.1]; exact hk
      refine ⟨_, xs[k], rfl, rfl, Blk.lt hg, List.getElem?_eq_getElem hl, ?_⟩
      rw [Addr.add_lit, Blk.cell hg, ← List.getElem?_eq_getElem hl, ← h4, List.getElem?_take, if_pos hk]
      simp
  · injection hv with hA hn hc
    subst hA
    refine ⟨g, by rw [hl]; simp, fun k hk => ?_⟩
    have hl2 : k < xs.length := by rw [hl]; simpa using hk
    refine ⟨_, xs[k], rfl, rfl, (Array.getElem?_eq_some_iff.1 hg).1, List.getElem?_eq_getElem hl2, ?_⟩
    rw [Addr.add_lit, ← List.getElem?_eq_getElem hl2, ← hx, World.cell?, hg]
    simp
/-- append of one element. -/
theorem wpList_app {P : Program} {W : World} {ops : Array Oper} {rest : List Oper} {o : Oper} {a : Act} {Q : Exit → Act → World → Prop} (hgd : o.guard = none) (s x : Operand) (t : TypeId)
    (ho : o.op = .call { callee := .builtin .append, args := #[s, x], argTypes := #[t, t] })
    (e : TypeId) (i : TypeInfo) (z : Value) (size bytes : Nat) (ht : P.underlying t = some (.slice e)) (hi : P.info? e = some i) (hz : i.zero = some z)
    (hsize : i.size = size) (hby : i.bytes = bytes) (hzs : z.cells.size = size) (hsz : 0 < size)
    (v : Value) (n : Nat) (xs us : List Value) (te : TypeId) (hs : a.eval s = v) (h : Hold w0 W (Go.Proofs.Ytopcnaakdldkpaa.rowS e size v n xs * R))
    (k : Nat) (hx : a.eval x = .slice (some ⟨k, 0, none⟩) 1 1) (hk : W.heap.size = k) (hl : us.length = size) (h1 : (us.all fun u => u.oneCell') = true) (hn : n ≤ 1000000000) (hb : bytes ≤ 4096)
    (K : ∀ A' c' w', Hold w0 w' (Go.Proofs.Ytopcnaakdldkpaa.rowS e size (.slice A' (n + 1) c') (n + 1) (xs ++ us) * R) → wpList P ops Q rest (a.put o.dst (.slice A' (n + 1) c')) w') :
    wpList P ops Q (o :: rest) a (W.alloc (.cells us.toArray te)) := by
  subst hk
  obtain ⟨fp, ⟨hown | ⟨g, cs, rfl, hg, hx2, rfl, hl2⟩, rfl⟩, hO⟩ := h.open_
  case inr =>
    have hbl := Blk.new W te us.toArray
    have hgl := (Array.getElem?_eq_some_iff.1 hg).1
    refine wpList_append_arg (W.alloc (.cells us.toArray te)) hgd s x t ho e i z 1 bytes ht hi hz hsize hby hzs (by decide) g 0 n n xs hs (by simp [hl2]) (fun j u hj => ?_) ⟨W.heap.size, 0, none⟩ 1 1 us hx (by omega) (fun j u hj => ?_) (fun u hu => List.all_eq_true.1 h1 u hu) (fun hr => by omega) (by unfold maxLen; omega) ?_ (fun hr => by omega) (fun _ v' w' how hgr => ?_)
    · have hjl := (List.getElem?_eq_some_iff.1 hj).1
      rw [((Chg.refl [] W).alloc _).cell (p := ⟨g, 0 + j, none⟩) hgl (by simp), cell_of_row W g (0 + j) cs e (n, n + 1) hg, Nat.zero_add, ← hj, ← hx2]
      simp
    · have ha : (⟨W.heap.size, 0, none⟩ : Addr).add j = ⟨W.heap.size, j, none⟩ := by unfold Addr.add; split <;> simp_all
      rw [ha, hbl.cell]
      simpa using hj
    · have : (n + 1) * bytes ≤ (n + 1) * 4096 := Nat.mul_le_mul_left _ hb
      omega
    · obtain ⟨A', c', rfl⟩ := row_form how
      refine K A' c' w' (hO w' _ _ (((Chg.refl _ W).alloc _).grown hgr (by simp)) ⟨.inl (row_base how (Nat.zero_le _)), rfl⟩ (fun b hb' => .inr ?_))
      have := row_ge how b hb'
      simp at this
      omega
  have hbl := Blk.new W te us.toArray
  refine wpList_append_own_at (W.alloc (.cells us.toArray te)) hgd s x t ho 0 e i z size bytes ht hi hz hsize hby hzs hsz v n xs hs (hown.alloc _) ⟨W.heap.size, 0, none⟩ 1 1 us hx (by omega) (fun j u hj => ?_) (fun u hu => List.all_eq_true.1 h1 u hu) ?_ ?_ (Nat.zero_le _) ?_
  · have ha : (⟨W.heap.size, 0, none⟩ : Addr).add j = ⟨W.heap.size, j, none⟩ := by unfold Addr.add; split <;> simp_all
    rw [ha, hbl.cell]
    simpa using hj
  · unfold maxLen; omega
  · have : (n + 1) * bytes ≤ (n + 1) * 4096 := Nat.mul_le_mul_left _ hb
    omega
  · intro v' w' hown' hg _ hat
    obtain ⟨A', c', hv⟩ := row_form hown'
    subst hv
    refine K A' c' w' (hO w' _ _ (((Chg.refl _ W).alloc _).grown hg (fun k hk => .inl (mem_fpV.2 hk))) ⟨.inl hown', rfl⟩ (fun k hk => ?_))
    rcases hat with e1 | e1
    · left; rw [mem_fpV] at hk ⊢; rw [← e1]; exact hk
    · right; rw [mem_fpV] at hk; rw [e1] at hk; simp at hk; omega
/-- append of a whole list that is read elsewhere. -/
theorem wpList_appL {P : Program} {W : World} {ops : Array Oper} {rest : List Oper} {o : Oper} {a : Act} {Q : Exit → Act → World → Prop} (hgd : o.guard = none) (s x : Operand) (t : TypeId)
    (ho : o.op = .call { callee := .builtin .append, args := #[s, x], argTypes := #[t, t] })
    (e : TypeId) (i : TypeInfo) (z : Value) (bytes : Nat) (ht : P.underlying t = some (.slice e)) (hi : P.info? e = some i) (hz : i.zero = some z)
    (hsize : i.size = 1) (hby : i.bytes = bytes) (hzs : z.cells.size = 1)
    (v : Value) (n : Nat) (xs us : List Value) (hs : a.eval s = v) (h : Hold w0 W (Go.Proofs.Ytopcnaakdldkpaa.rowS e 1 v n xs * R))
    (ad : Addr) (m c : Nat) (hx : a.eval x = .slice (some ad) m c) (hl : us.length = m) (hr : ∀ j u, us[j]? = some u → W.cell? (ad.add j) = some u) (h1 : ∀ u ∈ us, u.oneCell' = true) (hm0 : 0 < m) (hn : n + m ≤ 1000000000) (hb : bytes ≤ 4096)
    (K : ∀ A' c' w', Hold w0 w' (Go.Proofs.Ytopcnaakdldkpaa.rowS e 1 (.slice A' (n + m) c') (n + m) (xs ++ us) * R) → wpList P ops Q rest (a.put o.dst (.slice A' (n + m) c')) w') :
    wpList P ops Q (o :: rest) a W := by
  obtain ⟨fp, ⟨hown | ⟨g, cs, rfl, hg, hx2, _, hl2⟩, rfl⟩, hO⟩ := h.open_
  case inr =>
    refine wpList_append_arg W hgd s x t ho e i z 1 bytes ht hi hz hsize hby hzs (by decide) g 0 n n xs hs (by simp [hl2]) (fun j u hj => ?_) ad m c us hx (by omega) hr h1 (fun hr => by omega) (by unfold maxLen; omega) ?_ (fun hr => by omega) (fun _ v' w' how hgr => ?_)
    · have hjl := (List.getElem?_eq_some_iff.1 hj).1
      rw [cell_of_row W g (0 + j) cs e (n, n + 1) hg, Nat.zero_add, ← hj, ← hx2]
      simp
    · have : (n + m) * bytes ≤ (n + m) * 4096 := Nat.mul_le_mul_left _ hb
      omega
    · obtain ⟨A', c', rfl⟩ := row_form how
      refine K A' c' w' (hO w' _ _ ((Chg.refl _ W).grown hgr (by simp)) ⟨.inl (row_base how (Nat.zero_le _)), rfl⟩ (fun b hb' => .inr ?_))
      exact row_ge how b hb'
  refine wpList_append_own_at W hgd s x t ho 0 e i z 1 bytes ht hi hz hsize hby hzs (by decide) v n xs hs hown ad m c us hx (by omega) hr h1 ?_ ?_ (Nat.zero_le _) ?_
  · unfold maxLen; omega
  · have : (n + m) * bytes ≤ (n + m) * 4096 := Nat.mul_le_mul_left _ hb
    omega
  · intro v' w' hown' hg _ hat
    obtain ⟨A', c', hv⟩ := row_form hown'
    subst hv
    refine K A' c' w' (hO w' _ _ ((Chg.refl _ W).grown hg (fun k hk => .inl (mem_fpV.2 hk))) ⟨.inl hown', rfl⟩ (fun k hk => ?_))
    rcases hat with e1 | e1
    · left; rw [mem_fpV] at hk ⊢; rw [← e1]; exact hk
    · right; rw [mem_fpV] at hk; rw [e1] at hk; simp at hk; omega
end
end Go.Proofs.Ytopcnaakdldkpaa
