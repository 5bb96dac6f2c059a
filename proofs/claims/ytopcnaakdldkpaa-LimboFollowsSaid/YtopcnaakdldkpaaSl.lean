/- Slices that are only read, as assertions; their tails. -/
import Derived.Test.YtopcnaakdldkpaaSep
namespace Go.Proofs.Ytopcnaakdldkpaa
open Go.RowKit
set_option linter.unusedVariables false

theorem Hold.undrew {w0 w : World} {p : Asr} (h : Hold w0 w.drew p) : Hold w0 w p := h.chg0 ⟨rfl, rfl, rfl, Nat.le_refl _, fun _ _ _ => rfl⟩
/-- Some of the objects, in any order. -/
theorem Imp.pick (R : Asr) : ∀ (is : List Nat) (l : List Asr), is.Nodup → (∀ i ∈ is, i < l.length) → Imp (sepR l R) (sepR (is.map fun i => l.getD i Asr.emp) R)
  | [], l, _, _ => Imp.rest R l
  | j :: js, l, hn, hl => by
    have hj : j < l.length := hl j (by simp)
    have ih := Imp.pick R js (l.set j Asr.emp) (List.nodup_cons.1 hn).2 (fun i hi => by rw [List.length_set]; exact hl i (by simp [hi]))
    have he : (js.map fun i => (l.set j Asr.emp).getD i Asr.emp) = js.map fun i => l.getD i Asr.emp := List.map_congr_left fun i hi => by
      have hij : j ≠ i := fun h => (List.nodup_cons.1 hn).1 (h ▸ hi)
      simp [List.getD, List.getElem?_set_ne hij]
    rw [he] at ih
    exact (Imp.nth (l.getD j Asr.emp) R l j (by simp [List.getD, List.getElem?_eq_getElem hj])).trans (Imp.under _ ih)
section
variable {w0 w : World} {R a b c d e f g h' i' : Asr}
theorem Hold.pk2 (h : Hold w0 w (a * (b * R))) (is : List Nat) (hn : is.Nodup ∧ ∀ i ∈ is, i < 2 := by decide) : Hold w0 w (sepR (is.map fun i => [a, b].getD i Asr.emp) R) := h.imp (Imp.pick R is [a, b] hn.1 hn.2)
theorem Hold.pk3 (h : Hold w0 w (a * (b * (c * R)))) (is : List Nat) (hn : is.Nodup ∧ ∀ i ∈ is, i < 3 := by decide) : Hold w0 w (sepR (is.map fun i => [a, b, c].getD i Asr.emp) R) := h.imp (Imp.pick R is [a, b, c] hn.1 hn.2)
theorem Hold.pk4 (h : Hold w0 w (a * (b * (c * (d * R))))) (is : List Nat) (hn : is.Nodup ∧ ∀ i ∈ is, i < 4 := by decide) : Hold w0 w (sepR (is.map fun i => [a, b, c, d].getD i Asr.emp) R) := h.imp (Imp.pick R is [a, b, c, d] hn.1 hn.2)
theorem Hold.pk5 (h : Hold w0 w (a * (b * (c * (d * (e * R)))))) (is : List Nat) (hn : is.Nodup ∧ ∀ i ∈ is, i < 5 := by decide) : Hold w0 w (sepR (is.map fun i => [a, b, c, d, e].getD i Asr.emp) R) := h.imp (Imp.pick R is [a, b, c, d, e] hn.1 hn.2)
theorem Hold.pk6 (h : Hold w0 w (a * (b * (c * (d * (e * (f * R))))))) (is : List Nat) (hn : is.Nodup ∧ ∀ i ∈ is, i < 6 := by decide) : Hold w0 w (sepR (is.map fun i => [a, b, c, d, e, f].getD i Asr.emp) R) := h.imp (Imp.pick R is [a, b, c, d, e, f] hn.1 hn.2)
theorem Hold.pk7 (h : Hold w0 w (a * (b * (c * (d * (e * (f * (g * R)))))))) (is : List Nat) (hn : is.Nodup ∧ ∀ i ∈ is, i < 7 := by decide) : Hold w0 w (sepR (is.map fun i => [a, b, c, d, e, f, g].getD i Asr.emp) R) := h.imp (Imp.pick R is [a, b, c, d, e, f, g] hn.1 hn.2)
theorem Hold.pk8 (h : Hold w0 w (a * (b * (c * (d * (e * (f * (g * (h' * R))))))))) (is : List Nat) (hn : is.Nodup ∧ ∀ i ∈ is, i < 8 := by decide) : Hold w0 w (sepR (is.map fun i => [a, b, c, d, e, f, g, h'].getD i Asr.emp) R) := h.imp (Imp.pick R is [a, b, c, d, e, f, g, h'] hn.1 hn.2)
theorem Hold.pk9 (h : Hold w0 w (a * (b * (c * (d * (e * (f * (g * (h' * (i' * R)))))))))) (is : List Nat) (hn : is.Nodup ∧ ∀ i ∈ is, i < 9 := by decide) : Hold w0 w (sepR (is.map fun i => [a, b, c, d, e, f, g, h', i'].getD i Asr.emp) R) := h.imp (Imp.pick R is [a, b, c, d, e, f, g, h', i'] hn.1 hn.2)
end
/-- A slice that is only read. -/
def slA (A : Option Addr) (n c : Nat) (xs : List Value) : Asr where
  P w fp := n ≤ c ∧ c ≤ maxLen ∧ ∃ b, Reads w b A n xs ∧ fp = if n = 0 then [] else [b]
  chg := by
    rintro S w w' fp ⟨h1, h2, b, h, rfl⟩ hc hS
    refine ⟨h1, h2, b, ?_, rfl⟩
    by_cases hn : n = 0
    · subst hn; exact ⟨h.len, fun k hk => by omega⟩
    · exact h.chg hc (hS b (by rw [if_neg hn]; simp))
  lt := by
    rintro w fp ⟨h1, h2, b, h, rfl⟩ x hx
    by_cases hn : n = 0
    · rw [if_pos hn] at hx; cases hx
    · rw [if_neg hn] at hx
      obtain ⟨ad, u, _, _, h3, _⟩ := h.at_ 0 (by omega)
      rw [List.mem_singleton.1 hx]; exact h3
theorem Imp.rowSl (e A n c : _) (xs : List Value) : Imp (rowA e (.slice A n c) n xs) (slA A n c xs) := by
  rintro w fp ⟨h, rfl⟩
  have hr := row_reads h
  refine ⟨_, ⟨?_, ?_, _, hr, rfl⟩, ?_⟩
  · rcases h.2 with ⟨hv, h0⟩ | ⟨g, cap, cur, hv, _, _, hl, hm, _⟩
    · omega
    · injection hv with _ _ hc; omega
  · rcases h.2 with ⟨hv, h0⟩ | ⟨g, cap, cur, hv, _, _, hl, hm, _⟩
    · injection hv with _ _ hc; rw [hc]; exact Nat.zero_le _
    · injection hv with _ _ hc; omega
  · intro b hb
    by_cases hn : n = 0
    · rw [if_pos hn] at hb; cases hb
    · rw [if_neg hn] at hb
      obtain ⟨ad, u, hA, hab, _⟩ := hr.at_ 0 (by omega)
      rw [List.mem_singleton.1 hb]
      subst hA
      rw [fpV_some]; simp
section
variable {w0 w : World} {R : Asr} {A : Option Addr} {n c : Nat} {xs : List Value}
theorem Hold.sl (h : Hold w0 w (slA A n c xs * R)) : n ≤ c ∧ c ≤ maxLen ∧ ∃ b, Reads w b A n xs := by
  obtain ⟨fp, h1, h2, b, h3, _⟩ := h.get
  exact ⟨h1, h2, b, h3⟩
theorem Hold.slLen (h : Hold w0 w (slA A n c xs * R)) : xs.length = n := by
  obtain ⟨_, _, b, h3⟩ := h.sl
  exact h3.len
theorem Hold.slAt (h : Hold w0 w (slA A n c xs * R)) {k : Nat} (hk : k < n) : ∃ ad, A = some ad ∧ w.cell? (ad.add k) = xs[k]? ∧ ∀ w', Hold w0 w' (slA A n c xs * R) → w'.cell? (ad.add k) = xs[k]? := by
  obtain ⟨_, _, b, h3⟩ := h.sl
  obtain ⟨ad, hA, _, hc⟩ := h3.cellAt hk
  refine ⟨ad, hA, by rw [hc, List.getElem?_eq_getElem], fun w' h' => ?_⟩
  obtain ⟨_, _, b', h4⟩ := h'.sl
  obtain ⟨ad', hA', _, hc'⟩ := h4.cellAt hk
  rw [hA] at hA'
  injection hA' with hA'
  subst hA'
  rw [hc', List.getElem?_eq_getElem]
end
theorem Hold.slAt2 {w0 w : World} {R : Asr} {A : Option Addr} {n c : Nat} {xs : List Value} (h : Hold w0 w (slA A n c xs * R)) {k : Nat} (hk : k < n) : ∃ ad, A = some ad ∧ ∀ w' R', Hold w0 w' (slA A n c xs * R') → w'.cell? (ad.add k) = xs[k]? := by
  obtain ⟨ad, hA, _⟩ := h.slAt hk
  refine ⟨ad, hA, fun w' R' h' => ?_⟩
  obtain ⟨ad', hA', hc, _⟩ := h'.slAt hk
  rw [hA] at hA'
  injection hA' with hA'
  subst hA'
  exact hc
theorem Imp.slTail (ad : Addr) (n c : Nat) (x : Value) (xs : List Value) : Imp (slA (some ad) (n + 1) c (x :: xs)) (slA (if c = 1 then some ad else some (ad.add 1)) n (c - 1) xs) := by
  rintro w fp ⟨h1, h2, b, h, rfl⟩
  refine ⟨_, ⟨by omega, by omega, b, ?_, rfl⟩, ?_⟩
  · refine ⟨by have := h.len; simp at this; exact this, fun k hk => ?_⟩
    obtain ⟨ad', u, hA, hb, hlt, hx, hc⟩ := h.at_ (k + 1) (by omega)
    injection hA with hA
    subst hA
    rw [if_neg (by omega)]
    exact ⟨_, u, rfl, by rw [block_of_add]; exact hb, hlt, by simpa using hx, by rw [add_of_add, Nat.add_comm]; exact hc⟩
  · intro y hy
    by_cases hn : n = 0
    · rw [if_pos hn] at hy; cases hy
    · rw [if_neg hn] at hy
      rw [if_neg (by omega)]; exact hy
theorem Imp.slNil : Imp (slA none 0 0 []) Asr.emp := by
  rintro w fp ⟨h1, h2, b, h, rfl⟩
  exact ⟨[], rfl, fun _ h => by cases h⟩
theorem Reads.below {w0 w : World} {b n : Nat} {A : Option Addr} {xs : List Value} (h : Reads w0 b A n xs) (hb : Below w0.heap.size w0 w) : Reads w b A n xs := h.chg (Chg.of_below hb) (S := []) (by simp)
theorem Reads.take {w : World} {b n k : Nat} {A : Option Addr} {xs : List Value} (h : Reads w b A n xs) (hk : k ≤ n) : Reads w b A k (xs.take k) :=
  ⟨by have := h.len; simp; omega, fun i hi => by
    obtain ⟨ad, u, h1, h2, h3, h4, h5⟩ := h.at_ i (by omega)
    exact ⟨ad, u, h1, h2, h3, by rw [List.getElem?_take, if_pos hi]; exact h4, h5⟩⟩
theorem slice_tailP {P : Program} (T : TypeId) (hT : P.underlying T = some (.slice (P.elem T))) (hs : ∀ w, (sizeOf (P.elem T)).run P w = .ok 1 w) (w : World) (ad : Addr) (n c : Nat) :
    (Instr.slice T (.slice (some ad) (n + 1) c) (some (.int .i64 1)) none none).run P w = .ok (.slice (if c = 1 then some ad else some (ad.add 1)) n (c - 1)) w := by
  rw [run_slice_l w T (some ad) (n + 1) c hT .i64 1 (by omega) (by omega), hs]
  simp [Result.andThen, sliced]
theorem slice_headP {P : Program} (T : TypeId) (hT : P.underlying T = some (.slice (P.elem T))) (hs : ∀ w, (sizeOf (P.elem T)).run P w = .ok 1 w) (w : World) (a : Option Addr) (n c k : Nat) (hk : k ≤ c) :
    (Instr.slice T (.slice a n c) none (some (.int .i64 (k : Int))) none).run P w = .ok (.slice a k c) w := by
  rw [run_slice_h w T a n c hT .i64 (k : Int) (by omega) (by omega), hs]
  cases a with
  | none => simp [Result.andThen, sliced]
  | some a => simp [Result.andThen, sliced, Addr.add]
end Go.Proofs.Ytopcnaakdldkpaa
