/- append of a list that is read elsewhere; a row of cells; Place. -/
import Derived.Test.YtopcnaakdldkpaaApp
import Derived.Test.YtopcnaakdldkpaaKit
import Derived.Deep.Upon
namespace Go.Proofs.Ytopcnaakdldkpaa
open Go.RowKit
set_option linter.unusedVariables false

section
variable {w0 : World} {R : Asr}
theorem Hold.rowSCap {w : World} {e : TypeId} {size n c : Nat} {A : Option Addr} {xs : List Value} (h : Hold w0 w (Go.Proofs.Ytopcnaakdldkpaa.rowS e size (.slice A n c) n xs * R)) : n ≤ c := by
  rcases h.rowS with ho | ⟨g, cs, hv, _⟩
  · rcases ho.2 with ⟨hv, h0⟩ | ⟨g, cap, cur, hv, hc, _⟩
    · omega
    · injection hv with _ _ h3; omega
  · injection hv with _ _ h3; omega
/-- append of a list, empty or not, that is read elsewhere. -/
theorem wpList_appA {P : Program} {W : World} {ops : Array Oper} {rest : List Oper} {o : Oper} {a : Act} {Q : Exit → Act → World → Prop} (hgd : o.guard = none) (s x : Operand) (t : TypeId)
    (ho : o.op = .call { callee := .builtin .append, args := #[s, x], argTypes := #[t, t] })
    (e : TypeId) (i : TypeInfo) (z : Value) (bytes : Nat) (ht : P.underlying t = some (.slice e)) (hi : P.info? e = some i) (hz : i.zero = some z)
    (hsize : i.size = 1) (hby : i.bytes = bytes) (hzs : z.cells.size = 1)
    (v : Value) (n : Nat) (xs us : List Value) (hs : a.eval s = v) (h : Hold w0 W (Go.Proofs.Ytopcnaakdldkpaa.rowS e 1 v n xs * R))
    (A : Option Addr) (m c : Nat) (hx : a.eval x = .slice A m c) (b : Nat) (hr : Reads W b A m us) (h1 : ∀ u ∈ us, u.oneCell' = true) (hn : n + m ≤ 1000000000) (hb : bytes ≤ 4096)
    (K : ∀ A' c' w', Hold w0 w' (Go.Proofs.Ytopcnaakdldkpaa.rowS e 1 (.slice A' (n + m) c') (n + m) (xs ++ us) * R) → wpList P ops Q rest (a.put o.dst (.slice A' (n + m) c')) w') :
    wpList P ops Q (o :: rest) a W := by
  rcases Nat.eq_zero_or_pos m with rfl | hm
  · obtain rfl : us = [] := List.length_eq_zero_iff.1 hr.len
    obtain ⟨A', c', rfl⟩ := h.rowSForm
    have hc := h.rowSCap
    have hsrc : Src P i.size t (.slice A 0 c) 0 [] W := by
      refine ⟨.inl ⟨e, ht⟩, fun w' => by simp [Builtin.lenOf], ?_, ?_, by simp, by simp⟩ <;> cases A <;> simp [Builtin.firstCells, loadCells, loadCellsFrom]
    have hrun := run_append_nothing (P := P) W t t o.type e i ht hi A' n c' hc (.slice A 0 c) hsrc
    refine wpList_plain hgd fun K' hK' => ?_
    unfold Oper.wp
    simp [execOp, ho, resolve, invoke, builtin, hs, hx, hrun, Result.andThen]
    have hK := K A' c' W (by simpa using h)
    exact hK' _ _ (by simpa using hK)
  · obtain ⟨ad, u, rfl, _⟩ := hr.at_ 0 hm
    refine wpList_appL hgd s x t ho e i z bytes ht hi hz hsize hby hzs v n xs us hs h ad m c hx hr.len (fun j u hj => ?_) h1 hm hn hb K
    have hj' : j < m := by rw [← hr.len]; exact (List.getElem?_eq_some_iff.1 hj).1
    obtain ⟨ad', u', h2, _, _, h3, h4⟩ := hr.at_ j hj'
    obtain rfl := Option.some.inj h2
    rw [h3] at hj
    obtain rfl := Option.some.inj hj
    exact h4
end
theorem Hold.cellsRow {w0 w : World} {R : Asr} (h : Hold w0 w R) (e : TypeId) (C : Array Value) (n : Nat) (hn : C.size = n) (hm : n ≤ maxLen) : Hold w0 (w.alloc (.cells C e)) (Go.Proofs.Ytopcnaakdldkpaa.rowS e 1 (.slice (some ⟨w.heap.size, 0, none⟩) n n) n C.toList * R) := by
  subst hn
  exact h.new ((Chg.refl _ _).alloc _) ⟨.inl ⟨by simp, .inr ⟨_, C.size, C, rfl, Nat.zero_le _, heap_alloc_new w _, Nat.le_refl _, hm, by simp, by rw [Nat.mul_one, ← Array.length_toList, List.take_length]⟩⟩, rfl⟩ (by rw [fpV_some]; simp)
theorem place_ex (w : World) (a N : Int) (h0 : 0 < N) (h1 : N ≤ 9223372036854775807) :
    Calls Try.prog 11 #[.int .i64 a, .int .i64 N] w fun e w' => ∃ k : Nat, (k : Int) < N ∧ e = .returned (.int .i64 (k : Int)) ∧ w = w' := by
  refine (place_any w a N h0 h1).mono ?_
  rintro e w' ⟨rfl, rfl⟩
  have p0 := place_nonneg a N h0
  have p1 := place_lt a N h0
  exact ⟨(place a N).toNat, by omega, by rw [Int.toNat_of_nonneg p0], rfl⟩
end Go.Proofs.Ytopcnaakdldkpaa
