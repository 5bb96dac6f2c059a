/- append(x, make([]T, m)...): the translation hands the number m to append; what is appended are m zeros. -/
import Derived.Test.YtopcnaakdldkpaaSep
namespace Go.Proofs.Ytopcnaakdldkpaa
open Go.RowKit
set_option linter.unusedVariables false

theorem zeroCells_one (z : Value) (n : Nat) : Builtin.zeroCells #[z] n = (List.replicate n z).toArray := by
  apply Array.ext'
  simp [Builtin.zeroCells]
  exact List.ext_getElem (by simp) (fun i h1 h2 => by simp [Nat.mod_one])

section
variable {P : Program} (w : World)
theorem run_zeros_own (base : Nat) (t u ty e : TypeId) (i : TypeInfo) (k : IntKind) (bytes : Nat) (ht : P.underlying t = some (.slice e)) (hu : P.underlying u = some (.int .i64)) (hi : P.info? e = some i) (hz : i.zero = some (.int k 0))
    (hsize : i.size = 1) (hby : i.bytes = bytes) (v : Value) (n : Nat) (xs : List Value) (hown : w.ownsRow base e 1 v n xs) (m : Nat)
    (h63 : n + m ≤ 1000000) (hbytes : bytes ≤ 4096) (hbase : base ≤ w.heap.size) :
    ∃ v' w', (Builtin.append_ #[t, u] ty #[v, .int .i64 m]).run P w = .ok v' w' ∧ w'.ownsRow base e 1 v' (n + m) (xs ++ List.replicate m (.int k 0)) ∧ w.grownBy w' v.ownBlock ∧ (v'.ownBlock = v.ownBlock ∨ v'.ownBlock = some w.heap.size) := by
  subst hby
  have hlen : (xs ++ List.replicate m (Value.int k 0)).length = (n + m) * 1 := by rw [List.length_append, hown.1]; simp
  have hl0 : ¬ (IntKind.i64.wrap (m : Int) < 0) := by rw [IntWalk.i64_in _ (by omega)]; omega
  have hwr : IntKind.i64.wrap (m : Int) = m := IntWalk.i64_in _ (by omega)
  have hmb : (m : Int) * (i.bytes : Int) ≤ 281474976710656 := by
    have h1 : (m : Int) * (i.bytes : Int) ≤ 1000000 * 4096 := Int.mul_le_mul (by omega) (by omega) (by omega) (by omega)
    omega
  have hml : ¬ (281474976710656 < (m : Int) * (i.bytes : Int)) := by omega
  have hnb : (n + m) * i.bytes ≤ 1000000 * 4096 := Nat.mul_le_mul h63 hbytes
  have grown : ∀ (old : Nat), old < n + m → ∀ (row : Option Nat),
      (w.drew.alloc (.cells (xs.toArray ++ (List.replicate m (Value.int k 0)).toArray ++ Builtin.zeroCells #[Value.int k 0] (grownCap w (n + m) old e - (n + m))) e)).ownsRow base e 1
        (.slice (some ⟨w.heap.size, 0, none⟩) (n + m) (grownCap w (n + m) old e)) (n + m) (xs ++ List.replicate m (.int k 0)) ∧
      w.grownBy (w.drew.alloc (.cells (xs.toArray ++ (List.replicate m (Value.int k 0)).toArray ++ Builtin.zeroCells #[Value.int k 0] (grownCap w (n + m) old e - (n + m))) e)) row := by
    intro old ho row
    have hge := grownCap_ge w (n + m) old e
    have hcm : grownCap w (n + m) old e ≤ maxLen := grownCap_le_maxLen w (n + m) old e (by unfold maxLen; omega)
    refine ⟨⟨hlen, .inr ⟨w.heap.size, _, _, rfl, hbase, heap_alloc_new w.drew _, hge, hcm, ?_, ?_⟩⟩, ⟨rfl, rfl, rfl, by simp, fun j hj _ => heap_alloc_old w.drew _ hj⟩⟩
    · have := hown.1
      simp [size_zeroCells]
      omega
    · simp only [Array.toList_append, List.append_assoc]
      rw [← List.append_assoc, ← hlen]
      exact List.take_left
  have hai : ∀ W, (asInt (.int .i64 (m : Int))).run P W = .ok (m : Int) W := fun _ => rfl
  have hm0 : ¬ ((m : Int) < 0) := by omega
  rcases hown.2 with ⟨rfl, rfl⟩ | ⟨g, cap, cur, rfl, hbg, hg, hnc, hcm, hcs, htake⟩
  · have hx : xs = [] := List.eq_nil_of_length_eq_zero (by simpa using hown.1)
    subst hx
    by_cases hm : m = 0
    · subst hm
      refine ⟨.slice none 0 0, w, ?_, by simpa using World.ownsRow_nil w base e 1, ⟨rfl, rfl, rfl, Nat.le_refl _, fun _ _ _ => rfl⟩, .inl rfl⟩
      have h0 : IntKind.i64.wrap 0 = 0 := rfl
      have hai0 : ∀ W, (asInt (.int .i64 0)).run P W = .ok 0 W := fun _ => rfl
      simp [Builtin.append_, run_underlying ht, run_underlying hu, sizeOf, typeInfo, hi, hai0, h0]
    · have hgr := grown 0 (by omega) (Value.ownBlock (.slice none 0 0))
      have h48' : ¬ (281474976710656 < Builtin.nextslicecap m 0 * i.bytes) := by rw [nextslicecap_zero (by omega)]; simp at hnb; omega
      have h63' : ¬ (9223372036854775807 < (m : Int)) := by omega
      simp only [Nat.zero_add, List.nil_append, Array.empty_append] at hgr ⊢
      refine ⟨_, _, ?_, hgr.1, hgr.2, .inr rfl⟩
      simp [Builtin.append_, run_underlying ht, run_underlying hu, sizeOf, typeInfo, zeroValue, hi, hz, hsize, hai, hwr, hml, hm, h48', h63', hm0, Builtin.firstCells, Question.forced, newRow, grownCap, Value.cells, zeroCells_one]
  · by_cases hroom : n + m ≤ cap
    · have hst := run_storeCells_at P g (n * 1) e (List.replicate m (Value.int k 0)) 0 cur w hg (by simp; omega) (by simp [Value.oneCell'])
      simp only [Nat.add_zero, Nat.mul_one] at hst
      have hr : (Builtin.append_ #[t, u] ty #[.slice (some ⟨g, 0, none⟩) n cap, .int .i64 m]).run P w = .ok (.slice (some ⟨g, 0, none⟩) (n + m) cap) (w.setRow g (cur.toList.take n ++ List.replicate m (Value.int k 0) ++ cur.toList.drop (n + (List.replicate m (Value.int k 0)).length)).toArray) := by
        by_cases hm : m = 0
        · subst hm
          have h0 : IntKind.i64.wrap 0 = 0 := rfl
          have hai0 : ∀ W, (asInt (.int .i64 0)).run P W = .ok 0 W := fun _ => rfl
          simp at hst hroom
          simp [Builtin.append_, run_underlying ht, run_underlying hu, sizeOf, typeInfo, hi, hsize, hai0, h0, Addr.add_lit, hroom, hst]
        · simp [Builtin.append_, run_underlying ht, run_underlying hu, sizeOf, typeInfo, zeroValue, hi, hz, hsize, hai, hwr, hml, hroom, hm, hm0, Addr.add_lit, Value.cells, zeroCells_one] at hst ⊢
          simp [hst]
      refine ⟨_, _, hr, ⟨hlen, .inr ⟨g, cap, _, rfl, hbg, setRow_heap w g cur _ e _ hg, hroom, hcm, ?_, ?_⟩⟩, ⟨rfl, rfl, rfl, by simp, fun j _ hj => setRow_other w g j _ (fun e => hj (by simp [Value.ownBlock, e]))⟩, .inl rfl⟩
      · simp
        omega
      · have h9 := hown.1
        simp only [Nat.mul_one] at htake h9 ⊢
        rw [htake, ← h9]
        exact List.take_left' (by simp)
    · have holds : ∀ j u, xs[j]? = some u → w.cell? ((⟨g, 0, none⟩ : Addr).add j) = some u := hown.cells (g := g) rfl
      have hm : m ≠ 0 := by omega
      have hfo := run_firstCells_some (P := P) w.drew 1 n ⟨g, 0, none⟩ n cap xs hown.1 (by simpa using holds)
      have hgr := grown cap (by omega) (Value.ownBlock (.slice (some ⟨g, 0, none⟩) n cap))
      have h48' : ¬ (281474976710656 < Builtin.nextslicecap (n + m) cap * i.bytes) := by have := growslice_fits (need := n + m) (old := cap) (bytes := i.bytes) (by omega) (by omega); omega
      have h63' : ¬ (9223372036854775807 < (n : Int) + (m : Int)) := by omega
      refine ⟨_, _, ?_, hgr.1, hgr.2, .inr rfl⟩
      simp [Builtin.append_, run_underlying ht, run_underlying hu, sizeOf, typeInfo, zeroValue, hi, hz, hsize, hai, hwr, hml, hroom, hm, h48', h63', hm0, hfo, Question.forced, newRow, grownCap, Value.cells, zeroCells_one]

theorem wp_zeros {o : Oper} {a : Act} {K : Act → World → Prop} {Q : Exit → Act → World → Prop} (s x : Operand) (t u : TypeId)
    (ho : o.op = .call { callee := .builtin .append, args := #[s, x], argTypes := #[t, u] })
    (e : TypeId) (i : TypeInfo) (k : IntKind) (bytes : Nat) (ht : P.underlying t = some (.slice e)) (hu : P.underlying u = some (.int .i64)) (hi : P.info? e = some i) (hz : i.zero = some (.int k 0))
    (hsize : i.size = 1) (hby : i.bytes = bytes) (v : Value) (n : Nat) (xs : List Value) (hs : a.eval s = v) (hown : w.ownsRow 0 e 1 v n xs) (m : Nat) (hx : a.eval x = .int .i64 m)
    (h63 : n + m ≤ 1000000) (hbytes : bytes ≤ 4096)
    (h : ∀ A' c' w', w'.ownsRow 0 e 1 (.slice A' (n + m) c') (n + m) (xs ++ List.replicate m (.int k 0)) → Chg (fpV v) w w' → (∀ b ∈ fpV (.slice A' (n + m) c'), b ∈ fpV v ∨ w.heap.size ≤ b) → K (a.put o.dst (.slice A' (n + m) c')) w') : o.wp P a w K Q := by
  obtain ⟨v', w', hr, h2, h3, h4⟩ := run_zeros_own (P := P) w 0 t u o.type e i k bytes ht hu hi hz hsize hby v n xs hown m h63 hbytes (Nat.zero_le _)
  obtain ⟨A', c', hv⟩ := row_form h2
  subst hv
  unfold Oper.wp execOp
  simp only [ho, resolve, invoke, builtin, Sem.run_bind, Sem.run_pure, Result.andThen_ok, List.map_toArray, List.map_cons, List.map_nil, hs, hx, hr]
  refine h A' c' w' h2 ((Chg.refl _ _).grown h3 (fun b hb => .inl (mem_fpV.2 hb))) (fun b hb => ?_)
  rcases h4 with e1 | e1
  · left; rw [mem_fpV] at hb ⊢; rw [← e1]; exact hb
  · right; rw [mem_fpV] at hb; rw [e1] at hb; simp at hb; omega
theorem wpList_zeros {ops : Array Oper} {rest : List Oper} {o : Oper} {a : Act} {Q : Exit → Act → World → Prop} (hgd : o.guard = none) (s x : Operand) (t u : TypeId)
    (ho : o.op = .call { callee := .builtin .append, args := #[s, x], argTypes := #[t, u] })
    (e : TypeId) (i : TypeInfo) (k : IntKind) (bytes : Nat) (ht : P.underlying t = some (.slice e)) (hu : P.underlying u = some (.int .i64)) (hi : P.info? e = some i) (hz : i.zero = some (.int k 0))
    (hsize : i.size = 1) (hby : i.bytes = bytes) (v : Value) (n : Nat) (xs : List Value) (hs : a.eval s = v) (hown : w.ownsRow 0 e 1 v n xs) (m : Nat) (hx : a.eval x = .int .i64 m)
    (h63 : n + m ≤ 1000000) (hbytes : bytes ≤ 4096)
    (h : ∀ A' c' w', w'.ownsRow 0 e 1 (.slice A' (n + m) c') (n + m) (xs ++ List.replicate m (.int k 0)) → Chg (fpV v) w w' → (∀ b ∈ fpV (.slice A' (n + m) c'), b ∈ fpV v ∨ w.heap.size ≤ b) → wpList P ops Q rest (a.put o.dst (.slice A' (n + m) c')) w') : wpList P ops Q (o :: rest) a w :=
  wpList_plain hgd fun _ hK => wp_zeros w s x t u ho e i k bytes ht hu hi hz hsize hby v n xs hs hown m hx h63 hbytes fun A' c' w' h2 h3 h4 => hK _ _ (h A' c' w' h2 h3 h4)
end
end Go.Proofs.Ytopcnaakdldkpaa
