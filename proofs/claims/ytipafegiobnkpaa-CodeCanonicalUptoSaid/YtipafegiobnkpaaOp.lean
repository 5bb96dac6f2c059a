/- A script, opened as an argument; the sum of its programs' lengths out of the bulk. -/
import Derived.Test.YtipafegiobnkpaaAw
import Derived.Test.YtipafegiobnkpaaArg5
import Derived.Test.YtipafegiobnkpaaRows
namespace Go.Proofs.Ytipafegiobnkpaa
open Go.RowKit Go.ChangeShapes Go.WideShapes Go.Deep
set_option linter.unusedVariables false

theorem reads_of {w : World} {a : Option Addr} {len : Nat} (f : Nat → Value) (h : ∀ i, i < len → ∃ x : Addr, a = some x ∧ w.cell? (x.add i) = some (f i)) : ∃ b, Reads w b a len ((List.range len).map f) := by
  refine ⟨a.elim 0 (·.block), by simp, fun k hk => ?_⟩
  obtain ⟨x, rfl, hc⟩ := h k hk
  have h2 := World.block_lt_of_cell? w _ hc
  rw [block_of_add] at h2
  exact ⟨x, f k, rfl, rfl, h2, by simp [hk], hc⟩
theorem wf_i64 {n : Int} (h : (Lit.int .i64 n).wf = true) : I64 n := by
  simp [Lit.wf, IntKind.min, IntKind.max, IntKind.signed, IntKind.bits] at h; unfold I64; omega
theorem wf_u64 {n : Int} (h : (Lit.int .u64 n).wf = true) : 0 ≤ n ∧ n < 18446744073709551616 := by
  simp [Lit.wf, IntKind.min, IntKind.max, IntKind.signed, IntKind.bits] at h; omega
/-- Slices of numbers. -/
theorem open_nums {w : World} {m : Nat} {k : IntKind} {v : Value} (h : KFits w (m + 2) (.slice [.int k]) v) : ∃ (a : Option Addr) (len cap : Nat) (f : Nat → Int), v = .slice a len cap ∧ len ≤ maxLen ∧ (∀ i, i < len → (Lit.int k (f i)).wf = true) ∧
    ∃ b, Reads w b a len ((List.range len).map fun i => Value.int k (f i)) := by
  obtain ⟨a, len, cap, rfl, ⟨rfl, rfl, rfl⟩ | ⟨x, rfl, hl, hm, hc⟩⟩ := h
  · exact ⟨none, 0, 0, fun _ => 0, rfl, by unfold maxLen; omega, fun i hi => by omega, 0, Reads.nil _ _⟩
  · have h1 : ∀ i, i < len → ∃ n : Int, w.cell? (x.add i) = some (.int k n) ∧ (Lit.int k n).wf = true := fun i hi => by
      obtain ⟨u, hu, n, rfl, hw⟩ := hc i (by omega) 0 _ rfl
      exact ⟨n, by simpa using hu, hw⟩
    obtain ⟨f, hf⟩ := choose_lt h1
    exact ⟨some x, len, cap, f, rfl, by omega, fun i hi => (hf i hi).2, reads_of _ fun i hi => ⟨x, rfl, (hf i hi).1⟩⟩
theorem flat5 (g : Nat → Nat → Int) : ∀ n : Nat, ((List.range n).map fun i => [g i 0, g i 1, g i 2, g i 3, g i 4]).flatten = (List.range (n * 5)).map fun k => g (k / 5) (k % 5)
  | 0 => by simp
  | n + 1 => by
    rw [List.range_succ, List.map_append, List.flatten_append, flat5 g n, Nat.succ_mul, List.range_add, List.map_append]
    congr 1
    have e0 : (n * 5 + 0) / 5 = n ∧ (n * 5 + 0) % 5 = 0 := by omega
    have e1 : (n * 5 + 1) / 5 = n ∧ (n * 5 + 1) % 5 = 1 := by omega
    have e2 : (n * 5 + 2) / 5 = n ∧ (n * 5 + 2) % 5 = 2 := by omega
    have e3 : (n * 5 + 3) / 5 = n ∧ (n * 5 + 3) % 5 = 3 := by omega
    have e4 : (n * 5 + 4) / 5 = n ∧ (n * 5 + 4) % 5 = 4 := by omega
    show [g n 0, g n 1, g n 2, g n 3, g n 4] = [g ((n * 5 + 0) / 5) ((n * 5 + 0) % 5), g ((n * 5 + 1) / 5) ((n * 5 + 1) % 5), g ((n * 5 + 2) / 5) ((n * 5 + 2) % 5), g ((n * 5 + 3) / 5) ((n * 5 + 3) % 5), g ((n * 5 + 4) / 5) ((n * 5 + 4) % 5)]
    rw [e0.1, e0.2, e1.1, e1.2, e2.1, e2.2, e3.1, e3.2, e4.1, e4.2]
theorem open_ins {w : World} {m : Nat} {v : Value} (h : KFits w (m + 2) (.slice [.int .i64, .int .i64, .int .i64, .int .i64, .int .i64]) v) : ∃ p : List (List Int), InsR w v p ∧ InsOk p := by
  obtain ⟨a, len, cap, rfl, ⟨rfl, rfl, rfl⟩ | ⟨x, rfl, hl, hm, hc⟩⟩ := h
  · exact ⟨[], ⟨none, 0, 0, rfl, by simpa using Reads.nil w 0⟩, fun i hi => by cases hi⟩
  · have h1 : ∀ i, i < len → ∃ r : Nat → Int, ∀ j, j < 5 → w.cell? (x.add (i * 5 + j)) = some (.int .i64 (r j)) ∧ (Lit.int .i64 (r j)).wf = true := fun i hi => by
      refine choose_lt (α := Int) (n := 5) (p := fun j y => w.cell? (x.add (i * 5 + j)) = some (.int .i64 y) ∧ (Lit.int .i64 y).wf = true) fun j hj => ?_
      have : ∀ k, [Kd.int .i64, .int .i64, .int .i64, .int .i64, .int .i64][j]? = some k → k = .int .i64 := fun k hk => by
        match j, hj with
        | 0, _ => exact (Option.some.inj hk).symm
        | 1, _ => exact (Option.some.inj hk).symm
        | 2, _ => exact (Option.some.inj hk).symm
        | 3, _ => exact (Option.some.inj hk).symm
        | 4, _ => exact (Option.some.inj hk).symm
      obtain ⟨u, hu, n, rfl, hw⟩ := hc i (by omega) j (.int .i64) (by
        match j, hj with
        | 0, _ => rfl
        | 1, _ => rfl
        | 2, _ => rfl
        | 3, _ => rfl
        | 4, _ => rfl)
      exact ⟨n, hu, hw⟩
    obtain ⟨g, hg⟩ := choose_lt h1
    refine ⟨(List.range len).map fun i => [g i 0, g i 1, g i 2, g i 3, g i 4], ?_, fun y hy => ?_⟩
    · have h2 := reads_of (w := w) (a := some x) (len := len * 5) (fun k => Value.int .i64 (g (k / 5) (k % 5))) fun k hk => ⟨x, rfl, by
        have h3 := (hg (k / 5) (by omega) (k % 5) (by omega)).1
        rwa [show k / 5 * 5 + k % 5 = k by omega] at h3⟩
      obtain ⟨b, h2⟩ := h2
      refine ⟨some x, cap, b, by simp, ?_⟩
      rw [flat5, List.length_map, List.length_range, List.map_map]
      exact h2
    · obtain ⟨i, hi, rfl⟩ := List.mem_map.1 hy
      have hi := List.mem_range.1 hi
      refine ⟨rfl, fun z hz => ?_⟩
      simp only [List.mem_cons, List.not_mem_nil, or_false] at hz
      rcases hz with rfl | rfl | rfl | rfl | rfl
      · exact wf_i64 (hg i hi 0 (by omega)).2
      · exact wf_i64 (hg i hi 1 (by omega)).2
      · exact wf_i64 (hg i hi 2 (by omega)).2
      · exact wf_i64 (hg i hi 3 (by omega)).2
      · exact wf_i64 (hg i hi 4 (by omega)).2
/-- The lengths of the inner slices, together. -/
def LensLe (w : World) (v : Value) (N : Nat) : Prop := ∀ (a : Option Addr) (len cap : Nat), v = .slice a len cap → ∃ L : Nat → Nat, (∀ i, i < len → ∃ x b c, a = some x ∧ w.cell? (x.add i) = some (.slice b (L i) c)) ∧ ((List.range len).map L).sum ≤ N
theorem open_progL {w : World} {m : Nat} {v : Value} (h : KFits w (m + 3) (.slice [.slice [.int .i64, .int .i64, .int .i64, .int .i64, .int .i64]]) v) {N : Nat} (hL : LensLe w v N) : ∃ (a : Option Addr) (len cap : Nat) (vs : List Value) (ps : List (List (List Int))), v = .slice a len cap ∧ len ≤ maxLen ∧ PrR w a len vs ps ∧ (∀ p ∈ ps, InsOk p) ∧ (ps.map List.length).sum ≤ N := by
  obtain ⟨a, len, cap, rfl, ⟨rfl, rfl, rfl⟩ | ⟨x, rfl, hl, hm, hc⟩⟩ := h
  · exact ⟨none, 0, 0, [], [], rfl, by unfold maxLen; omega, ⟨⟨0, Reads.nil _ _⟩, rfl, fun j v p h => by simp at h⟩, (fun p hp => by cases hp), Nat.zero_le _⟩
  · obtain ⟨L, hLc, hLs⟩ := hL _ _ _ rfl
    have h1 : ∀ i, i < len → ∃ up : Value × List (List Int), w.cell? (x.add i) = some up.1 ∧ InsR w up.1 up.2 ∧ InsOk up.2 := fun i hi => by
      obtain ⟨u, hu, hk⟩ := hc i (by omega) 0 _ rfl
      obtain ⟨p, h2, h3⟩ := open_ins hk
      exact ⟨(u, p), by simpa using hu, h2, h3⟩
    haveI : Inhabited (Value × List (List Int)) := ⟨(undef, [])⟩
    obtain ⟨f, hf⟩ := choose_lt h1
    refine ⟨some x, len, cap, (List.range len).map fun i => (f i).1, (List.range len).map fun i => (f i).2, rfl, by omega, ⟨reads_of _ fun i hi => ⟨x, rfl, (hf i hi).1⟩, by simp, fun j v p hv hp => ?_⟩, fun p hp => ?_, ?_⟩
    · have hj : j < len := by
        have := (List.getElem?_eq_some_iff.1 hv).1
        simpa using this
      simp [hj] at hv hp
      subst hv
      subst hp
      exact (hf j hj).2.1
    · obtain ⟨i, hi, rfl⟩ := List.mem_map.1 hp
      exact (hf i (List.mem_range.1 hi)).2.2
    · refine Nat.le_trans (Nat.le_of_eq ?_) hLs
      rw [List.map_map]
      congr 1
      refine List.map_congr_left fun i hi => ?_
      have hi := List.mem_range.1 hi
      obtain ⟨x', b, c, hx, hcell⟩ := hLc i hi
      obtain rfl := Option.some.inj hx
      have h5 := (hf i hi).1
      rw [hcell] at h5
      obtain ⟨A, c', b', h6, _⟩ := (hf i hi).2.1
      rw [← Option.some.inj h5] at h6
      injection h6 with _ h7 _
      exact h7.symm
theorem open_script (w : World) (x0 x1 x2 x3 x4 x5 x6 x7 x8 x9 x10 x11 : Int) (x12 : Bool) (v13 v14 v15 : Value) (w0 : (Lit.int .i64 x0).wf = true) (w1 : (Lit.int .i64 x1).wf = true) (w2 : (Lit.int .i64 x2).wf = true) (w3 : (Lit.int .i64 x3).wf = true) (w4 : (Lit.int .i64 x4).wf = true) (w5 : (Lit.int .i64 x5).wf = true)
    (w6 : (Lit.int .i64 x6).wf = true) (w7 : (Lit.int .i64 x7).wf = true) (w8 : (Lit.int .i64 x8).wf = true) (w9 : (Lit.int .i64 x9).wf = true) (w10 : (Lit.int .i64 x10).wf = true) (w11 : (Lit.int .i64 x11).wf = true)
    (k13 : KFits w 5 (.slice [.int .u64]) v13) (k14 : KFits w 5 (.slice [.slice [.int .i64, .int .i64, .int .i64, .int .i64, .int .i64]]) v14) (k15 : KFits w 5 (.slice [.int .i64]) v15) (hL : LensLe w v14 1048576) :
    ∃ (V : ScV) (s : Scr), Value.agg #[.int .i64 x0, .int .i64 x1, .int .i64 x2, .int .i64 x3, .int .i64 x4, .int .i64 x5, .int .i64 x6, .int .i64 x7, .int .i64 x8, .int .i64 x9, .int .i64 x10, .int .i64 x11, .bool x12, v13, v14, v15] = V.val s ∧ ScrR w V s ∧ s.ok ∧ (s.progs.map List.length).sum ≤ 1048576 ∧ V.i.n = s.init.length ∧ V.p.n = s.progs.length ∧ V.q.n = s.picks.length ∧ s.init.length ≤ maxLen ∧ s.progs.length ≤ maxLen ∧ s.picks.length ≤ maxLen := by
  obtain ⟨a1, l1, c1, f1, rfl, m1, u1, r1⟩ := open_nums (m := 3) k13
  obtain ⟨a2, l2, c2, vs, ps, rfl, m2, r2, o2, s2⟩ := open_progL (m := 2) k14 hL
  obtain ⟨a3, l3, c3, f3, rfl, m3, u3, r3⟩ := open_nums (m := 3) k15
  have e1 : (List.range l1).map (fun i => Value.int .u64 (f1 i)) = uv ((List.range l1).map fun i => (f1 i).toNat) := by
    unfold uv
    rw [List.map_map]
    refine List.map_congr_left fun i hi => ?_
    have := wf_u64 (u1 i (List.mem_range.1 hi))
    simp [Int.toNat_of_nonneg this.1]
  rw [e1] at r1
  have h5 : ∀ p ∈ ps, p.length ≤ 1048576 := fun p hp => Nat.le_trans (le_sum (List.mem_map.2 ⟨p, hp, rfl⟩)) s2
  have hl2 : ps.length = l2 := r2.2.1
  unfold maxLen at m1 m2 m3
  refine ⟨⟨⟨a1, l1, c1⟩, ⟨a2, l2, c2⟩, ⟨a3, l3, c3⟩, vs⟩, ⟨[x0, x1, x2, x3, x4, x5, x6, x7, x8, x9, x10, x11], x12, (List.range l1).map fun i => (f1 i).toNat, ps, (List.range l3).map f3⟩, by simp [ScV.val, ScV.cells, SlV.v], ⟨r1, r2, by rw [List.map_map]; exact r3⟩, ⟨⟨rfl, ?_⟩, ?_, fun p hp => ⟨?_, o2 p hp⟩, ?_, ?_⟩, s2, by simp, hl2.symm, by simp, by simp [maxLen]; omega, by show ps.length ≤ _; rw [hl2]; unfold maxLen; omega, by simp [maxLen]; omega⟩
  · intro x hx
    simp only [List.mem_cons, List.not_mem_nil, or_false] at hx
    rcases hx with rfl | rfl | rfl | rfl | rfl | rfl | rfl | rfl | rfl | rfl | rfl | rfl <;> exact wf_i64 (by assumption)
  · intro x hx
    obtain ⟨i, hi, rfl⟩ := List.mem_map.1 hx
    have := wf_u64 (u1 i (List.mem_range.1 hi))
    omega
  · have := h5 p hp; omega
  · intro x hx
    obtain ⟨i, hi, rfl⟩ := List.mem_map.1 hx
    exact wf_i64 (u3 i (List.mem_range.1 hi))
  · refine ⟨?_, ?_, ?_⟩
    · simp only [List.length_map, List.length_range]; omega
    · show ps.length < _; rw [hl2]; omega
    · simp only [List.length_map, List.length_range]; omega

/-! ## The bulk -/
theorem bulk_one {H : Type} (d : DataW H) : 1 ≤ Rows.uptoBulk d := by
  cases d with
  | lit l => cases l <;> simp [Rows.uptoBulk]
  | nil => simp [Rows.uptoBulk]
  | ptr d => simp [Rows.uptoBulk]
  | slice elems spare => simp [Rows.uptoBulk]
  | agg parts => simp [Rows.uptoBulk]
  | iface t d => simp [Rows.uptoBulk]
  | map entries => simp [Rows.uptoBulk]
  | held h => simp [Rows.uptoBulk]
theorem bulk_length {H : Type} : ∀ l : List (DataW H), l.length ≤ Rows.uptoBulkAll l
  | [] => Nat.zero_le _
  | x :: r => by
    have := bulk_one x
    have := bulk_length r
    simp only [Rows.uptoBulkAll, List.length_cons]; omega
theorem bulk_part {H : Type} {d : DataW H} : ∀ {l : List (DataW H)}, d ∈ l → Rows.uptoBulk d ≤ Rows.uptoBulkAll l
  | [], h => by cases h
  | x :: r, h => by
    simp only [Rows.uptoBulkAll]
    rcases List.mem_cons.1 h with rfl | h
    · omega
    · have := bulk_part h; omega
theorem bulk_sum {H : Type} {L : Nat → Nat} {D : Nat → DataW H} : ∀ l : List Nat, (∀ i ∈ l, L i ≤ Rows.uptoBulk (D i)) → (l.map L).sum ≤ Rows.uptoBulkAll (l.map D)
  | [], _ => Nat.zero_le _
  | x :: r, h => by
    have h1 := h x (by simp)
    have h2 := bulk_sum r fun i hi => h i (by simp [hi])
    simp only [List.map_cons, List.sum_cons, Rows.uptoBulkAll]; omega
theorem cells_progs : Try.prog.cellsOf 26 = 1 := by kernel_rfl
theorem cells_prog : Try.prog.cellsOf 54 = 1 := by kernel_rfl
theorem script_lens {H : Type} {enc : TypeId × Value → H} {w : World} {base : Nat} {held : Bool} {cs : Array Value} {d : DataW H} {pl : List MemPlace} (h : DataW.Trod enc Try.prog w base (fun _ => true) held 29 (.agg cs) d pl) (hsz : cs.size = 16) {v14 : Value} (h14 : cs[14]? = some v14) {N : Nat}
    (hN : Rows.uptoBulk d ≤ N) : LensLe w v14 N := by
  obtain ⟨fuel, hf⟩ := h
  have hf : DataW.trod enc Try.prog w base (fun _ => true) held fuel 29 cs.toList = some (d, pl) := by simpa [Value.cells] using hf
  obtain ⟨xs, n, _, hx, _, hlen, hfld⟩ := DataW.trod_struct Try.underlying29 hf
  have h2 := hfld 2 _ rfl
  have hl4 : xs.length = 4 := hlen
  obtain ⟨y, hy⟩ : ∃ y, xs[2]? = some y := ⟨_, List.getElem?_eq_getElem (by omega)⟩
  rw [hy] at h2
  have hcut : (cs.toList.drop 14).take 1 = [v14] := by
    obtain ⟨l⟩ := cs
    have h14 : l[14]? = some v14 := by simpa using h14
    show (l.drop 14).take 1 = [v14]
    cases hd : l.drop 14 with
    | nil =>
      have := congrArg List.length hd
      rw [List.length_drop, List.length_nil] at this
      have hsz : l.length = 16 := by simpa using hsz
      omega
    | cons z r =>
      have h3 : (l.drop 14)[0]? = some v14 := by rw [List.getElem?_drop]; exact h14
      rw [hd] at h3
      simp only [List.getElem?_cons_zero, Option.some.injEq] at h3
      rw [h3]; rfl
  have h2 : DataW.trod enc Try.prog w base (fun _ => true) held n 26 ((cs.toList.drop 14).take (Try.prog.cellsOf 26)) = some y := h2
  rw [cells_progs, hcut] at h2
  have hyd : Rows.uptoBulk y.1 ≤ N := by
    have hd : d = .agg (xs.map (·.1)) := congrArg Prod.fst hx
    rw [hd] at hN
    simp only [Rows.uptoBulk] at hN
    have := bulk_part (d := y.1) (l := xs.map (·.1)) (List.mem_map.2 ⟨y, List.mem_of_getElem? hy, rfl⟩)
    omega
  intro a len cap hv
  subst hv
  rcases open_slice Try.underlying26 h2 with ⟨hcs, _⟩ | ⟨a', len', cap', m, n', D, Pl, hcs, _, hl, _, hmm, rfl, hi⟩
  · injection hcs with hcs _
    injection hcs with _ h3 _
    subst h3
    exact ⟨fun _ => 0, fun i hi => by omega, Nat.zero_le _⟩
  · injection hcs with hcs _
    injection hcs with h3 h4 h5
    subst h3; subst h4; subst h5
    simp only [if_true] at hmm
    have h6 : ∀ i, i < len → ∃ k : Nat, (∃ b c, w.cell? (a'.add i) = some (.slice b k c)) ∧ k ≤ Rows.uptoBulk (D i) := fun i hlt => by
      obtain ⟨cs', hc, ht⟩ := hi i (by omega)
      rw [cells_prog, Nat.mul_one] at hc
      obtain ⟨_, _, hat⟩ := World.cells?_some hc
      have h7 := hat 0 (by omega)
      rw [add_add, Nat.add_zero] at h7
      rcases open_slice Try.underlying54 ht with ⟨rfl, hD⟩ | ⟨a2, l2, c2, _, _, D2, _, rfl, _, _, _, _, hD, _⟩
      · exact ⟨0, ⟨none, 0, h7⟩, Nat.zero_le _⟩
      · refine ⟨l2, ⟨some a2, c2, h7⟩, ?_⟩
        have hD' : D i = _ := congrArg Prod.fst hD
        rw [hD']
        have := bulk_length ((List.range l2).map D2)
        rw [List.length_map, List.length_range] at this
        simp only [Rows.uptoBulk]; omega
    obtain ⟨L, hL⟩ := choose_lt h6
    refine ⟨L, fun i hi => ?_, ?_⟩
    · obtain ⟨b, c, h8⟩ := (hL i hi).1
      exact ⟨a', b, c, rfl, h8⟩
    · have h8 := bulk_sum (L := L) (D := D) (List.range len) fun i hi => (hL i (List.mem_range.1 hi)).2
      simp only [Rows.uptoBulk] at hyd
      omega
end Go.Proofs.Ytipafegiobnkpaa
