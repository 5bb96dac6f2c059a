/- The contracts of package redo: Put. -/
import Derived.Test.YtponapjgajmdnaaRedo
import Derived.Test.YtponapjgajmdnaaReg2
namespace Go.Proofs.Ytponapjgajmdnaa
open Go.RowKit
set_option linter.unusedVariables false

/-- Two rows of different element types lie apart. -/
theorem row_row_ne {w : World} {b1 b2 e1 e2 s1 s2 n1 n2 : Nat} {v1 v2 : Value} {xs ys : List Value} (h : w.ownsRow b1 e1 s1 v1 n1 xs) (h' : w.ownsRow b2 e2 s2 v2 n2 ys) (hne : e1 ≠ e2) : ∀ k ∈ fpV v1, k ∉ fpV v2 := by
  intro k hk
  rcases h.2 with ⟨rfl, _⟩ | ⟨g, cap, cur, rfl, _, hh, _⟩
  · simp [fpV_nil] at hk
  · rw [fpV_some] at hk
    simp at hk
    subst hk
    exact row_blk_ne h' (cs := cur) (t := e1) hh (fun e => hne e.symm)

def PutPost (T : TypeId) (w : World) (fp : List Nat) (g : Nat) (L : PL) (a v : Int) (e : Ending) (w' : World) : Prop :=
  e = .returned (.bool (putOk L a)) ∧ ∃ fp', LogAt T w' fp' g (putL L a v) ∧ Chg fp w w' ∧ ∀ b ∈ fp', b ∈ fp ∨ w.heap.size ≤ b

theorem putL_neg {L : PL} {a v : Int} (h : a < 0) : putL L a v = L := if_pos h
theorem putL_in {L : PL} {a v : Int} (h0 : 0 ≤ a) (h : a ∈ L.addrs) : putL L a v = { L with vals := L.vals.set (L.addrs.idxOf a) v } := by unfold putL; rw [if_neg (by omega), if_pos h]
theorem putL_new {L : PL} {a v : Int} (h0 : 0 ≤ a) (h : a ∉ L.addrs) (hr : L.addrs.length < L.cap) :
    putL L a v = { L with addrs := L.addrs ++ [a], vals := L.vals ++ [v], idx := L.idx.set (negAt L.idx a) L.addrs.length } := by unfold putL; rw [if_neg (by omega), if_neg h, if_pos hr]
theorem putL_full {L : PL} {a v : Int} (h0 : 0 ≤ a) (h : a ∉ L.addrs) (hr : ¬ L.addrs.length < L.cap) : putL L a v = L := by unfold putL; rw [if_neg (by omega), if_neg h, if_neg hr]

/-- A value is set: the log in memory. -/
theorem log_set {T : TypeId} {w : World} {fp : List Nat} {g : Nat} {L : PL} {v : Int} {A V X : Option Addr} {c d e : Nat}
    (hb : Blk w g T #[.int .i64 L.cap, .slice A L.addrs.length c, .slice V L.addrs.length d, .slice X L.idx.length e]) (hT1 : T ≠ 3) (hT2 : T ≠ 50)
    (h1 : w.ownsRow 0 3 1 (.slice A L.addrs.length c) L.addrs.length (L.addrs.map (Value.int .i64)))
    (h2 : w.ownsRow 0 50 1 (.slice V L.addrs.length d) L.addrs.length (L.vals.map (Value.int .u64)))
    (h3 : w.ownsRow 0 3 1 (.slice X L.idx.length e) L.idx.length (L.idx.map (Value.int .i64)))
    (h4 : ∀ k ∈ fpV (.slice A L.addrs.length c), k ∉ fpV (.slice X L.idx.length e))
    (hfp : fp = g :: (fpV (.slice A L.addrs.length c) ++ (fpV (.slice V L.addrs.length d) ++ fpV (.slice X L.idx.length e))))
    {i gv : Nat} (hV : V = some ⟨gv, 0, none⟩) (hst : (w.setCell ⟨gv, i, none⟩ (.int .u64 v)).ownsRow 0 50 1 (.slice V L.addrs.length d) L.addrs.length ((L.vals.map (Value.int .u64)).set i (.int .u64 v))) :
    LogAt T (w.setCell ⟨gv, i, none⟩ (.int .u64 v)) fp g { L with vals := L.vals.set i v } ∧ Chg fp w (w.setCell ⟨gv, i, none⟩ (.int .u64 v)) := by
  have hm : gv ∈ fpV (.slice V L.addrs.length d) := by subst hV; rw [fpV_some]; simp
  have hc : Chg [gv] w (w.setCell ⟨gv, i, none⟩ (.int .u64 v)) := (Chg.refl _ _).setCell (.inl (by simp)) _
  have n1 : ∀ k ∈ fpV (.slice A L.addrs.length c), k ∉ [gv] := fun k hk hk2 => row_row_ne h1 h2 (by decide) k hk (by rw [List.mem_singleton.1 hk2]; exact hm)
  have n3 : ∀ k ∈ fpV (.slice X L.idx.length e), k ∉ [gv] := fun k hk hk2 => row_row_ne h3 h2 (by decide) k hk (by rw [List.mem_singleton.1 hk2]; exact hm)
  have ng : g ∉ [gv] := fun hk => row_blk_ne h2 hb (fun e => hT2 e.symm) (by rw [List.mem_singleton.1 hk]; exact hm)
  refine ⟨⟨A, c, V, d, X, e, hb.chg hc ng, row_chg h1 hc n1, ?_, row_chg h3 hc n3, h4, hfp⟩, (hc.mono fun x hx => .inl ?_)⟩
  · rw [← List.map_set] at hst; exact hst
  · rw [List.mem_singleton.1 hx, hfp]; simp [hm]

/-- The last stores of a new entry. U: the world ahead of the appends (the index is set there). -/
theorem log_new {T : TypeId} {w U W3 W4' W4 : World} {fp : List Nat} {g : Nat} {L : PL} {a v : Int} {A V X A' V' : Option Addr} {c d e c' d' : Nat} {ixs : List Int}
    (hb : Blk U g T #[.int .i64 L.cap, .slice A L.addrs.length c, .slice V L.addrs.length d, .slice X L.idx.length e]) (hT1 : T ≠ 3) (hT2 : T ≠ 50)
    (h1 : U.ownsRow 0 3 1 (.slice A L.addrs.length c) L.addrs.length (L.addrs.map (Value.int .i64)))
    (h2 : U.ownsRow 0 50 1 (.slice V L.addrs.length d) L.addrs.length (L.vals.map (Value.int .u64)))
    (h3 : U.ownsRow 0 3 1 (.slice X L.idx.length e) L.idx.length (ixs.map (Value.int .i64)))
    (h4 : ∀ k ∈ fpV (.slice A L.addrs.length c), k ∉ fpV (.slice X L.idx.length e))
    (hfp : fp = g :: (fpV (.slice A L.addrs.length c) ++ (fpV (.slice V L.addrs.length d) ++ fpV (.slice X L.idx.length e))))
    (hlen : ixs.length = L.idx.length) (hwU : Chg fp w U)
    (k3 : Chg (fpV (.slice A L.addrs.length c)) U W3) (o3 : W3.ownsRow 0 3 1 (.slice A' (L.addrs.length + 1) c') (L.addrs.length + 1) (L.addrs.map (Value.int .i64) ++ [.int .i64 a])) (f3 : ∀ k ∈ fpV (.slice A' (L.addrs.length + 1) c'), k ∈ fpV (.slice A L.addrs.length c) ∨ U.heap.size ≤ k)
    (k4' : Chg [] W3 W4')
    (k4 : Chg (fpV (.slice V L.addrs.length d)) W4' W4) (o4 : W4.ownsRow 0 50 1 (.slice V' (L.addrs.length + 1) d') (L.addrs.length + 1) (L.vals.map (Value.int .u64) ++ [.int .u64 v])) (f4 : ∀ k ∈ fpV (.slice V' (L.addrs.length + 1) d'), k ∈ fpV (.slice V L.addrs.length d) ∨ W4'.heap.size ≤ k) :
    W4.cell? ⟨g, 1, none⟩ = some (.slice A L.addrs.length c) ∧ W4.frozen? ⟨g, 1, none⟩ = false ∧
    (W4.setCell ⟨g, 1, none⟩ (.slice A' (L.addrs.length + 1) c')).cell? ⟨g, 2, none⟩ = some (.slice V L.addrs.length d) ∧ (W4.setCell ⟨g, 1, none⟩ (.slice A' (L.addrs.length + 1) c')).frozen? ⟨g, 2, none⟩ = false ∧
    ∃ fp', LogAt T ((W4.setCell ⟨g, 1, none⟩ (.slice A' (L.addrs.length + 1) c')).setCell ⟨g, 2, none⟩ (.slice V' (L.addrs.length + 1) d')) fp' g { L with addrs := L.addrs ++ [a], vals := L.vals ++ [v], idx := ixs } ∧
      Chg fp w ((W4.setCell ⟨g, 1, none⟩ (.slice A' (L.addrs.length + 1) c')).setCell ⟨g, 2, none⟩ (.slice V' (L.addrs.length + 1) d')) ∧ ∀ b ∈ fp', b ∈ fp ∨ w.heap.size ≤ b := by
  have sA := row_lt h1
  have sV := row_lt h2
  have sX := row_lt h3
  have sg := hb.lt
  have z3 := k3.size
  have z4' := k4'.size
  have z4 := k4.size
  have zU := hwU.size
  have gA : g ∉ fpV (.slice A L.addrs.length c) := row_blk_ne h1 hb (fun e => hT1 e.symm)
  have gV : g ∉ fpV (.slice V L.addrs.length d) := row_blk_ne h2 hb (fun e => hT2 e.symm)
  have gX : g ∉ fpV (.slice X L.idx.length e) := row_blk_ne h3 hb (fun e => hT1 e.symm)
  have gA' : g ∉ fpV (.slice A' (L.addrs.length + 1) c') := fun h => by rcases f3 g h with h | h; exact gA h; omega
  have gV' : g ∉ fpV (.slice V' (L.addrs.length + 1) d') := fun h => by rcases f4 g h with h | h; exact gV h; omega
  have b4 : Blk W4 g T #[.int .i64 L.cap, .slice A L.addrs.length c, .slice V L.addrs.length d, .slice X L.idx.length e] := ((hb.chg k3 gA).chg k4' (by simp)).chg k4 gV
  have r1 : W4.ownsRow 0 3 1 (.slice A' (L.addrs.length + 1) c') (L.addrs.length + 1) (L.addrs.map (Value.int .i64) ++ [.int .i64 a]) := row_chg (row_chg o3 k4' (fun _ _ => by simp)) k4 (fun k hk hk2 => by
    rcases f3 k hk with h | h
    · exact row_row_ne h1 h2 (by decide) k h hk2
    · have := sV k hk2; omega)
  have r3 : W4.ownsRow 0 3 1 (.slice X L.idx.length e) L.idx.length (ixs.map (Value.int .i64)) := row_chg (row_chg (row_chg h3 k3 (fun k hk hk2 => h4 k hk2 hk)) k4' (fun _ _ => by simp)) k4 (fun k hk hk2 => row_row_ne h3 h2 (by decide) k hk hk2)
  have hS : Chg [g] W4 ((W4.setCell ⟨g, 1, none⟩ (.slice A' (L.addrs.length + 1) c')).setCell ⟨g, 2, none⟩ (.slice V' (L.addrs.length + 1) d')) := ((Chg.refl _ _).setCell (.inl (by simp)) _).setCell (.inl (by simp)) _
  have b5 := b4.set_ 1 (.slice A' (L.addrs.length + 1) c')
  have b6 := b5.set_ 2 (.slice V' (L.addrs.length + 1) d')
  have hg1 : ∀ k, k ≠ g → k ∉ [g] := fun k hk h => hk (List.mem_singleton.1 h)
  refine ⟨b4.some_ rfl, b4.frozen 1, b5.some_ rfl, b5.frozen 2, g :: (fpV (.slice A' (L.addrs.length + 1) c') ++ (fpV (.slice V' (L.addrs.length + 1) d') ++ fpV (.slice X L.idx.length e))), ⟨A', c', V', d', X, e, ?_, ?_, ?_, ?_, ?_, ?_⟩, ?_, ?_⟩
  · simpa [hlen] using b6
  · simpa using row_chg r1 hS (fun k hk => hg1 k (fun h => gA' (h ▸ hk)))
  · simpa using row_chg o4 hS (fun k hk => hg1 k (fun h => gV' (h ▸ hk)))
  · simpa [hlen] using row_chg r3 hS (fun k hk => hg1 k (fun h => gX (h ▸ hk)))
  · intro k hk hk2
    simp only [List.length_append, List.length_cons, List.length_nil, hlen] at hk hk2
    rcases f3 k hk with h | h
    · exact h4 k h hk2
    · have := sX k hk2; omega
  · simp [hlen]
  · refine hwU.trans ((((k3.trans k4' (by simp)).mono (T := fp) (fun x hx => .inl (by rw [hfp]; simp [hx]))).trans k4 (fun x hx => .inl (by rw [hfp]; simp [hx]))).trans hS (fun x hx => .inl (by rw [List.mem_singleton.1 hx, hfp]; simp))) (fun x hx => .inl hx)
  · intro b hb'
    rw [hfp]
    rcases List.mem_cons.1 hb' with rfl | h
    · simp
    · rcases List.mem_append.1 h with h | h
      · rcases f3 b h with h | h
        · simp [h]
        · right; omega
      · rcases List.mem_append.1 h with h | h
        · rcases f4 b h with h | h
          · simp [h]
          · right; omega
        · simp [h]
end Go.Proofs.Ytponapjgajmdnaa
