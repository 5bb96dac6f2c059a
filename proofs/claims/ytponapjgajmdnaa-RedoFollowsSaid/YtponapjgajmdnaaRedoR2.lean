/- The contracts of the reference's log: Put, Clear, NewLog; in the form of Hold. -/
import Derived.Test.YtponapjgajmdnaaRedoR
import Derived.Deep.RegionWith
namespace Go.Proofs.Ytponapjgajmdnaa
open Go.RowKit
set_option linter.unusedVariables false

def logA (T : TypeId) (g : Nat) (L : PL) : Asr := ⟨fun w fp => LogAt T w fp g L, fun h hc hS => h.chg hc hS, fun h => h.lt⟩

section
variable {T : TypeId} {g : Nat} {L : PL} {w0 w w' : World} {R : Asr}
/-- The log's four blocks. -/
abbrev logP (T : TypeId) (g cap n p : Nat) (us vs is : List Int) (A : Option Addr) (c : Nat) (V : Option Addr) (d : Nat) (X : Option Addr) (e : Nat) (R : Asr) : Asr :=
  blkA T g #[.int .i64 cap, .slice A n c, .slice V n d, .slice X p e] * (rowA 3 (.slice A n c) n (us.map (Value.int .i64)) *
    (rowA 50 (.slice V n d) n (vs.map (Value.int .u64)) * (rowA 3 (.slice X p e) p (is.map (Value.int .i64)) * R)))
theorem Hold.logOpen (h : Hold w0 w (logA T g L * R)) (hT1 : T ≠ 3) (hT2 : T ≠ 50) : ∃ A c V d X e, Hold w0 w (logP T g L.cap L.addrs.length L.idx.length L.addrs L.vals L.idx A c V d X e R) := by
  obtain ⟨fp, ⟨f, gg, rfl, ⟨A, c, V, d, X, e, hb, h1, h2, h3, h4, rfl⟩, hR, hd⟩, ho⟩ := h.ex
  have gA := row_blk_ne h1 hb (fun e => hT1 e.symm)
  have gV := row_blk_ne h2 hb (fun e => hT2 e.symm)
  have gX := row_blk_ne h3 hb (fun e => hT1 e.symm)
  refine ⟨A, c, V, d, X, e, ⟨_, ⟨[g], _, rfl, ⟨hb, rfl⟩, ⟨_, _, rfl, ⟨h1, rfl⟩, ⟨_, _, rfl, ⟨h2, rfl⟩, ⟨_, gg, rfl, ⟨h3, rfl⟩, hR, ?_⟩, ?_⟩, ?_⟩, ?_⟩, ?_⟩, h.below⟩
  · intro b hb; exact hd b (by simp [hb])
  · intro b hb hb2
    rcases List.mem_append.1 hb2 with h | h
    · exact row_row_ne h2 h3 (by decide) b hb h
    · exact hd b (by simp [hb]) h
  · intro b hb hb2
    rcases List.mem_append.1 hb2 with h | h
    · exact row_row_ne h1 h2 (by decide) b hb h
    · rcases List.mem_append.1 h with h | h
      · exact h4 b hb h
      · exact hd b (by simp [hb]) h
  · intro b hb hb2
    rw [List.mem_singleton.1 hb] at hb2
    rcases List.mem_append.1 hb2 with h | h
    · exact gA h
    · rcases List.mem_append.1 h with h | h
      · exact gV h
      · rcases List.mem_append.1 h with h | h
        · exact gX h
        · exact hd g (by simp) h
  · intro b hb
    exact ho b (by simpa using hb)
theorem Hold.logClose {A V X : Option Addr} {c d e n p : Nat} (h : Hold w0 w (logP T g L.cap n p L.addrs L.vals L.idx A c V d X e R)) (hn : L.addrs.length = n) (hp : L.idx.length = p) : Hold w0 w (logA T g L * R) := by
  subst hn; subst hp
  obtain ⟨fp, ⟨f1, g1, rfl, ⟨hb, rfl⟩, ⟨f2, g2, rfl, ⟨h1, rfl⟩, ⟨f3, g3, rfl, ⟨h2, rfl⟩, ⟨f4, g4, rfl, ⟨h3, rfl⟩, hR, hd4⟩, hd3⟩, hd2⟩, hd1⟩, ho⟩ := h.ex
  refine ⟨⟨_, ⟨_, g4, rfl, ⟨A, c, V, d, X, e, hb, h1, h2, h3, fun b hb hb2 => hd2 b hb (by simp [hb2]), rfl⟩, hR, ?_⟩, fun b hb => ho b (by simpa using hb)⟩, h.below⟩
  intro b hb hb2
  rcases List.mem_cons.1 hb with rfl | h
  · exact hd1 b (by simp) (by simp [hb2])
  · rcases List.mem_append.1 h with h | h
    · exact hd2 b h (by simp [hb2])
    · rcases List.mem_append.1 h with h | h
      · exact hd3 b h (by simp [hb2])
      · exact hd4 b h hb2
end

/-! ## Clear, NewLog -/
/-- The next power of 2 on the way to the size of the index. -/
def Pow (p : Nat) : Prop := p = 1 ∨ p = 2 ∨ p = 4 ∨ p = 8 ∨ p = 16 ∨ p = 32 ∨ p = 64

set_option maxHeartbeats 1000000 in
theorem rlog_clear (w0 w : World) (R : Asr) (g cap n0 p0 : Nat) (us vs is : List Int) (A V X : Option Addr) (c d e : Nat) (hcap : cap ≤ 32)
    (h : Hold w0 w (logP 63 g cap n0 p0 us vs is A c V d X e R)) :
    Calls Try.prog 51 #[.pointer (some ⟨g, 0, none⟩)] w fun e w' => e = .returned (.tuple #[]) ∧ Hold w0 w' (logA 63 g (emptyL cap (psize cap)) * R) := by
  obtain ⟨i0, hi, hz0, hz1, hz2⟩ := info_parts info_int
  have h1 := h.imp (Imp.under _ (((Imp.drop _ _).trans (Imp.drop _ _)).trans (Imp.drop _ _)))
  have hb := h1.blk
  have c0 : w.cell? ⟨g, 0, none⟩ = some (.int .i64 cap) := hb.some_ rfl
  have c1 : w.cell? ⟨g, 1, none⟩ = some (.slice A n0 c) := hb.some_ rfl
  have z1 := hb.frozen 1
  have h2 := h1.setBlk 1 (.slice none 0 0)
  have c2 : (w.setCell ⟨g, 1, none⟩ (.slice none 0 0)).cell? ⟨g, 2, none⟩ = some (.slice V n0 d) := h2.blk.some_ rfl
  have z2 := h2.blk.frozen 2
  have h3 := h2.setBlk 2 (.slice none 0 0)
  have c3 : ((w.setCell ⟨g, 1, none⟩ (.slice none 0 0)).setCell ⟨g, 2, none⟩ (.slice none 0 0)).cell? ⟨g, 3, none⟩ = some (.slice X p0 e) := h3.blk.some_ rfl
  have z3 := h3.blk.frozen 3
  have h4 := h3.setBlk 3 (.slice none 0 0)
  have h5 := (h4.nilRow 3)
  clear h h1 h2 h3 h4 hb
  go_enter Try.func51, Try.ntmps51
  go_wp2_with fail
  go_loop [2] (fun v => ∃ p : Nat, v = .int .i64 p ∧ Pow p ∧ (p = 1 ∨ p < 4 * cap)) (fun v => 64 - (intOf v).toNat)
  case atStart => exact ⟨1, rfl, by unfold Pow; omega, by omega⟩
  case round =>
    obtain ⟨p, rfl, hp, hp4⟩ := hrel
    have p64 : p ≤ 64 := by unfold Pow at hp; omega
    have p0 : 0 < p := by unfold Pow at hp; omega
    by_cases hlt : p < 2 * cap
    · have e1 : decide ((p : Int) < 2 * ((cap : Nat) : Int)) = true := decide_eq_true (by omega)
      clear c1 c2 c3 z1 z2 z3 h5
      go_wp2_with fail
      go_round
      case rel => exact ⟨2 * p, by simp, by unfold Pow at hp ⊢; omega, by omega⟩
      case measure => simp [intOf]; omega
    · have e1 : decide ((p : Int) < 2 * ((cap : Nat) : Int)) = false := decide_eq_false (by omega)
      have hps := hid (psize_at hcap hp hp4 hlt)
      clear hp hp4
      go_wp2_with fail
      clear e1 c0 c1 c2 c3 z1 z2 z3
      go_loopw [3] (fun i wr => ∃ (k : Nat) (X : Option Addr) (e : Nat), k ≤ p ∧ i = .int .i64 k ∧ Hold w0 wr (rowA 3 (.slice X k e) k ((List.replicate k (-1)).map (Value.int .i64)) * (blkA 63 g #[.int .i64 cap, .slice none 0 0, .slice none 0 0, .slice X k e] * R))) (fun i _ => p - (intOf i).toNat)
      case atStart => exact ⟨0, none, 0, Nat.zero_le _, rfl, by simpa using h5⟩
      case round =>
        obtain ⟨k, X', e', hk, rfl, h6⟩ := hrel
        clear h5
        by_cases hkp : k < p
        · have e1 : decide ((k : Int) < (p : Int)) = true := decide_eq_true (by omega)
          have d3 : wr.cell? ⟨g, 3, none⟩ = some (.slice X' k e') := h6.swap.blk.some_ rfl
          go_wp2_with (at_builtin; refine wpList_append1 rfl _ _ 22 rfl 3 i0 (.int .i64 0) 8 Try.underlying22 hi hz0 hz1 hz2 rfl (.slice X' k e') k ((List.replicate k (-1)).map (Value.int .i64)) (.int .i64 (-1)) _ rfl h6.row rfl rfl (by omega) (by decide) ?_)
          intro X2 e2 w2 ho hc hs
          have h7 := h6.grow ho hc hs
          have d3' : w2.cell? ⟨g, 3, none⟩ = some (.slice X' k e') := h7.swap.blk.some_ rfl
          have z3 : w2.frozen? ⟨g, 3, none⟩ = false := h7.swap.blk.frozen 3
          have h8 := (h7.swap.setBlk 3 (.slice X2 (k + 1) e2)).swap
          have H8 := hid h8
          clear h6 h7 h8 ho hc hs
          go_wp2_with fail
          go_roundw
          case rel => exact ⟨k + 1, X2, e2, by omega, rfl, by simpa [List.replicate_succ'] using H8.out⟩
          case measure => simp [intOf]; omega
        · obtain rfl : k = p := by omega
          have e1 : decide ((k : Int) < (k : Int)) = false := by simp
          have h7 : Hold w0 wr (logA 63 g (emptyL cap (psize cap)) * R) := by
            rw [← hps.out]
            have h9 := (h6.swap.imp (Imp.under _ (Imp.refl _)))
            have h10 := ((h6.nilRow 50).nilRow 3).fourth
            have h11 : Hold w0 wr (logP 63 g cap 0 k [] [] (List.replicate k (-1)) none 0 none 0 X' e' R) := h10
            exact h11.logClose (L := emptyL cap k) rfl (by simp [emptyL])
          have H7 := hid h7
          clear h6 h7
          go_wp2_with fail
          go_end0
          exact ⟨rfl, H7.out⟩

theorem rclamp_any (w : World) (c : Int) : Calls Try.prog 47 #[.int .i64 c, .int .i64 32] w fun e w' => e = .returned (.int .i64 (clampM c)) ∧ w = w' := by
  by_cases h1 : 32 < c
  · have hm : ((clampM c : Nat) : Int) = 32 := by unfold clampM; omega
    rw [hm]
    clear hm
    go_enter Try.func47, Try.ntmps47
    go_wp2_with fail
    go_ret
    exact ⟨rfl, rfl⟩
  · by_cases h2 : 0 < c
    · have hm : ((clampM c : Nat) : Int) = c := by unfold clampM; omega
      rw [hm]
      clear hm
      go_enter Try.func47, Try.ntmps47
      go_wp2_with fail
      go_ret
      exact ⟨rfl, rfl⟩
    · have hm : ((clampM c : Nat) : Int) = 0 := by unfold clampM; omega
      rw [hm]
      clear hm
      go_enter Try.func47, Try.ntmps47
      go_wp2_with fail
      go_ret
      exact ⟨rfl, rfl⟩

theorem rlog_new (w0 w : World) (R : Asr) (c : Int) (h : Hold w0 w R) :
    Calls Try.prog 41 #[.int .i64 c] w fun e w' => ∃ g, e = .returned (.pointer (some ⟨g, 0, none⟩)) ∧ Hold w0 w' (logA 63 g (newL c) * R) := by
  go_enter Try.func41, Try.ntmps41
  go_wp2_with fail
  refine (rclamp_any _ _).mono ?_
  rintro e w1 ⟨rfl, rfl⟩
  go_wp2_with fail
  have h1 := (((h.newBlk (t := 63) (cs := #[.int .i64 (clampM c), .slice none 0 0, .slice none 0 0, .slice none 0 0])).nilRow 3).nilRow 50).nilRow 3
  have h2 : Hold w0 _ (logP 63 w.heap.size (clampM c) 0 0 [] [] [] none 0 none 0 none 0 R) := h1.fourth
  refine (rlog_clear w0 _ R w.heap.size (clampM c) 0 0 [] [] [] none none none 0 0 0 (clampM_le c) h2).mono ?_
  rintro e w2 ⟨rfl, h3⟩
  go_wp2_with fail
  go_ret
  exact ⟨_, rfl, h3⟩
end Go.Proofs.Ytponapjgajmdnaa
