/- The reference's Class. -/
import Derived.Test.YtopcnaakdldkpaaLists
import Derived.Deep.LoopGhost
namespace Go.Proofs.Ytopcnaakdldkpaa
open Go.RowKit
set_option linter.unusedVariables false

theorem cnt_cell {w : World} {g : Nat} {t : TypeId} {c : Cfg} (h : Blk w g t c.cells) (hc : CfgOk c) {k : Nat} (hk : k < 4) : w.cell? ⟨g, 3 + k, none⟩ = some (.int .i64 (cnt c k : Nat)) := by
  have k0 := hc.k0; have k1 := hc.k1; have k2 := hc.k2; have k3 := hc.k3
  obtain h' | h' | h' | h' : k = 0 ∨ k = 1 ∨ k = 2 ∨ k = 3 := by omega
  all_goals subst h'
  · rw [show ((cnt c 0 : Nat) : Int) = c.c0 by simp only [cnt]; omega]; exact h.some_ rfl
  · rw [show ((cnt c 1 : Nat) : Int) = c.c1 by simp only [cnt]; omega]; exact h.some_ rfl
  · rw [show ((cnt c 2 : Nat) : Int) = c.c2 by simp only [cnt]; omega]; exact h.some_ rfl
  · rw [show ((cnt c 3 : Nat) : Int) = c.c3 by simp only [cnt]; omega]; exact h.some_ rfl

set_option maxHeartbeats 1000000 in
theorem rclass_any (w : World) (c : Cfg) (b : Nat) (h : cfgErr c = 0) (hb : b < nbl c) : Calls Try.prog 28 #[c.val, .int .i64 b] w fun e w' => e = .returned (.int .i64 (cls c b : Nat)) ∧ Chg [] w w' := by
  have hc := cfgOk_of h
  have hn64 := nbl_le hc
  obtain ⟨n, hn⟩ : ∃ n, n = nbl c := ⟨_, rfl⟩
  rw [← hn] at hb hn64
  have HC := hid hc
  have HE := hid h
  have Hn := hid hn
  have e1 : decide ((b : Int) < 0) = false := by simp
  have e2 : decide ((n : Int) ≤ (b : Int)) = false := by simp; omega
  clear h hc hn
  go_enter Try.func28, Try.ntmps28
  go_wp2_with fail
  refine (rblocks_any _ c HE.out).mono ?_
  rintro e w1 ⟨rfl, hc1⟩
  rw [← Hn.out]
  have hB := hid ((Blk.new w 32 c.cells).chg hc1 (by simp))
  have HC1 := hid (((Chg.refl [] w).alloc _).trans hc1 (by simp))
  generalize w.heap.size = gc at hB ⊢
  clear hc1
  go_wp2_with fail
  clear e1 e2
  go_loop [1, 5] (fun v i => ∃ k : Nat, k < 4 ∧ psum c k ≤ b ∧ v = .int .i64 ((b : Int) - (psum c k : Nat)) ∧ i = .int .i64 k) (fun _ i => 4 - (intOf i).toNat)
  case atStart => exact ⟨0, by omega, Nat.zero_le _, by simp [psum], rfl⟩
  case round =>
    obtain ⟨k, hk, hps, rfl, rfl⟩ := hrel
    have hcell := cnt_cell hB.out HC.out hk
    have hps1 : psum c (k + 1) = psum c k + cnt c k := rfl
    have hcn : cnt c k ≤ n := by have := psum_le c (show k + 1 ≤ 4 by omega); rw [Hn.out]; unfold nbl; omega
    obtain ⟨m, hm⟩ : ∃ m, m = cnt c k := ⟨_, rfl⟩
    obtain ⟨f, hf⟩ : ∃ f, f = psum c k := ⟨_, rfl⟩
    rw [← hm] at hcell hps1 hcn
    rw [← hf] at hps hps1 ⊢
    have Hps1 := hid hps1
    have Hf := hid hf
    have b0 : (0 : Int) ≤ (k : Int) := by omega
    have b1 : (k : Int) < 4 := by omega
    clear hps1 hm hf
    by_cases hlt : f + m ≤ b
    · have e3 : decide ((m : Int) ≤ (b : Int) - (f : Int)) = true := decide_eq_true (by omega)
      have hk3 : k + 1 < 4 := by
        rcases Nat.lt_or_ge (k + 1) 4 with h' | h'
        · exact h'
        · obtain rfl : k = 3 := by omega
          have := Hps1.out
          change psum c 4 = f + m at this
          have hn' := Hn.out
          unfold nbl at hn'
          omega
      have hpf : (b : Int) - (f : Int) - (m : Int) = (b : Int) - ((psum c (k + 1) : Nat) : Int) := by rw [Hps1.out]; omega
      have Hpf := hid hpf
      clear hpf
      go_wp2_with fail
      go_round
      case rel => exact ⟨k + 1, hk3, by rw [Hps1.out]; omega, by rw [Hpf.out], by go_num⟩
      case measure => simp [intOf]; omega
    · have e3 : decide ((m : Int) ≤ (b : Int) - (f : Int)) = false := decide_eq_false (by omega)
      have hcl : cls c b = k := cls_of hk (by rw [← Hf.out]; omega) (by rw [Hps1.out]; omega)
      have Hcl := hid hcl
      clear hcl
      go_wp2_with fail
      go_ret
      exact ⟨int_eq2 (by rw [Hcl.out]), HC1.out⟩
end Go.Proofs.Ytopcnaakdldkpaa
