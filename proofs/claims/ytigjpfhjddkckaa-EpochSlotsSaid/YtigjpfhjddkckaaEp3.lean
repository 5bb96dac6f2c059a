/- strongtxlaw09: EpochSlots, EpochIdle. -/
import Derived.Test.YtigjpfhjddkckaaEp2
namespace Go.Proofs.Ytigjpfhjddkckaa
open Go.RowKit
set_option linter.unusedVariables false

/-- The slots behind i steps of a thread that enters. -/
def slt (t : Nat) (ck : Int) (i k : Nat) : Int := if k = t then (if i = 0 then 0 else if i ≤ 2 then 1 else ck + 2) else 0
def cE (ck : Int) (i : Nat) : Int := if i ≤ 1 then 0 else ck
theorem en_step_any (w0 w : World) (R : Asr) (g m t : Nat) (C : Nat → List Int) (ck : Int) (i : Nat) (h : Hold w0 w (enA g t i (cE ck i) * (memA m C * R))) (hs : SL C ck (slt t ck i)) (ht : t < 4) (hi : i < 3) (hk : 0 ≤ ck ∧ ck ≤ 1099511627776) :
    Calls Try.prog 49 #[.pointer (some ⟨g, 0, none⟩), .pointer (some ⟨m, 0, none⟩)] w (fun e w' => ∃ (ac : Acc) (C' : Nat → List Int), e = .returned ac.val ∧ Hold w0 w' (enA g t (i + 1 : Nat) (cE ck (i + 1)) * (memA m C' * R)) ∧ SL C' ck (slt t ck (i + 1))) := by
  rcases (show i = 0 ∨ i = 1 ∨ i = 2 by omega) with rfl | rfl | rfl
  · refine (en_step0 w0 w R g m C t 0 _ h hs.ok (by omega) (hs.st6 ht 1)).mono fun e w' ⟨he, h'⟩ => ⟨_, _, he, h', ?_⟩
    refine (hs.slot ht 1).eq fun k hk => ?_
    unfold slt
    by_cases hkt : k = t <;> simp [hkt]
  · refine (en_step1 w0 w R g m C t 0 _ h hs.ok hs.op3).mono fun e w' ⟨he, h'⟩ => ⟨_, _, he, h', ?_⟩
    exact hs.eq fun k hk => by unfold slt; by_cases hkt : k = t <;> simp [hkt]
  · refine (en_step2 w0 w R g m C t ck _ h hs.ok hk (by omega) (hs.st6 ht (ck + 2))).mono fun e w' ⟨he, h'⟩ => ⟨_, _, he, h', ?_⟩
    refine (hs.slot ht (ck + 2)).eq fun k hk => ?_
    unfold slt
    by_cases hkt : k = t <;> simp [hkt]
end Go.Proofs.Ytigjpfhjddkckaa
