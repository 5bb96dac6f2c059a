/- FreelistLists, with the opening of its arguments. -/
import Derived.Test.YtigjpfhjddkckaaFll
import Derived.Test.YtigjpfhjddkckaaArg5
namespace Go.Proofs.Ytigjpfhjddkckaa
open Go.RowKit
set_option linter.unusedVariables false
theorem freelistLists_walk (a0 a1 a2 : Int) (x3_0 x3_1 : Value) (x3_2 x3_3 x3_4 : Int) (x3_5 x3_6 x3_7 : Value) (a4 : Int) (w : World) (_ : (Lit.int .i64 a0).wf = true) (_ : (Lit.int .i64 a1).wf = true) (w2 : (Lit.int .u64 a2).wf = true)
    (w3_0 : KFits w 5 (.slice [.int .u64]) x3_0) (w3_1 : KFits w 5 (.slice [.int .u64]) x3_1) (_ : (Lit.int .u64 x3_2).wf = true) (_ : (Lit.int .u64 x3_3).wf = true) (_ : (Lit.int .u64 x3_4).wf = true) (w3_5 : KFits w 5 (.slice [.int .u64]) x3_5) (w3_6 : KFits w 5 (.slice [.int .u64]) x3_6) (w3_7 : KFits w 5 (.slice [.int .u64]) x3_7) (_ : (Lit.int .i64 a4).wf = true) :
    Calls Try.prog 4 #[.int .i64 a0, .int .i64 a1, .int .u64 a2, .agg #[x3_0, x3_1, .int .u64 x3_2, .int .u64 x3_3, .int .u64 x3_4, x3_5, x3_6, x3_7], .int .i64 a4] w fun e w' => e = .returned (.bool true) ∧ Below w.heap.size w w' := by
  obtain ⟨A7, n7, c7, b7, hs, rfl, k7, h7, m7, u7⟩ := kfits_row w3_6
  obtain ⟨A8, n8, c8, b8, ns, rfl, k8, h8, m8, u8⟩ := kfits_row w3_7
  exact freelistLists_any a0 a1 a2 a4 _ _ _ _ _ _ A7 A8 n7 n8 c7 c8 b7 b8 hs ns w h7 h8 k7 k8 u7 u8 (by have := bounds_u64 w2; omega) m7 m8
end Go.Proofs.Ytigjpfhjddkckaa
