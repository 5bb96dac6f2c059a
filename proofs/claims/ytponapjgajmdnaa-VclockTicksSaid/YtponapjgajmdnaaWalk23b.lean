/- The walks of VclockJoins, VclockOrders, VclockTicks. -/
import Derived.Test.YtponapjgajmdnaaWalk23
namespace Go.Proofs.Ytponapjgajmdnaa
open Go.RowKit
set_option linter.unusedVariables false

theorem RI.lit {W : World} {cs : Array Value} {e : TypeId} {xs : List Int} {n H : Nat} (hn : cs.size = n) (hxs : cs.toList = xs.map (Value.int .i64)) (hH : W.heap.size = H) : RI (W.alloc (.cells cs e)) (some ⟨H, 0, none⟩) n xs := hH ▸ ⟨_, Reads.lit W cs e _ hxs n hn⟩
theorem RI.alloc {w : World} {A : Option Addr} {n : Nat} {xs : List Int} (h : RI w A n xs) (o : Obj) : RI (w.alloc o) A n xs := h.chg ((Chg.refl _ _).alloc o)

theorem awake23 (w : World) : Calls Try.prog 31 #[] w fun e w' => e = .returned (.bool true) ∧ Below w.heap.size w w' := by
  go_enter Try.func31, Try.ntmps31
  go_wp2_with fail
  refine (tick_yes _ _ 1 _ 2 [1] (RI.lit (by rfl) (by rfl) (by first | rfl | simp)) (by decide) (by decide) (by decide) (by decide)).mono ?_
  rintro e w1 ⟨A1, c1, rfl, h1, hc1⟩
  have b1 : Below w.heap.size w w1 := chg_below ((Below.refl _ w).alloc (Nat.le_refl _) _) hc1 (Own.nil _)
  have h1' : RI w1 A1 3 [1, 0, 1] := h1
  clear h1 hc1
  rw [show max 1 (2 + 1) = 3 from rfl]
  go_wp2_with fail
  refine (cmp_any _ _ _ 2 2 _ _ [1, 2] [2, 1] (RI.alloc (RI.lit (by rfl) (by rfl) (by first | rfl | simp)) _) (RI.lit (by rfl) (by rfl) (by first | rfl | simp)) (by decide) (by decide)).mono ?_
  rintro e w2 ⟨rfl, rfl⟩
  rw [show vcmp [1, 2] [2, 1] = 2 from rfl]
  go_wp2_with fail
  refine (cmp_any _ _ _ 1 2 _ _ [1] [1, 0] (RI.alloc (RI.lit (by rfl) (by rfl) (by first | rfl | simp)) _) (RI.lit (by rfl) (by rfl) (by first | rfl | simp)) (by decide) (by decide)).mono ?_
  rintro e w2 ⟨rfl, rfl⟩
  rw [show vcmp [1] [1, 0] = 0 from rfl]
  go_wp2_with fail
  have h2 := ((((h1'.alloc (.cells #[.int .i64 1, .int .i64 2] 3)).alloc (.cells #[.int .i64 2, .int .i64 1] 3)).alloc (.cells #[.int .i64 1] 3)).alloc (.cells #[.int .i64 1, .int .i64 0] 3)).alloc (.cells #[.int .i64 1, .int .i64 0, .int .i64 1] 3)
  obtain ⟨b, h2⟩ := h2
  obtain ⟨b', h2'⟩ : RI ((((((w1.alloc (.cells #[.int .i64 1, .int .i64 2] 3)).alloc (.cells #[.int .i64 2, .int .i64 1] 3)).alloc (.cells #[.int .i64 1] 3)).alloc (.cells #[.int .i64 1, .int .i64 0] 3)).alloc (.cells #[.int .i64 1, .int .i64 0, .int .i64 1] 3))) (some ⟨w1.heap.size + 1 + 1 + 1 + 1, 0, none⟩) 3 [1, 0, 1] := RI.lit (by rfl) (by rfl) (by first | rfl | simp)
  refine (ints_any _ _ _ _ _ _ _ _ _ [1, 0, 1] [1, 0, 1] h2 h2' (by decide)).mono ?_
  rintro e w2 ⟨rfl, q, rfl⟩
  rw [show decide (([1, 0, 1] : List Int) = [1, 0, 1]) = true from rfl]
  have b2 := below_drewN (((((b1.alloc b1.size (.cells #[.int .i64 1, .int .i64 2] 3)).alloc (by simp; have := b1.size; omega) (.cells #[.int .i64 2, .int .i64 1] 3)).alloc (by simp; have := b1.size; omega) (.cells #[.int .i64 1] 3)).alloc (by simp; have := b1.size; omega) (.cells #[.int .i64 1, .int .i64 0] 3)).alloc (by simp; have := b1.size; omega) (.cells #[.int .i64 1, .int .i64 0, .int .i64 1] 3)) q
  generalize ((((((w1.alloc (.cells #[.int .i64 1, .int .i64 2] 3)).alloc (.cells #[.int .i64 2, .int .i64 1] 3)).alloc (.cells #[.int .i64 1] 3)).alloc (.cells #[.int .i64 1, .int .i64 0] 3)).alloc (.cells #[.int .i64 1, .int .i64 0, .int .i64 1] 3)).drewN q) = w3 at b2
  go_wp2_with fail
  refine (join_any _ _ _ 2 1 _ _ [1, 5] [3] (RI.alloc (RI.lit (by rfl) (by rfl) (by first | rfl | simp)) _) (RI.lit (by rfl) (by rfl) (by first | rfl | simp)) (by decide) (by decide)).mono ?_
  rintro e w4 ⟨A4, c4, rfl, h4, hc4⟩
  have h4' : RI w4 A4 2 [3, 5] := h4
  rw [show max 2 1 = 2 from rfl]
  have b4 : Below w.heap.size w w4 := chg_below ((b2.alloc b2.size _).alloc (by simp; have := b2.size; omega) _) hc4 (Own.nil _)
  clear h4 hc4
  go_wp2_with fail
  obtain ⟨b', h5⟩ := h4'.alloc (.cells #[.int .i64 3, .int .i64 5] 3)
  obtain ⟨b6, h6⟩ : RI (w4.alloc (.cells #[.int .i64 3, .int .i64 5] 3)) (some ⟨w4.heap.size, 0, none⟩) 2 [3, 5] := RI.lit rfl rfl rfl
  refine (ints_any _ _ _ _ _ _ _ _ _ [3, 5] [3, 5] h5 h6 (by decide)).mono ?_
  rintro e w5 ⟨rfl, q2, rfl⟩
  rw [show decide (([3, 5] : List Int) = [3, 5]) = true from rfl]
  go_wp2_with fail
  go_ret
  exact ⟨rfl, below_drewN (b4.alloc b4.size _) _⟩

end Go.Proofs.Ytponapjgajmdnaa
