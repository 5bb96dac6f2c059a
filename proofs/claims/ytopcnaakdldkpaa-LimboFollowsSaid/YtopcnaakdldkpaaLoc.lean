/- layout.locate and layout.Class of law18's heap. -/
import Derived.Test.YtopcnaakdldkpaaFlw
import Derived.Test.YtopcnaakdldkpaaClass
import Derived.Test.YtopcnaakdldkpaaReg3
import Derived.Deep.DeepCutAuto
import Derived.Deep.CutBlock
namespace Go.Proofs.Ytopcnaakdldkpaa
open Go.RowKit
set_option linter.unusedVariables false
def lcls (b : Int) : Int := if b < 0 then -1 else if b < 3 then 0 else if b < 5 then 1 else if b = 5 then 2 else -1
def I64b (x : Int) : Prop := -9223372036854775808 ≤ x ∧ x ≤ 9223372036854775807
def LocPost (w : World) (k : Int) (e : Ending) (w' : World) : Prop := (∃ f : Int, e = .returned (.tuple #[.int .i64 k, .int .i64 f])) ∧ Chg [] w w'
set_option maxRecDepth 8000 in
set_option maxHeartbeats 4000000 in
theorem loc_neg (w : World) (b : Int) (hI : I64b b) (h : b < 0) : Calls Try.prog 56 #[cfH.val, .int .i64 b] w (LocPost w (-1)) := by
  unfold I64b at hI
  have i0 : ∀ w, (Instr.index 30 (.agg #[.int .i64 3, .int .i64 2, .int .i64 1, .int .i64 0]) (.int .i64 0)).run Try.prog w = .ok (.int .i64 3) w := fun _ => by kernel_rfl
  have i1 : ∀ w, (Instr.index 30 (.agg #[.int .i64 3, .int .i64 2, .int .i64 1, .int .i64 0]) (.int .i64 1)).run Try.prog w = .ok (.int .i64 2) w := fun _ => by kernel_rfl
  have i2 : ∀ w, (Instr.index 30 (.agg #[.int .i64 3, .int .i64 2, .int .i64 1, .int .i64 0]) (.int .i64 2)).run Try.prog w = .ok (.int .i64 1) w := fun _ => by kernel_rfl
  have i3 : ∀ w, (Instr.index 30 (.agg #[.int .i64 3, .int .i64 2, .int .i64 1, .int .i64 0]) (.int .i64 3)).run Try.prog w = .ok (.int .i64 0) w := fun _ => by kernel_rfl
  have C0 := hid ((Chg.refl [] w).alloc (.cells cfH.cells 32))
  have hb0 := Blk.new w 32 cfH.cells
  have hck := check_any (w.alloc (.cells cfH.cells 32)) cfH
  have HCK := hid hck
  clear hck
  go_enter Try.func56, Try.ntmps56
  go_wp2_with fail
  refine HCK.out.mono ?_
  rintro e w1 ⟨rfl, hc1⟩
  rw [cfH_ok]
  have C1 := hid (C0.out.trans hc1 (by simp))
  obtain ⟨q0, q1, q2, q3, q4, q5, q6, q7, q8, q9, q10, q11, q12⟩ := blk_cfg (hb0.chg hc1 (by simp))
  clear hb0 hc1 C0 HCK
  replace q0 : w1.cell? ⟨w.heap.size, 0, none⟩ = some (.int .i64 20) := q0
  replace q1 : w1.cell? ⟨w.heap.size, 1, none⟩ = some (.int .i64 4) := q1
  replace q2 : w1.cell? ⟨w.heap.size, 2, none⟩ = some (.int .i64 1) := q2
  replace q3 : w1.cell? ⟨w.heap.size, 3, none⟩ = some (.int .i64 3) := q3
  replace q4 : w1.cell? ⟨w.heap.size, 4, none⟩ = some (.int .i64 2) := q4
  replace q5 : w1.cell? ⟨w.heap.size, 5, none⟩ = some (.int .i64 1) := q5
  replace q6 : w1.cell? ⟨w.heap.size, 6, none⟩ = some (.int .i64 0) := q6
  replace q7 : w1.cell? ⟨w.heap.size, 7, none⟩ = some (.int .i64 1) := q7
  replace q8 : w1.cell? ⟨w.heap.size, 8, none⟩ = some (.int .i64 1) := q8
  replace q9 : w1.cell? ⟨w.heap.size, 9, none⟩ = some (.int .i64 0) := q9
  replace q10 : w1.cell? ⟨w.heap.size, 10, none⟩ = some (.int .i64 0) := q10
  replace q11 : w1.cell? ⟨w.heap.size, 11, none⟩ = some (.int .i64 0) := q11
  replace q12 : w1.cell? ⟨w.heap.size, 12, none⟩ = some (.bool false) := q12
  go_wp2_with fail
  go_ret2
  exact ⟨⟨_, rfl⟩, C1.out⟩
set_option maxRecDepth 8000 in
set_option maxHeartbeats 4000000 in
theorem loc_c0 (w : World) (b : Int) (hI : I64b b) (h : 0 ≤ b ∧ b < 3) : Calls Try.prog 56 #[cfH.val, .int .i64 b] w (LocPost w (0)) := by
  unfold I64b at hI
  have i0 : ∀ w, (Instr.index 30 (.agg #[.int .i64 3, .int .i64 2, .int .i64 1, .int .i64 0]) (.int .i64 0)).run Try.prog w = .ok (.int .i64 3) w := fun _ => by kernel_rfl
  have i1 : ∀ w, (Instr.index 30 (.agg #[.int .i64 3, .int .i64 2, .int .i64 1, .int .i64 0]) (.int .i64 1)).run Try.prog w = .ok (.int .i64 2) w := fun _ => by kernel_rfl
  have i2 : ∀ w, (Instr.index 30 (.agg #[.int .i64 3, .int .i64 2, .int .i64 1, .int .i64 0]) (.int .i64 2)).run Try.prog w = .ok (.int .i64 1) w := fun _ => by kernel_rfl
  have i3 : ∀ w, (Instr.index 30 (.agg #[.int .i64 3, .int .i64 2, .int .i64 1, .int .i64 0]) (.int .i64 3)).run Try.prog w = .ok (.int .i64 0) w := fun _ => by kernel_rfl
  have C0 := hid ((Chg.refl [] w).alloc (.cells cfH.cells 32))
  have hb0 := Blk.new w 32 cfH.cells
  have hck := check_any (w.alloc (.cells cfH.cells 32)) cfH
  have HCK := hid hck
  clear hck
  go_enter Try.func56, Try.ntmps56
  go_wp2_with fail
  refine HCK.out.mono ?_
  rintro e w1 ⟨rfl, hc1⟩
  rw [cfH_ok]
  have C1 := hid (C0.out.trans hc1 (by simp))
  obtain ⟨q0, q1, q2, q3, q4, q5, q6, q7, q8, q9, q10, q11, q12⟩ := blk_cfg (hb0.chg hc1 (by simp))
  clear hb0 hc1 C0 HCK
  replace q0 : w1.cell? ⟨w.heap.size, 0, none⟩ = some (.int .i64 20) := q0
  replace q1 : w1.cell? ⟨w.heap.size, 1, none⟩ = some (.int .i64 4) := q1
  replace q2 : w1.cell? ⟨w.heap.size, 2, none⟩ = some (.int .i64 1) := q2
  replace q3 : w1.cell? ⟨w.heap.size, 3, none⟩ = some (.int .i64 3) := q3
  replace q4 : w1.cell? ⟨w.heap.size, 4, none⟩ = some (.int .i64 2) := q4
  replace q5 : w1.cell? ⟨w.heap.size, 5, none⟩ = some (.int .i64 1) := q5
  replace q6 : w1.cell? ⟨w.heap.size, 6, none⟩ = some (.int .i64 0) := q6
  replace q7 : w1.cell? ⟨w.heap.size, 7, none⟩ = some (.int .i64 1) := q7
  replace q8 : w1.cell? ⟨w.heap.size, 8, none⟩ = some (.int .i64 1) := q8
  replace q9 : w1.cell? ⟨w.heap.size, 9, none⟩ = some (.int .i64 0) := q9
  replace q10 : w1.cell? ⟨w.heap.size, 10, none⟩ = some (.int .i64 0) := q10
  replace q11 : w1.cell? ⟨w.heap.size, 11, none⟩ = some (.int .i64 0) := q11
  replace q12 : w1.cell? ⟨w.heap.size, 12, none⟩ = some (.bool false) := q12
  go_wp2_with fail
  refine wp_loop_rounds 1 ?_
  rw [rounds_succ]
  go_upto_region 8 with fail
  refine wp_region_brk [] (by kernel_rfl) ?_
  refine' wpAnyB_bulk [true, true, true, true, true, true, true, true] 41 (listed' := #[true, true, true, true, true, true, true, true]) rfl (by kernel_rfl) (by kernel_rfl) (by kernel_rfl) (by kernel_rfl) (by kernel_rfl) (by kernel_rfl) (by decide) (fun _ _ _ _ h => h) rfl trivial (fun wq hq => ?_) ?_; rotate_left 1
  · simp only [maskL]
    repeat (go_big_quiet_step (fail))
    exact wpQuiet_nil rfl
  refine wpAnyB_done (by kernel_rfl) ?_ _
  go_wp2_with fail
  go_ret2
  exact ⟨⟨_, rfl⟩, C1.out.drew⟩
set_option maxRecDepth 8000 in
set_option maxHeartbeats 4000000 in
theorem loc_c1 (w : World) (b : Int) (hI : I64b b) (h : 3 ≤ b ∧ b < 5) : Calls Try.prog 56 #[cfH.val, .int .i64 b] w (LocPost w (1)) := by
  unfold I64b at hI
  have i0 : ∀ w, (Instr.index 30 (.agg #[.int .i64 3, .int .i64 2, .int .i64 1, .int .i64 0]) (.int .i64 0)).run Try.prog w = .ok (.int .i64 3) w := fun _ => by kernel_rfl
  have i1 : ∀ w, (Instr.index 30 (.agg #[.int .i64 3, .int .i64 2, .int .i64 1, .int .i64 0]) (.int .i64 1)).run Try.prog w = .ok (.int .i64 2) w := fun _ => by kernel_rfl
  have i2 : ∀ w, (Instr.index 30 (.agg #[.int .i64 3, .int .i64 2, .int .i64 1, .int .i64 0]) (.int .i64 2)).run Try.prog w = .ok (.int .i64 1) w := fun _ => by kernel_rfl
  have i3 : ∀ w, (Instr.index 30 (.agg #[.int .i64 3, .int .i64 2, .int .i64 1, .int .i64 0]) (.int .i64 3)).run Try.prog w = .ok (.int .i64 0) w := fun _ => by kernel_rfl
  have C0 := hid ((Chg.refl [] w).alloc (.cells cfH.cells 32))
  have hb0 := Blk.new w 32 cfH.cells
  have hck := check_any (w.alloc (.cells cfH.cells 32)) cfH
  have HCK := hid hck
  clear hck
  go_enter Try.func56, Try.ntmps56
  go_wp2_with fail
  refine HCK.out.mono ?_
  rintro e w1 ⟨rfl, hc1⟩
  rw [cfH_ok]
  have C1 := hid (C0.out.trans hc1 (by simp))
  obtain ⟨q0, q1, q2, q3, q4, q5, q6, q7, q8, q9, q10, q11, q12⟩ := blk_cfg (hb0.chg hc1 (by simp))
  clear hb0 hc1 C0 HCK
  replace q0 : w1.cell? ⟨w.heap.size, 0, none⟩ = some (.int .i64 20) := q0
  replace q1 : w1.cell? ⟨w.heap.size, 1, none⟩ = some (.int .i64 4) := q1
  replace q2 : w1.cell? ⟨w.heap.size, 2, none⟩ = some (.int .i64 1) := q2
  replace q3 : w1.cell? ⟨w.heap.size, 3, none⟩ = some (.int .i64 3) := q3
  replace q4 : w1.cell? ⟨w.heap.size, 4, none⟩ = some (.int .i64 2) := q4
  replace q5 : w1.cell? ⟨w.heap.size, 5, none⟩ = some (.int .i64 1) := q5
  replace q6 : w1.cell? ⟨w.heap.size, 6, none⟩ = some (.int .i64 0) := q6
  replace q7 : w1.cell? ⟨w.heap.size, 7, none⟩ = some (.int .i64 1) := q7
  replace q8 : w1.cell? ⟨w.heap.size, 8, none⟩ = some (.int .i64 1) := q8
  replace q9 : w1.cell? ⟨w.heap.size, 9, none⟩ = some (.int .i64 0) := q9
  replace q10 : w1.cell? ⟨w.heap.size, 10, none⟩ = some (.int .i64 0) := q10
  replace q11 : w1.cell? ⟨w.heap.size, 11, none⟩ = some (.int .i64 0) := q11
  replace q12 : w1.cell? ⟨w.heap.size, 12, none⟩ = some (.bool false) := q12
  go_wp2_with fail
  refine wp_loop_rounds 2 ?_
  rw [rounds_succ]; go_wp2_with fail
  rw [rounds_succ]
  go_upto_region 8 with fail
  refine wp_region_brk [] (by kernel_rfl) ?_
  refine' wpAnyB_bulk [true, true, true, true, true, true, true, true] 41 (listed' := #[true, true, true, true, true, true, true, true]) rfl (by kernel_rfl) (by kernel_rfl) (by kernel_rfl) (by kernel_rfl) (by kernel_rfl) (by kernel_rfl) (by decide) (fun _ _ _ _ h => h) rfl trivial (fun wq hq => ?_) ?_; rotate_left 1
  · simp only [maskL]
    repeat (go_big_quiet_step (fail))
    exact wpQuiet_nil rfl
  refine wpAnyB_done (by kernel_rfl) ?_ _
  go_wp2_with fail
  go_ret2
  exact ⟨⟨_, rfl⟩, C1.out.drew⟩
set_option maxRecDepth 8000 in
set_option maxHeartbeats 4000000 in
theorem loc_c2 (w : World) (b : Int) (hI : I64b b) (h : b = 5) : Calls Try.prog 56 #[cfH.val, .int .i64 b] w (LocPost w (2)) := by
  unfold I64b at hI
  have i0 : ∀ w, (Instr.index 30 (.agg #[.int .i64 3, .int .i64 2, .int .i64 1, .int .i64 0]) (.int .i64 0)).run Try.prog w = .ok (.int .i64 3) w := fun _ => by kernel_rfl
  have i1 : ∀ w, (Instr.index 30 (.agg #[.int .i64 3, .int .i64 2, .int .i64 1, .int .i64 0]) (.int .i64 1)).run Try.prog w = .ok (.int .i64 2) w := fun _ => by kernel_rfl
  have i2 : ∀ w, (Instr.index 30 (.agg #[.int .i64 3, .int .i64 2, .int .i64 1, .int .i64 0]) (.int .i64 2)).run Try.prog w = .ok (.int .i64 1) w := fun _ => by kernel_rfl
  have i3 : ∀ w, (Instr.index 30 (.agg #[.int .i64 3, .int .i64 2, .int .i64 1, .int .i64 0]) (.int .i64 3)).run Try.prog w = .ok (.int .i64 0) w := fun _ => by kernel_rfl
  have C0 := hid ((Chg.refl [] w).alloc (.cells cfH.cells 32))
  have hb0 := Blk.new w 32 cfH.cells
  have hck := check_any (w.alloc (.cells cfH.cells 32)) cfH
  have HCK := hid hck
  clear hck
  go_enter Try.func56, Try.ntmps56
  go_wp2_with fail
  refine HCK.out.mono ?_
  rintro e w1 ⟨rfl, hc1⟩
  rw [cfH_ok]
  have C1 := hid (C0.out.trans hc1 (by simp))
  obtain ⟨q0, q1, q2, q3, q4, q5, q6, q7, q8, q9, q10, q11, q12⟩ := blk_cfg (hb0.chg hc1 (by simp))
  clear hb0 hc1 C0 HCK
  replace q0 : w1.cell? ⟨w.heap.size, 0, none⟩ = some (.int .i64 20) := q0
  replace q1 : w1.cell? ⟨w.heap.size, 1, none⟩ = some (.int .i64 4) := q1
  replace q2 : w1.cell? ⟨w.heap.size, 2, none⟩ = some (.int .i64 1) := q2
  replace q3 : w1.cell? ⟨w.heap.size, 3, none⟩ = some (.int .i64 3) := q3
  replace q4 : w1.cell? ⟨w.heap.size, 4, none⟩ = some (.int .i64 2) := q4
  replace q5 : w1.cell? ⟨w.heap.size, 5, none⟩ = some (.int .i64 1) := q5
  replace q6 : w1.cell? ⟨w.heap.size, 6, none⟩ = some (.int .i64 0) := q6
  replace q7 : w1.cell? ⟨w.heap.size, 7, none⟩ = some (.int .i64 1) := q7
  replace q8 : w1.cell? ⟨w.heap.size, 8, none⟩ = some (.int .i64 1) := q8
  replace q9 : w1.cell? ⟨w.heap.size, 9, none⟩ = some (.int .i64 0) := q9
  replace q10 : w1.cell? ⟨w.heap.size, 10, none⟩ = some (.int .i64 0) := q10
  replace q11 : w1.cell? ⟨w.heap.size, 11, none⟩ = some (.int .i64 0) := q11
  replace q12 : w1.cell? ⟨w.heap.size, 12, none⟩ = some (.bool false) := q12
  go_wp2_with fail
  refine wp_loop_rounds 3 ?_
  rw [rounds_succ]; go_wp2_with fail
  rw [rounds_succ]; go_wp2_with fail
  rw [rounds_succ]
  go_upto_region 8 with fail
  refine wp_region_brk [] (by kernel_rfl) ?_
  refine' wpAnyB_bulk [true, true, true, true, true, true, true, true] 41 (listed' := #[true, true, true, true, true, true, true, true]) rfl (by kernel_rfl) (by kernel_rfl) (by kernel_rfl) (by kernel_rfl) (by kernel_rfl) (by kernel_rfl) (by decide) (fun _ _ _ _ h => h) rfl trivial (fun wq hq => ?_) ?_; rotate_left 1
  · simp only [maskL]
    repeat (go_big_quiet_step (fail))
    exact wpQuiet_nil rfl
  refine wpAnyB_done (by kernel_rfl) ?_ _
  go_wp2_with fail
  go_ret2
  exact ⟨⟨_, rfl⟩, C1.out.drew⟩
set_option maxRecDepth 8000 in
set_option maxHeartbeats 4000000 in
theorem loc_no (w : World) (b : Int) (hI : I64b b) (h : 6 ≤ b) : Calls Try.prog 56 #[cfH.val, .int .i64 b] w (LocPost w (-1)) := by
  unfold I64b at hI
  have i0 : ∀ w, (Instr.index 30 (.agg #[.int .i64 3, .int .i64 2, .int .i64 1, .int .i64 0]) (.int .i64 0)).run Try.prog w = .ok (.int .i64 3) w := fun _ => by kernel_rfl
  have i1 : ∀ w, (Instr.index 30 (.agg #[.int .i64 3, .int .i64 2, .int .i64 1, .int .i64 0]) (.int .i64 1)).run Try.prog w = .ok (.int .i64 2) w := fun _ => by kernel_rfl
  have i2 : ∀ w, (Instr.index 30 (.agg #[.int .i64 3, .int .i64 2, .int .i64 1, .int .i64 0]) (.int .i64 2)).run Try.prog w = .ok (.int .i64 1) w := fun _ => by kernel_rfl
  have i3 : ∀ w, (Instr.index 30 (.agg #[.int .i64 3, .int .i64 2, .int .i64 1, .int .i64 0]) (.int .i64 3)).run Try.prog w = .ok (.int .i64 0) w := fun _ => by kernel_rfl
  have C0 := hid ((Chg.refl [] w).alloc (.cells cfH.cells 32))
  have hb0 := Blk.new w 32 cfH.cells
  have hck := check_any (w.alloc (.cells cfH.cells 32)) cfH
  have HCK := hid hck
  clear hck
  go_enter Try.func56, Try.ntmps56
  go_wp2_with fail
  refine HCK.out.mono ?_
  rintro e w1 ⟨rfl, hc1⟩
  rw [cfH_ok]
  have C1 := hid (C0.out.trans hc1 (by simp))
  obtain ⟨q0, q1, q2, q3, q4, q5, q6, q7, q8, q9, q10, q11, q12⟩ := blk_cfg (hb0.chg hc1 (by simp))
  clear hb0 hc1 C0 HCK
  replace q0 : w1.cell? ⟨w.heap.size, 0, none⟩ = some (.int .i64 20) := q0
  replace q1 : w1.cell? ⟨w.heap.size, 1, none⟩ = some (.int .i64 4) := q1
  replace q2 : w1.cell? ⟨w.heap.size, 2, none⟩ = some (.int .i64 1) := q2
  replace q3 : w1.cell? ⟨w.heap.size, 3, none⟩ = some (.int .i64 3) := q3
  replace q4 : w1.cell? ⟨w.heap.size, 4, none⟩ = some (.int .i64 2) := q4
  replace q5 : w1.cell? ⟨w.heap.size, 5, none⟩ = some (.int .i64 1) := q5
  replace q6 : w1.cell? ⟨w.heap.size, 6, none⟩ = some (.int .i64 0) := q6
  replace q7 : w1.cell? ⟨w.heap.size, 7, none⟩ = some (.int .i64 1) := q7
  replace q8 : w1.cell? ⟨w.heap.size, 8, none⟩ = some (.int .i64 1) := q8
  replace q9 : w1.cell? ⟨w.heap.size, 9, none⟩ = some (.int .i64 0) := q9
  replace q10 : w1.cell? ⟨w.heap.size, 10, none⟩ = some (.int .i64 0) := q10
  replace q11 : w1.cell? ⟨w.heap.size, 11, none⟩ = some (.int .i64 0) := q11
  replace q12 : w1.cell? ⟨w.heap.size, 12, none⟩ = some (.bool false) := q12
  go_wp2_with fail
  refine wp_loop_rounds 5 ?_
  rw [rounds_succ]; go_wp2
  rw [rounds_succ]; go_wp2
  rw [rounds_succ]; go_wp2
  rw [rounds_succ]; go_wp2
  rw [rounds_succ]; go_wp2
  go_ret2
  exact ⟨⟨_, rfl⟩, C1.out⟩
theorem loc_any (w : World) (b : Int) (hI : I64b b) : Calls Try.prog 56 #[cfH.val, .int .i64 b] w (LocPost w (lcls b)) := by
  unfold lcls
  split
  · exact loc_neg w b hI (by assumption)
  split
  · exact loc_c0 w b hI (by omega)
  split
  · exact loc_c1 w b hI (by omega)
  split
  · exact loc_c2 w b hI (by assumption)
  · exact loc_no w b hI (by omega)
set_option maxRecDepth 8000 in
theorem class_any (w : World) (b : Int) (hI : I64b b) : Calls Try.prog 36 #[cfH.val, .int .i64 b] w fun e w' => e = .returned (.int .i64 (lcls b)) ∧ Chg [] w w' := by
  have C0 := hid ((Chg.refl [] w).alloc (.cells cfH.cells 32))
  have HL := hid (loc_any (w.alloc (.cells cfH.cells 32)) b hI)
  obtain ⟨q0, q1, q2, q3, q4, q5, q6, q7, q8, q9, q10, q11, q12⟩ := blk_cfg (Blk.new w 32 cfH.cells)
  go_enter Try.func36, Try.ntmps36
  go_wp2_with fail
  refine HL.out.mono ?_
  rintro e w1 ⟨⟨f, rfl⟩, hc1⟩
  have C1 := hid (C0.out.trans hc1 (by simp))
  clear HL
  clear hc1 q0 q1 q2 q3 q4 q5 q6 q7 q8 q9 q10 q11 q12
  go_wp2_with fail
  go_ret
  exact ⟨rfl, C1.out⟩
end Go.Proofs.Ytopcnaakdldkpaa
