/-
  What the proof of TopTransfers leans on, part 32 of 48: Fm. No statement of its own.
-/
import Derived.Test.YtmlfangeanmmeaaGreatDoorTm15
import Derived.Test.YtmlfangeanmmeaaGreatDoorTm16
import Derived.LoopN
import Derived.Deep.LoopGhost
namespace Go.Proofs.YtmlfangeanmmeaaGreatDoor
set_option maxRecDepth 8000
open Go.RowKit
set_option linter.unusedVariables false
structure FormsAt (w:World):Prop where
  f0:w.cell? ⟨0,1,none⟩=some (.string ⟨#[]⟩)
  f1:w.cell? ⟨0,3,none⟩=some (.string ⟨#[65,73]⟩)
  f3:w.cell? ⟨0,7,none⟩=some (.string ⟨#[65,66,67]⟩)
  f7:w.cell? ⟨0,15,none⟩=some (.string ⟨#[73]⟩)
  f8:w.cell? ⟨0,17,none⟩=some (.string ⟨#[]⟩)
  f10:w.cell? ⟨0,21,none⟩=some (.string ⟨#[65,66,73]⟩)
  f11:w.cell? ⟨0,23,none⟩=some (.string ⟨#[65,66,73]⟩)
section
variable {w0 w:World} {R:Asr} {a b c imm:Int}
theorem Zbd  (h:Hold w0 w R):Calls Tryz.prog 130 #[(InsR.mk 0 0 0 0 0).val] w fun e w'=>e = .returned (.bool true)∧Hold w0 w' R:=by
  have H1:=hid (h.newBlk (t:=28) (cs:=#[.int .i64 0,.int .i64 0,.int .i64 0,.int .i64 0,.int .i64 0])).drop
  clear h
  go_enter Tryz.func130,Tryz.ntmps130
  go_wp2_with fail
  go_ret
  exact ⟨rfl,H1.out⟩
theorem Zbc (ha:0≤a∧a < 8) (h:Hold w0 w R):Calls Tryz.prog 130 #[(InsR.mk 1 a 0 0 imm).val] w fun e w'=>e = .returned (.bool true)∧Hold w0 w' R:=by
  have H1:=hid (h.newBlk (t:=28) (cs:=#[.int .i64 1,.int .i64 a,.int .i64 0,.int .i64 0,.int .i64 imm])).drop
  have ea1:decide (a < 0)=false:=decide_eq_false (by omega)
  have ea2:decide (8≤a)=false:=decide_eq_false (by omega)
  have ea3:decide (a ≥ 8)=false:=decide_eq_false (by omega)
  clear h
  go_enter Tryz.func130,Tryz.ntmps130
  go_wp2_with fail
  go_ret
  exact ⟨rfl,H1.out⟩
theorem Zbb (ha:0≤a∧a < 8) (hb:0≤b∧b < 8) (hc:0≤c∧c < 8) (hi:0≤imm∧imm < 22) (h:Hold w0 w R):Calls Tryz.prog 130 #[(InsR.mk 3 a b c imm).val] w fun e w'=>e = .returned (.bool true)∧Hold w0 w' R:=by
  have H1:=hid (h.newBlk (t:=28) (cs:=#[.int .i64 3,.int .i64 a,.int .i64 b,.int .i64 c,.int .i64 imm])).drop
  have ea1:decide (a < 0)=false:=decide_eq_false (by omega)
  have ea2:decide (8≤a)=false:=decide_eq_false (by omega)
  have ea3:decide (a ≥ 8)=false:=decide_eq_false (by omega)
  have eb1:decide (b < 0)=false:=decide_eq_false (by omega)
  have eb2:decide (8≤b)=false:=decide_eq_false (by omega)
  have eb3:decide (b ≥ 8)=false:=decide_eq_false (by omega)
  have ec1:decide (c < 0)=false:=decide_eq_false (by omega)
  have ec2:decide (8≤c)=false:=decide_eq_false (by omega)
  have ec3:decide (c ≥ 8)=false:=decide_eq_false (by omega)
  have ei1:decide (imm ≥ 0)=true:=decide_eq_true (by omega)
  have ei2:decide (imm < 22)=true:=decide_eq_true (by omega)
  have ei3:decide (0≤imm)=true:=decide_eq_true (by omega)
  clear h
  go_enter Tryz.func130,Tryz.ntmps130
  go_wp2_with fail
  go_ret
  exact ⟨rfl,H1.out⟩
theorem Zba (hi:1≤imm∧imm≤8) (h:Hold w0 w R):Calls Tryz.prog 130 #[(InsR.mk 7 0 0 0 imm).val] w fun e w'=>e = .returned (.bool true)∧Hold w0 w' R:=by
  have H1:=hid (h.newBlk (t:=28) (cs:=#[.int .i64 7,.int .i64 0,.int .i64 0,.int .i64 0,.int .i64 imm])).drop
  have ei1:decide (imm ≥ 1)=true:=decide_eq_true (by omega)
  have ei2:decide (imm≤8)=true:=decide_eq_true (by omega)
  have ei3:decide (1≤imm)=true:=decide_eq_true (by omega)
  clear h
  go_enter Tryz.func130,Tryz.ntmps130
  go_wp2_with fail
  go_ret
  exact ⟨rfl,H1.out⟩
theorem Zb9  (h:Hold w0 w R):Calls Tryz.prog 130 #[(InsR.mk 8 0 0 0 0).val] w fun e w'=>e = .returned (.bool true)∧Hold w0 w' R:=by
  have H1:=hid (h.newBlk (t:=28) (cs:=#[.int .i64 8,.int .i64 0,.int .i64 0,.int .i64 0,.int .i64 0])).drop
  clear h
  go_enter Tryz.func130,Tryz.ntmps130
  go_wp2_with fail
  go_ret
  exact ⟨rfl,H1.out⟩
theorem Z9t (ha:0≤a∧a < 8) (hb:0≤b∧b < 8) (h:Hold w0 w R):Calls Tryz.prog 130 #[(InsR.mk 10 a b 0 imm).val] w fun e w'=>e = .returned (.bool true)∧Hold w0 w' R:=by
  have H1:=hid (h.newBlk (t:=28) (cs:=#[.int .i64 10,.int .i64 a,.int .i64 b,.int .i64 0,.int .i64 imm])).drop
  have ea1:decide (a < 0)=false:=decide_eq_false (by omega)
  have ea2:decide (8≤a)=false:=decide_eq_false (by omega)
  have ea3:decide (a ≥ 8)=false:=decide_eq_false (by omega)
  have eb1:decide (b < 0)=false:=decide_eq_false (by omega)
  have eb2:decide (8≤b)=false:=decide_eq_false (by omega)
  have eb3:decide (b ≥ 8)=false:=decide_eq_false (by omega)
  clear h
  go_enter Tryz.func130,Tryz.ntmps130
  go_wp2_with fail
  go_ret
  exact ⟨rfl,H1.out⟩
theorem Z9s (ha:0≤a∧a < 8) (hb:0≤b∧b < 8) (h:Hold w0 w R):Calls Tryz.prog 130 #[(InsR.mk 11 a b 0 imm).val] w fun e w'=>e = .returned (.bool true)∧Hold w0 w' R:=by
  have H1:=hid (h.newBlk (t:=28) (cs:=#[.int .i64 11,.int .i64 a,.int .i64 b,.int .i64 0,.int .i64 imm])).drop
  have ea1:decide (a < 0)=false:=decide_eq_false (by omega)
  have ea2:decide (8≤a)=false:=decide_eq_false (by omega)
  have ea3:decide (a ≥ 8)=false:=decide_eq_false (by omega)
  have eb1:decide (b < 0)=false:=decide_eq_false (by omega)
  have eb2:decide (8≤b)=false:=decide_eq_false (by omega)
  have eb3:decide (b ≥ 8)=false:=decide_eq_false (by omega)
  clear h
  go_enter Tryz.func130,Tryz.ntmps130
  go_wp2_with fail
  go_ret
  exact ⟨rfl,H1.out⟩
set_option maxHeartbeats 4000000 in
theorem Z2w (hF:FormsAt w0)  (h:Hold w0 w R):Calls Tryz.prog 76 #[(InsR.mk 0 0 0 0 0).val] w fun e w'=>e = .returned (.int .i64 0)∧Hold w0 w' R:=by
  have H1:=hid (h.newBlk (t:=28) (cs:=#[.int .i64 0,.int .i64 0,.int .i64 0,.int .i64 0,.int .i64 0]))
  have HF:=hid hF
  have HN:∀ w',Hold w0 w' R→Hid (Calls Tryz.prog 130 #[(InsR.mk 0 0 0 0 0).val] w' fun e w'=>e = .returned (.bool true)∧Hold w0 w' R):=fun w' h=>hid (Zbd  h)
  have i0:∀ w,(Instr.index 22 (.agg #[.int .i64 0,.int .i64 0,.int .i64 0]) (.int .i64 0)).run Tryz.prog w = .ok (.int .i64 0) w:=fun _=>by kernel_rfl
  have i1:∀ w,(Instr.index 22 (.agg #[.int .i64 0,.int .i64 0,.int .i64 0]) (.int .i64 1)).run Tryz.prog w = .ok (.int .i64 0) w:=fun _=>by kernel_rfl
  have i2:∀ w,(Instr.index 22 (.agg #[.int .i64 0,.int .i64 0,.int .i64 0]) (.int .i64 2)).run Tryz.prog w = .ok (.int .i64 0) w:=fun _=>by kernel_rfl
  clear h hF
  go_enter Tryz.func76,Tryz.ntmps76
  go_upto_region 3 with fail
  have h1:=H1.out
  generalize hW:w.alloc _=W at h1 ⊢
  generalize w.heap.size=gi at h1 ⊢
  clear hW H1
  have p0:W.cell? ⟨gi,0,none⟩=some (.int .i64 0):=h1.blk.some_ (i:=0) rfl
  have p1:W.cell? ⟨gi,1,none⟩=some (.int .i64 0):=h1.blk.some_ (i:=1) rfl
  have p2:W.cell? ⟨gi,2,none⟩=some (.int .i64 0):=h1.blk.some_ (i:=2) rfl
  have p3:W.cell? ⟨gi,3,none⟩=some (.int .i64 0):=h1.blk.some_ (i:=3) rfl
  go_wp2_with fail
  refine wp_loop_rounds 4 ?_
  rw [rounds_succ]
  go_upto_region 6 with fail
  have hd:=h1.drew
  have q:W.drew.cell? ⟨0,1,none⟩=some (.string ⟨#[]⟩):=hd.old HF.out.f0
  have pp:W.drew.cell? ⟨gi,0,none⟩=some (.int .i64 0):=hd.blk.some_ (i:=0) rfl
  have HC:Hid (Calls Tryz.prog 129 #[.string ⟨#[]⟩,.string ⟨#[65]⟩] W.drew fun e w'=>e = .returned (.bool false)∧W.drew=w'):=hid ((Any.strings_Contains_one Z0z ⟨#[]⟩ 65 W.drew).mono (by rintro e w' ⟨rfl,rfl⟩;exact ⟨by rfl,rfl⟩))
  refine Z01 [] (by kernel_rfl) ?_
  refine' wbk [true,false,false,false,false,true,true,true,true] 56 trivial (fun wq hq=>?_) ?_;rotate_left
  · simp only [Z00]
    repeat (go_big_quiet_step (fail))
    exact wpQuiet_nil rfl
  refine wbr [false,true] (fuel:=5) (fun QB hQB hQX=>?_)
  simp only [Z00]
  go_wp2_with fail
  refine hQB.out _ _ trivial ?_
  refine' wbk [false,false,true,true] 56 trivial (fun wq hq=>?_) ?_;rotate_left
  · simp only [Z00]
    repeat (go_big_quiet_step (fail))
    exact wpQuiet_nil rfl
  refine wbr [false,false,false,false,true] (fuel:=2) (fun QB hQB hQX=>?_)
  simp only [Z00]
  go_wp2_with fail
  refine hQB.out _ _ trivial ?_
  refine wbr [false,false,false,false,false,false,false,false,false,true] (fuel:=1) (fun QB hQB hQX=>?_)
  simp only [Z00]
  go_wp2_with fail
  refine HC.out.mono ?_
  rintro e w' ⟨rfl,rfl⟩
  go_wp2_with fail
  refine hQB.out _ _ trivial ?_
  clear hQB hQX QB
  refine' wbk [false,false,false,false,false,false,false,false,false,false,true] 56 trivial (fun wq hq=>?_) ?_;rotate_left
  · simp only [Z00]
    repeat (go_big_quiet_step (fail))
    exact wpQuiet_nil rfl
  refine Z02 (by kernel_rfl) ?_ _
  clear h1
  have h1:=hd
  clear hd q pp HC
  generalize hW:W.drew=W1 at h1 ⊢
  clear hW
  go_wp2_with fail
  rw [rounds_succ]
  go_upto_region 6 with fail
  have hd:=h1.drew
  have q:W1.drew.cell? ⟨0,1,none⟩=some (.string ⟨#[]⟩):=hd.old HF.out.f0
  have pp:W1.drew.cell? ⟨gi,0,none⟩=some (.int .i64 0):=hd.blk.some_ (i:=0) rfl
  have HC:Hid (Calls Tryz.prog 129 #[.string ⟨#[]⟩,.string ⟨#[66]⟩] W1.drew fun e w'=>e = .returned (.bool false)∧W1.drew=w'):=hid ((Any.strings_Contains_one Z0z ⟨#[]⟩ 66 W1.drew).mono (by rintro e w' ⟨rfl,rfl⟩;exact ⟨by rfl,rfl⟩))
  refine Z01 [] (by kernel_rfl) ?_
  refine' wbk [true,false,false,false,false,true,true,true,true] 56 trivial (fun wq hq=>?_) ?_;rotate_left
  · simp only [Z00]
    repeat (go_big_quiet_step (fail))
    exact wpQuiet_nil rfl
  refine wbr [false,true] (fuel:=5) (fun QB hQB hQX=>?_)
  simp only [Z00]
  go_wp2_with fail
  refine hQB.out _ _ trivial ?_
  refine' wbk [false,false,true,true] 56 trivial (fun wq hq=>?_) ?_;rotate_left
  · simp only [Z00]
    repeat (go_big_quiet_step (fail))
    exact wpQuiet_nil rfl
  refine wbr [false,false,false,false,true] (fuel:=2) (fun QB hQB hQX=>?_)
  simp only [Z00]
  go_wp2_with fail
  refine hQB.out _ _ trivial ?_
  refine wbr [false,false,false,false,false,false,false,false,false,true] (fuel:=1) (fun QB hQB hQX=>?_)
  simp only [Z00]
  go_wp2_with fail
  refine HC.out.mono ?_
  rintro e w' ⟨rfl,rfl⟩
  go_wp2_with fail
  refine hQB.out _ _ trivial ?_
  clear hQB hQX QB
  refine' wbk [false,false,false,false,false,false,false,false,false,false,true] 56 trivial (fun wq hq=>?_) ?_;rotate_left
  · simp only [Z00]
    repeat (go_big_quiet_step (fail))
    exact wpQuiet_nil rfl
  refine Z02 (by kernel_rfl) ?_ _
  clear h1
  have h1:=hd
  clear hd q pp HC
  generalize hW:W1.drew=W2 at h1 ⊢
  clear hW
  go_wp2_with fail
  rw [rounds_succ]
  go_upto_region 6 with fail
  have hd:=h1.drew
  have q:W2.drew.cell? ⟨0,1,none⟩=some (.string ⟨#[]⟩):=hd.old HF.out.f0
  have pp:W2.drew.cell? ⟨gi,0,none⟩=some (.int .i64 0):=hd.blk.some_ (i:=0) rfl
  have HC:Hid (Calls Tryz.prog 129 #[.string ⟨#[]⟩,.string ⟨#[67]⟩] W2.drew fun e w'=>e = .returned (.bool false)∧W2.drew=w'):=hid ((Any.strings_Contains_one Z0z ⟨#[]⟩ 67 W2.drew).mono (by rintro e w' ⟨rfl,rfl⟩;exact ⟨by rfl,rfl⟩))
  refine Z01 [] (by kernel_rfl) ?_
  refine' wbk [true,false,false,false,false,true,true,true,true] 56 trivial (fun wq hq=>?_) ?_;rotate_left
  · simp only [Z00]
    repeat (go_big_quiet_step (fail))
    exact wpQuiet_nil rfl
  refine wbr [false,true] (fuel:=5) (fun QB hQB hQX=>?_)
  simp only [Z00]
  go_wp2_with fail
  refine hQB.out _ _ trivial ?_
  refine' wbk [false,false,true,true] 56 trivial (fun wq hq=>?_) ?_;rotate_left
  · simp only [Z00]
    repeat (go_big_quiet_step (fail))
    exact wpQuiet_nil rfl
  refine wbr [false,false,false,false,true] (fuel:=2) (fun QB hQB hQX=>?_)
  simp only [Z00]
  go_wp2_with fail
  refine hQB.out _ _ trivial ?_
  refine wbr [false,false,false,false,false,false,false,false,false,true] (fuel:=1) (fun QB hQB hQX=>?_)
  simp only [Z00]
  go_wp2_with fail
  refine HC.out.mono ?_
  rintro e w' ⟨rfl,rfl⟩
  go_wp2_with fail
  refine hQB.out _ _ trivial ?_
  clear hQB hQX QB
  refine' wbk [false,false,false,false,false,false,false,false,false,false,true] 56 trivial (fun wq hq=>?_) ?_;rotate_left
  · simp only [Z00]
    repeat (go_big_quiet_step (fail))
    exact wpQuiet_nil rfl
  refine Z02 (by kernel_rfl) ?_ _
  clear h1
  have h1:=hd
  clear hd q pp HC
  generalize hW:W2.drew=W3 at h1 ⊢
  clear hW
  go_wp2_with fail
  rw [rounds_succ]
  have hb:=h1.blk
  have HNN:=(HN _ h1.drop)
  clear h1
  go_wp2_with (refine Z04 rfl 28 _ rfl gi _ _ rfl Tryz.isAgg28 _ Tryz.sizeOf28 hb rfl ?_)
  refine HNN.out.mono ?_
  rintro e w' ⟨rfl,h2⟩
  have H2:=hid h2
  clear h2 hb
  go_wp2_with fail
  go_ret
  exact ⟨rfl,H2.out⟩
set_option maxHeartbeats 4000000 in
theorem Z2v (hF:FormsAt w0) (ha:0≤a∧a < 8) (h:Hold w0 w R):Calls Tryz.prog 76 #[(InsR.mk 1 a 0 0 imm).val] w fun e w'=>e = .returned (.int .i64 0)∧Hold w0 w' R:=by
  have H1:=hid (h.newBlk (t:=28) (cs:=#[.int .i64 1,.int .i64 a,.int .i64 0,.int .i64 0,.int .i64 imm]))
  have HF:=hid hF
  have HN:∀ w',Hold w0 w' R→Hid (Calls Tryz.prog 130 #[(InsR.mk 1 a 0 0 imm).val] w' fun e w'=>e = .returned (.bool true)∧Hold w0 w' R):=fun w' h=>hid (Zbc ha h)
  have ea1:decide (a < 0)=false:=decide_eq_false (by omega)
  have ea2:decide (8≤a)=false:=decide_eq_false (by omega)
  have ea3:decide (a ≥ 8)=false:=decide_eq_false (by omega)
  have i0:∀ w,(Instr.index 22 (.agg #[.int .i64 a,.int .i64 0,.int .i64 0]) (.int .i64 0)).run Tryz.prog w = .ok (.int .i64 a) w:=fun _=>by kernel_rfl
  have i1:∀ w,(Instr.index 22 (.agg #[.int .i64 a,.int .i64 0,.int .i64 0]) (.int .i64 1)).run Tryz.prog w = .ok (.int .i64 0) w:=fun _=>by kernel_rfl
  have i2:∀ w,(Instr.index 22 (.agg #[.int .i64 a,.int .i64 0,.int .i64 0]) (.int .i64 2)).run Tryz.prog w = .ok (.int .i64 0) w:=fun _=>by kernel_rfl
  clear h hF
  go_enter Tryz.func76,Tryz.ntmps76
  go_upto_region 3 with fail
  have h1:=H1.out
  generalize hW:w.alloc _=W at h1 ⊢
  generalize w.heap.size=gi at h1 ⊢
  clear hW H1
  have p0:W.cell? ⟨gi,0,none⟩=some (.int .i64 1):=h1.blk.some_ (i:=0) rfl
  have p1:W.cell? ⟨gi,1,none⟩=some (.int .i64 a):=h1.blk.some_ (i:=1) rfl
  have p2:W.cell? ⟨gi,2,none⟩=some (.int .i64 0):=h1.blk.some_ (i:=2) rfl
  have p3:W.cell? ⟨gi,3,none⟩=some (.int .i64 0):=h1.blk.some_ (i:=3) rfl
  go_wp2_with fail
  refine wp_loop_rounds 4 ?_
  rw [rounds_succ]
  go_upto_region 6 with fail
  have hd:=h1.drew
  have q:W.drew.cell? ⟨0,3,none⟩=some (.string ⟨#[65,73]⟩):=hd.old HF.out.f1
  have pp:W.drew.cell? ⟨gi,0,none⟩=some (.int .i64 1):=hd.blk.some_ (i:=0) rfl
  have HC:Hid (Calls Tryz.prog 129 #[.string ⟨#[65,73]⟩,.string ⟨#[65]⟩] W.drew fun e w'=>e = .returned (.bool true)∧W.drew=w'):=hid ((Any.strings_Contains_one Z0z ⟨#[65,73]⟩ 65 W.drew).mono (by rintro e w' ⟨rfl,rfl⟩;exact ⟨by rfl,rfl⟩))
  refine Z01 [] (by kernel_rfl) ?_
  refine' wbk [true,false,false,false,false,true,true,true,true] 56 trivial (fun wq hq=>?_) ?_;rotate_left
  · simp only [Z00]
    repeat (go_big_quiet_step (fail))
    exact wpQuiet_nil rfl
  refine wbr [false,true] (fuel:=5) (fun QB hQB hQX=>?_)
  simp only [Z00]
  go_wp2_with fail
  refine hQB.out _ _ trivial ?_
  refine' wbk [false,false,true,true] 56 trivial (fun wq hq=>?_) ?_;rotate_left
  · simp only [Z00]
    repeat (go_big_quiet_step (fail))
    exact wpQuiet_nil rfl
  refine wbr [false,false,false,false,true] (fuel:=2) (fun QB hQB hQX=>?_)
  simp only [Z00]
  go_wp2_with fail
  refine hQB.out _ _ trivial ?_
  refine wbr [false,false,false,false,false,false,false,false,false,true] (fuel:=1) (fun QB hQB hQX=>?_)
  simp only [Z00]
  go_wp2_with fail
  refine HC.out.mono ?_
  rintro e w' ⟨rfl,rfl⟩
  go_wp2_with fail
  refine hQB.out _ _ trivial ?_
  clear hQB hQX QB
  refine' wbk [false,false,false,false,false,false,false,false,false,false,true] 56 trivial (fun wq hq=>?_) ?_;rotate_left
  · simp only [Z00]
    repeat (go_big_quiet_step (fail))
    exact wpQuiet_nil rfl
  refine Z02 (by kernel_rfl) ?_ _
  clear h1
  have h1:=hd
  clear hd q pp HC
  generalize hW:W.drew=W1 at h1 ⊢
  clear hW
  go_wp2_with fail
  rw [rounds_succ]
  go_upto_region 6 with fail
  have hd:=h1.drew
  have q:W1.drew.cell? ⟨0,3,none⟩=some (.string ⟨#[65,73]⟩):=hd.old HF.out.f1
  have pp:W1.drew.cell? ⟨gi,0,none⟩=some (.int .i64 1):=hd.blk.some_ (i:=0) rfl
  have HC:Hid (Calls Tryz.prog 129 #[.string ⟨#[65,73]⟩,.string ⟨#[66]⟩] W1.drew fun e w'=>e = .returned (.bool false)∧W1.drew=w'):=hid ((Any.strings_Contains_one Z0z ⟨#[65,73]⟩ 66 W1.drew).mono (by rintro e w' ⟨rfl,rfl⟩;exact ⟨by rfl,rfl⟩))
  refine Z01 [] (by kernel_rfl) ?_
  refine' wbk [true,false,false,false,false,true,true,true,true] 56 trivial (fun wq hq=>?_) ?_;rotate_left
  · simp only [Z00]
    repeat (go_big_quiet_step (fail))
    exact wpQuiet_nil rfl
  refine wbr [false,true] (fuel:=5) (fun QB hQB hQX=>?_)
  simp only [Z00]
  go_wp2_with fail
  refine hQB.out _ _ trivial ?_
  refine' wbk [false,false,true,true] 56 trivial (fun wq hq=>?_) ?_;rotate_left
  · simp only [Z00]
    repeat (go_big_quiet_step (fail))
    exact wpQuiet_nil rfl
  refine wbr [false,false,false,false,true] (fuel:=2) (fun QB hQB hQX=>?_)
  simp only [Z00]
  go_wp2_with fail
  refine hQB.out _ _ trivial ?_
  refine wbr [false,false,false,false,false,false,false,false,false,true] (fuel:=1) (fun QB hQB hQX=>?_)
  simp only [Z00]
  go_wp2_with fail
  refine HC.out.mono ?_
  rintro e w' ⟨rfl,rfl⟩
  go_wp2_with fail
  refine hQB.out _ _ trivial ?_
  clear hQB hQX QB
  refine' wbk [false,false,false,false,false,false,false,false,false,false,true] 56 trivial (fun wq hq=>?_) ?_;rotate_left
  · simp only [Z00]
    repeat (go_big_quiet_step (fail))
    exact wpQuiet_nil rfl
  refine Z02 (by kernel_rfl) ?_ _
  clear h1
  have h1:=hd
  clear hd q pp HC
  generalize hW:W1.drew=W2 at h1 ⊢
  clear hW
  go_wp2_with fail
  rw [rounds_succ]
  go_upto_region 6 with fail
  have hd:=h1.drew
  have q:W2.drew.cell? ⟨0,3,none⟩=some (.string ⟨#[65,73]⟩):=hd.old HF.out.f1
  have pp:W2.drew.cell? ⟨gi,0,none⟩=some (.int .i64 1):=hd.blk.some_ (i:=0) rfl
  have HC:Hid (Calls Tryz.prog 129 #[.string ⟨#[65,73]⟩,.string ⟨#[67]⟩] W2.drew fun e w'=>e = .returned (.bool false)∧W2.drew=w'):=hid ((Any.strings_Contains_one Z0z ⟨#[65,73]⟩ 67 W2.drew).mono (by rintro e w' ⟨rfl,rfl⟩;exact ⟨by rfl,rfl⟩))
  refine Z01 [] (by kernel_rfl) ?_
  refine' wbk [true,false,false,false,false,true,true,true,true] 56 trivial (fun wq hq=>?_) ?_;rotate_left
  · simp only [Z00]
    repeat (go_big_quiet_step (fail))
    exact wpQuiet_nil rfl
  refine wbr [false,true] (fuel:=5) (fun QB hQB hQX=>?_)
  simp only [Z00]
  go_wp2_with fail
  refine hQB.out _ _ trivial ?_
  refine' wbk [false,false,true,true] 56 trivial (fun wq hq=>?_) ?_;rotate_left
  · simp only [Z00]
    repeat (go_big_quiet_step (fail))
    exact wpQuiet_nil rfl
  refine wbr [false,false,false,false,true] (fuel:=2) (fun QB hQB hQX=>?_)
  simp only [Z00]
  go_wp2_with fail
  refine hQB.out _ _ trivial ?_
  refine wbr [false,false,false,false,false,false,false,false,false,true] (fuel:=1) (fun QB hQB hQX=>?_)
  simp only [Z00]
  go_wp2_with fail
  refine HC.out.mono ?_
  rintro e w' ⟨rfl,rfl⟩
  go_wp2_with fail
  refine hQB.out _ _ trivial ?_
  clear hQB hQX QB
  refine' wbk [false,false,false,false,false,false,false,false,false,false,true] 56 trivial (fun wq hq=>?_) ?_;rotate_left
  · simp only [Z00]
    repeat (go_big_quiet_step (fail))
    exact wpQuiet_nil rfl
  refine Z02 (by kernel_rfl) ?_ _
  clear h1
  have h1:=hd
  clear hd q pp HC
  generalize hW:W2.drew=W3 at h1 ⊢
  clear hW
  go_wp2_with fail
  rw [rounds_succ]
  have hb:=h1.blk
  have HNN:=(HN _ h1.drop)
  clear h1
  go_wp2_with (refine Z04 rfl 28 _ rfl gi _ _ rfl Tryz.isAgg28 _ Tryz.sizeOf28 hb rfl ?_)
  refine HNN.out.mono ?_
  rintro e w' ⟨rfl,h2⟩
  have H2:=hid h2
  clear h2 hb
  go_wp2_with fail
  go_ret
  exact ⟨rfl,H2.out⟩
set_option maxHeartbeats 4000000 in
theorem Z2u (hF:FormsAt w0) (ha:0≤a∧a < 8) (hb:0≤b∧b < 8) (hc:0≤c∧c < 8) (hi:0≤imm∧imm < 22) (h:Hold w0 w R):Calls Tryz.prog 76 #[(InsR.mk 3 a b c imm).val] w fun e w'=>e = .returned (.int .i64 0)∧Hold w0 w' R:=by
  have H1:=hid (h.newBlk (t:=28) (cs:=#[.int .i64 3,.int .i64 a,.int .i64 b,.int .i64 c,.int .i64 imm]))
  have HF:=hid hF
  have HN:∀ w',Hold w0 w' R→Hid (Calls Tryz.prog 130 #[(InsR.mk 3 a b c imm).val] w' fun e w'=>e = .returned (.bool true)∧Hold w0 w' R):=fun w' h=>hid (Zbb ha hb hc hi h)
  have ea1:decide (a < 0)=false:=decide_eq_false (by omega)
  have ea2:decide (8≤a)=false:=decide_eq_false (by omega)
  have ea3:decide (a ≥ 8)=false:=decide_eq_false (by omega)
  have eb1:decide (b < 0)=false:=decide_eq_false (by omega)
  have eb2:decide (8≤b)=false:=decide_eq_false (by omega)
  have eb3:decide (b ≥ 8)=false:=decide_eq_false (by omega)
  have ec1:decide (c < 0)=false:=decide_eq_false (by omega)
  have ec2:decide (8≤c)=false:=decide_eq_false (by omega)
  have ec3:decide (c ≥ 8)=false:=decide_eq_false (by omega)
  have ei1:decide (imm ≥ 0)=true:=decide_eq_true (by omega)
  have ei2:decide (imm < 22)=true:=decide_eq_true (by omega)
  have ei3:decide (0≤imm)=true:=decide_eq_true (by omega)
  have i0:∀ w,(Instr.index 22 (.agg #[.int .i64 a,.int .i64 b,.int .i64 c]) (.int .i64 0)).run Tryz.prog w = .ok (.int .i64 a) w:=fun _=>by kernel_rfl
  have i1:∀ w,(Instr.index 22 (.agg #[.int .i64 a,.int .i64 b,.int .i64 c]) (.int .i64 1)).run Tryz.prog w = .ok (.int .i64 b) w:=fun _=>by kernel_rfl
  have i2:∀ w,(Instr.index 22 (.agg #[.int .i64 a,.int .i64 b,.int .i64 c]) (.int .i64 2)).run Tryz.prog w = .ok (.int .i64 c) w:=fun _=>by kernel_rfl
  clear h hF
  go_enter Tryz.func76,Tryz.ntmps76
  go_upto_region 3 with fail
  have h1:=H1.out
  generalize hW:w.alloc _=W at h1 ⊢
  generalize w.heap.size=gi at h1 ⊢
  clear hW H1
  have p0:W.cell? ⟨gi,0,none⟩=some (.int .i64 3):=h1.blk.some_ (i:=0) rfl
  have p1:W.cell? ⟨gi,1,none⟩=some (.int .i64 a):=h1.blk.some_ (i:=1) rfl
  have p2:W.cell? ⟨gi,2,none⟩=some (.int .i64 b):=h1.blk.some_ (i:=2) rfl
  have p3:W.cell? ⟨gi,3,none⟩=some (.int .i64 c):=h1.blk.some_ (i:=3) rfl
  go_wp2_with fail
  refine wp_loop_rounds 4 ?_
  rw [rounds_succ]
  go_upto_region 6 with fail
  have hd:=h1.drew
  have q:W.drew.cell? ⟨0,7,none⟩=some (.string ⟨#[65,66,67]⟩):=hd.old HF.out.f3
  have pp:W.drew.cell? ⟨gi,0,none⟩=some (.int .i64 3):=hd.blk.some_ (i:=0) rfl
  have HC:Hid (Calls Tryz.prog 129 #[.string ⟨#[65,66,67]⟩,.string ⟨#[65]⟩] W.drew fun e w'=>e = .returned (.bool true)∧W.drew=w'):=hid ((Any.strings_Contains_one Z0z ⟨#[65,66,67]⟩ 65 W.drew).mono (by rintro e w' ⟨rfl,rfl⟩;exact ⟨by rfl,rfl⟩))
  refine Z01 [] (by kernel_rfl) ?_
  refine' wbk [true,false,false,false,false,true,true,true,true] 56 trivial (fun wq hq=>?_) ?_;rotate_left
  · simp only [Z00]
    repeat (go_big_quiet_step (fail))
    exact wpQuiet_nil rfl
  refine wbr [false,true] (fuel:=5) (fun QB hQB hQX=>?_)
  simp only [Z00]
  go_wp2_with fail
  refine hQB.out _ _ trivial ?_
  refine' wbk [false,false,true,true] 56 trivial (fun wq hq=>?_) ?_;rotate_left
  · simp only [Z00]
    repeat (go_big_quiet_step (fail))
    exact wpQuiet_nil rfl
  refine wbr [false,false,false,false,true] (fuel:=2) (fun QB hQB hQX=>?_)
  simp only [Z00]
  go_wp2_with fail
  refine hQB.out _ _ trivial ?_
  refine wbr [false,false,false,false,false,false,false,false,false,true] (fuel:=1) (fun QB hQB hQX=>?_)
  simp only [Z00]
  go_wp2_with fail
  refine HC.out.mono ?_
  rintro e w' ⟨rfl,rfl⟩
  go_wp2_with fail
  refine hQB.out _ _ trivial ?_
  clear hQB hQX QB
  refine' wbk [false,false,false,false,false,false,false,false,false,false,true] 56 trivial (fun wq hq=>?_) ?_;rotate_left
  · simp only [Z00]
    repeat (go_big_quiet_step (fail))
    exact wpQuiet_nil rfl
  refine Z02 (by kernel_rfl) ?_ _
  clear h1
  have h1:=hd
  clear hd q pp HC
  generalize hW:W.drew=W1 at h1 ⊢
  clear hW
  go_wp2_with fail
  rw [rounds_succ]
  go_upto_region 6 with fail
  have hd:=h1.drew
  have q:W1.drew.cell? ⟨0,7,none⟩=some (.string ⟨#[65,66,67]⟩):=hd.old HF.out.f3
  have pp:W1.drew.cell? ⟨gi,0,none⟩=some (.int .i64 3):=hd.blk.some_ (i:=0) rfl
  have HC:Hid (Calls Tryz.prog 129 #[.string ⟨#[65,66,67]⟩,.string ⟨#[66]⟩] W1.drew fun e w'=>e = .returned (.bool true)∧W1.drew=w'):=hid ((Any.strings_Contains_one Z0z ⟨#[65,66,67]⟩ 66 W1.drew).mono (by rintro e w' ⟨rfl,rfl⟩;exact ⟨by rfl,rfl⟩))
  refine Z01 [] (by kernel_rfl) ?_
  refine' wbk [true,false,false,false,false,true,true,true,true] 56 trivial (fun wq hq=>?_) ?_;rotate_left
  · simp only [Z00]
    repeat (go_big_quiet_step (fail))
    exact wpQuiet_nil rfl
  refine wbr [false,true] (fuel:=5) (fun QB hQB hQX=>?_)
  simp only [Z00]
  go_wp2_with fail
  refine hQB.out _ _ trivial ?_
  refine' wbk [false,false,true,true] 56 trivial (fun wq hq=>?_) ?_;rotate_left
  · simp only [Z00]
    repeat (go_big_quiet_step (fail))
    exact wpQuiet_nil rfl
  refine wbr [false,false,false,false,true] (fuel:=2) (fun QB hQB hQX=>?_)
  simp only [Z00]
  go_wp2_with fail
  refine hQB.out _ _ trivial ?_
  refine wbr [false,false,false,false,false,false,false,false,false,true] (fuel:=1) (fun QB hQB hQX=>?_)
  simp only [Z00]
  go_wp2_with fail
  refine HC.out.mono ?_
  rintro e w' ⟨rfl,rfl⟩
  go_wp2_with fail
  refine hQB.out _ _ trivial ?_
  clear hQB hQX QB
  refine' wbk [false,false,false,false,false,false,false,false,false,false,true] 56 trivial (fun wq hq=>?_) ?_;rotate_left
  · simp only [Z00]
    repeat (go_big_quiet_step (fail))
    exact wpQuiet_nil rfl
  refine Z02 (by kernel_rfl) ?_ _
  clear h1
  have h1:=hd
  clear hd q pp HC
  generalize hW:W1.drew=W2 at h1 ⊢
  clear hW
  go_wp2_with fail
  rw [rounds_succ]
  go_upto_region 6 with fail
  have hd:=h1.drew
  have q:W2.drew.cell? ⟨0,7,none⟩=some (.string ⟨#[65,66,67]⟩):=hd.old HF.out.f3
  have pp:W2.drew.cell? ⟨gi,0,none⟩=some (.int .i64 3):=hd.blk.some_ (i:=0) rfl
  have HC:Hid (Calls Tryz.prog 129 #[.string ⟨#[65,66,67]⟩,.string ⟨#[67]⟩] W2.drew fun e w'=>e = .returned (.bool true)∧W2.drew=w'):=hid ((Any.strings_Contains_one Z0z ⟨#[65,66,67]⟩ 67 W2.drew).mono (by rintro e w' ⟨rfl,rfl⟩;exact ⟨by rfl,rfl⟩))
  refine Z01 [] (by kernel_rfl) ?_
  refine' wbk [true,false,false,false,false,true,true,true,true] 56 trivial (fun wq hq=>?_) ?_;rotate_left
  · simp only [Z00]
    repeat (go_big_quiet_step (fail))
    exact wpQuiet_nil rfl
  refine wbr [false,true] (fuel:=5) (fun QB hQB hQX=>?_)
  simp only [Z00]
  go_wp2_with fail
  refine hQB.out _ _ trivial ?_
  refine' wbk [false,false,true,true] 56 trivial (fun wq hq=>?_) ?_;rotate_left
  · simp only [Z00]
    repeat (go_big_quiet_step (fail))
    exact wpQuiet_nil rfl
  refine wbr [false,false,false,false,true] (fuel:=2) (fun QB hQB hQX=>?_)
  simp only [Z00]
  go_wp2_with fail
  refine hQB.out _ _ trivial ?_
  refine wbr [false,false,false,false,false,false,false,false,false,true] (fuel:=1) (fun QB hQB hQX=>?_)
  simp only [Z00]
  go_wp2_with fail
  refine HC.out.mono ?_
  rintro e w' ⟨rfl,rfl⟩
  go_wp2_with fail
  refine hQB.out _ _ trivial ?_
  clear hQB hQX QB
  refine' wbk [false,false,false,false,false,false,false,false,false,false,true] 56 trivial (fun wq hq=>?_) ?_;rotate_left
  · simp only [Z00]
    repeat (go_big_quiet_step (fail))
    exact wpQuiet_nil rfl
  refine Z02 (by kernel_rfl) ?_ _
  clear h1
  have h1:=hd
  clear hd q pp HC
  generalize hW:W2.drew=W3 at h1 ⊢
  clear hW
  go_wp2_with fail
  rw [rounds_succ]
  have hb:=h1.blk
  have HNN:=(HN _ h1.drop)
  clear h1
  go_wp2_with (refine Z04 rfl 28 _ rfl gi _ _ rfl Tryz.isAgg28 _ Tryz.sizeOf28 hb rfl ?_)
  refine HNN.out.mono ?_
  rintro e w' ⟨rfl,h2⟩
  have H2:=hid h2
  clear h2 hb
  go_wp2_with fail
  go_ret
  exact ⟨rfl,H2.out⟩
set_option maxHeartbeats 4000000 in
theorem Z2t (hF:FormsAt w0) (hi:1≤imm∧imm≤8) (h:Hold w0 w R):Calls Tryz.prog 76 #[(InsR.mk 7 0 0 0 imm).val] w fun e w'=>e = .returned (.int .i64 0)∧Hold w0 w' R:=by
  have H1:=hid (h.newBlk (t:=28) (cs:=#[.int .i64 7,.int .i64 0,.int .i64 0,.int .i64 0,.int .i64 imm]))
  have HF:=hid hF
  have HN:∀ w',Hold w0 w' R→Hid (Calls Tryz.prog 130 #[(InsR.mk 7 0 0 0 imm).val] w' fun e w'=>e = .returned (.bool true)∧Hold w0 w' R):=fun w' h=>hid (Zba  hi h)
  have ei1:decide (imm ≥ 1)=true:=decide_eq_true (by omega)
  have ei2:decide (imm≤8)=true:=decide_eq_true (by omega)
  have ei3:decide (1≤imm)=true:=decide_eq_true (by omega)
  have i0:∀ w,(Instr.index 22 (.agg #[.int .i64 0,.int .i64 0,.int .i64 0]) (.int .i64 0)).run Tryz.prog w = .ok (.int .i64 0) w:=fun _=>by kernel_rfl
  have i1:∀ w,(Instr.index 22 (.agg #[.int .i64 0,.int .i64 0,.int .i64 0]) (.int .i64 1)).run Tryz.prog w = .ok (.int .i64 0) w:=fun _=>by kernel_rfl
  have i2:∀ w,(Instr.index 22 (.agg #[.int .i64 0,.int .i64 0,.int .i64 0]) (.int .i64 2)).run Tryz.prog w = .ok (.int .i64 0) w:=fun _=>by kernel_rfl
  clear h hF
  go_enter Tryz.func76,Tryz.ntmps76
  go_upto_region 3 with fail
  have h1:=H1.out
  generalize hW:w.alloc _=W at h1 ⊢
  generalize w.heap.size=gi at h1 ⊢
  clear hW H1
  have p0:W.cell? ⟨gi,0,none⟩=some (.int .i64 7):=h1.blk.some_ (i:=0) rfl
  have p1:W.cell? ⟨gi,1,none⟩=some (.int .i64 0):=h1.blk.some_ (i:=1) rfl
  have p2:W.cell? ⟨gi,2,none⟩=some (.int .i64 0):=h1.blk.some_ (i:=2) rfl
  have p3:W.cell? ⟨gi,3,none⟩=some (.int .i64 0):=h1.blk.some_ (i:=3) rfl
  go_wp2_with fail
  refine wp_loop_rounds 4 ?_
  rw [rounds_succ]
  go_upto_region 6 with fail
  have hd:=h1.drew
  have q:W.drew.cell? ⟨0,15,none⟩=some (.string ⟨#[73]⟩):=hd.old HF.out.f7
  have pp:W.drew.cell? ⟨gi,0,none⟩=some (.int .i64 7):=hd.blk.some_ (i:=0) rfl
  have HC:Hid (Calls Tryz.prog 129 #[.string ⟨#[73]⟩,.string ⟨#[65]⟩] W.drew fun e w'=>e = .returned (.bool false)∧W.drew=w'):=hid ((Any.strings_Contains_one Z0z ⟨#[73]⟩ 65 W.drew).mono (by rintro e w' ⟨rfl,rfl⟩;exact ⟨by rfl,rfl⟩))
  refine Z01 [] (by kernel_rfl) ?_
  refine' wbk [true,false,false,false,false,true,true,true,true] 56 trivial (fun wq hq=>?_) ?_;rotate_left
  · simp only [Z00]
    repeat (go_big_quiet_step (fail))
    exact wpQuiet_nil rfl
  refine wbr [false,true] (fuel:=5) (fun QB hQB hQX=>?_)
  simp only [Z00]
  go_wp2_with fail
  refine hQB.out _ _ trivial ?_
  refine' wbk [false,false,true,true] 56 trivial (fun wq hq=>?_) ?_;rotate_left
  · simp only [Z00]
    repeat (go_big_quiet_step (fail))
    exact wpQuiet_nil rfl
  refine wbr [false,false,false,false,true] (fuel:=2) (fun QB hQB hQX=>?_)
  simp only [Z00]
  go_wp2_with fail
  refine hQB.out _ _ trivial ?_
  refine wbr [false,false,false,false,false,false,false,false,false,true] (fuel:=1) (fun QB hQB hQX=>?_)
  simp only [Z00]
  go_wp2_with fail
  refine HC.out.mono ?_
  rintro e w' ⟨rfl,rfl⟩
  go_wp2_with fail
  refine hQB.out _ _ trivial ?_
  clear hQB hQX QB
  refine' wbk [false,false,false,false,false,false,false,false,false,false,true] 56 trivial (fun wq hq=>?_) ?_;rotate_left
  · simp only [Z00]
    repeat (go_big_quiet_step (fail))
    exact wpQuiet_nil rfl
  refine Z02 (by kernel_rfl) ?_ _
  clear h1
  have h1:=hd
  clear hd q pp HC
  generalize hW:W.drew=W1 at h1 ⊢
  clear hW
  go_wp2_with fail
  rw [rounds_succ]
  go_upto_region 6 with fail
  have hd:=h1.drew
  have q:W1.drew.cell? ⟨0,15,none⟩=some (.string ⟨#[73]⟩):=hd.old HF.out.f7
  have pp:W1.drew.cell? ⟨gi,0,none⟩=some (.int .i64 7):=hd.blk.some_ (i:=0) rfl
  have HC:Hid (Calls Tryz.prog 129 #[.string ⟨#[73]⟩,.string ⟨#[66]⟩] W1.drew fun e w'=>e = .returned (.bool false)∧W1.drew=w'):=hid ((Any.strings_Contains_one Z0z ⟨#[73]⟩ 66 W1.drew).mono (by rintro e w' ⟨rfl,rfl⟩;exact ⟨by rfl,rfl⟩))
  refine Z01 [] (by kernel_rfl) ?_
  refine' wbk [true,false,false,false,false,true,true,true,true] 56 trivial (fun wq hq=>?_) ?_;rotate_left
  · simp only [Z00]
    repeat (go_big_quiet_step (fail))
    exact wpQuiet_nil rfl
  refine wbr [false,true] (fuel:=5) (fun QB hQB hQX=>?_)
  simp only [Z00]
  go_wp2_with fail
  refine hQB.out _ _ trivial ?_
  refine' wbk [false,false,true,true] 56 trivial (fun wq hq=>?_) ?_;rotate_left
  · simp only [Z00]
    repeat (go_big_quiet_step (fail))
    exact wpQuiet_nil rfl
  refine wbr [false,false,false,false,true] (fuel:=2) (fun QB hQB hQX=>?_)
  simp only [Z00]
  go_wp2_with fail
  refine hQB.out _ _ trivial ?_
  refine wbr [false,false,false,false,false,false,false,false,false,true] (fuel:=1) (fun QB hQB hQX=>?_)
  simp only [Z00]
  go_wp2_with fail
  refine HC.out.mono ?_
  rintro e w' ⟨rfl,rfl⟩
  go_wp2_with fail
  refine hQB.out _ _ trivial ?_
  clear hQB hQX QB
  refine' wbk [false,false,false,false,false,false,false,false,false,false,true] 56 trivial (fun wq hq=>?_) ?_;rotate_left
  · simp only [Z00]
    repeat (go_big_quiet_step (fail))
    exact wpQuiet_nil rfl
  refine Z02 (by kernel_rfl) ?_ _
  clear h1
  have h1:=hd
  clear hd q pp HC
  generalize hW:W1.drew=W2 at h1 ⊢
  clear hW
  go_wp2_with fail
  rw [rounds_succ]
  go_upto_region 6 with fail
  have hd:=h1.drew
  have q:W2.drew.cell? ⟨0,15,none⟩=some (.string ⟨#[73]⟩):=hd.old HF.out.f7
  have pp:W2.drew.cell? ⟨gi,0,none⟩=some (.int .i64 7):=hd.blk.some_ (i:=0) rfl
  have HC:Hid (Calls Tryz.prog 129 #[.string ⟨#[73]⟩,.string ⟨#[67]⟩] W2.drew fun e w'=>e = .returned (.bool false)∧W2.drew=w'):=hid ((Any.strings_Contains_one Z0z ⟨#[73]⟩ 67 W2.drew).mono (by rintro e w' ⟨rfl,rfl⟩;exact ⟨by rfl,rfl⟩))
  refine Z01 [] (by kernel_rfl) ?_
  refine' wbk [true,false,false,false,false,true,true,true,true] 56 trivial (fun wq hq=>?_) ?_;rotate_left
  · simp only [Z00]
    repeat (go_big_quiet_step (fail))
    exact wpQuiet_nil rfl
  refine wbr [false,true] (fuel:=5) (fun QB hQB hQX=>?_)
  simp only [Z00]
  go_wp2_with fail
  refine hQB.out _ _ trivial ?_
  refine' wbk [false,false,true,true] 56 trivial (fun wq hq=>?_) ?_;rotate_left
  · simp only [Z00]
    repeat (go_big_quiet_step (fail))
    exact wpQuiet_nil rfl
  refine wbr [false,false,false,false,true] (fuel:=2) (fun QB hQB hQX=>?_)
  simp only [Z00]
  go_wp2_with fail
  refine hQB.out _ _ trivial ?_
  refine wbr [false,false,false,false,false,false,false,false,false,true] (fuel:=1) (fun QB hQB hQX=>?_)
  simp only [Z00]
  go_wp2_with fail
  refine HC.out.mono ?_
  rintro e w' ⟨rfl,rfl⟩
  go_wp2_with fail
  refine hQB.out _ _ trivial ?_
  clear hQB hQX QB
  refine' wbk [false,false,false,false,false,false,false,false,false,false,true] 56 trivial (fun wq hq=>?_) ?_;rotate_left
  · simp only [Z00]
    repeat (go_big_quiet_step (fail))
    exact wpQuiet_nil rfl
  refine Z02 (by kernel_rfl) ?_ _
  clear h1
  have h1:=hd
  clear hd q pp HC
  generalize hW:W2.drew=W3 at h1 ⊢
  clear hW
  go_wp2_with fail
  rw [rounds_succ]
  have hb:=h1.blk
  have HNN:=(HN _ h1.drop)
  clear h1
  go_wp2_with (refine Z04 rfl 28 _ rfl gi _ _ rfl Tryz.isAgg28 _ Tryz.sizeOf28 hb rfl ?_)
  refine HNN.out.mono ?_
  rintro e w' ⟨rfl,h2⟩
  have H2:=hid h2
  clear h2 hb
  go_wp2_with fail
  go_ret
  exact ⟨rfl,H2.out⟩
set_option maxHeartbeats 4000000 in
theorem Z2s (hF:FormsAt w0)  (h:Hold w0 w R):Calls Tryz.prog 76 #[(InsR.mk 8 0 0 0 0).val] w fun e w'=>e = .returned (.int .i64 0)∧Hold w0 w' R:=by
  have H1:=hid (h.newBlk (t:=28) (cs:=#[.int .i64 8,.int .i64 0,.int .i64 0,.int .i64 0,.int .i64 0]))
  have HF:=hid hF
  have HN:∀ w',Hold w0 w' R→Hid (Calls Tryz.prog 130 #[(InsR.mk 8 0 0 0 0).val] w' fun e w'=>e = .returned (.bool true)∧Hold w0 w' R):=fun w' h=>hid (Zb9  h)
  have i0:∀ w,(Instr.index 22 (.agg #[.int .i64 0,.int .i64 0,.int .i64 0]) (.int .i64 0)).run Tryz.prog w = .ok (.int .i64 0) w:=fun _=>by kernel_rfl
  have i1:∀ w,(Instr.index 22 (.agg #[.int .i64 0,.int .i64 0,.int .i64 0]) (.int .i64 1)).run Tryz.prog w = .ok (.int .i64 0) w:=fun _=>by kernel_rfl
  have i2:∀ w,(Instr.index 22 (.agg #[.int .i64 0,.int .i64 0,.int .i64 0]) (.int .i64 2)).run Tryz.prog w = .ok (.int .i64 0) w:=fun _=>by kernel_rfl
  clear h hF
  go_enter Tryz.func76,Tryz.ntmps76
  go_upto_region 3 with fail
  have h1:=H1.out
  generalize hW:w.alloc _=W at h1 ⊢
  generalize w.heap.size=gi at h1 ⊢
  clear hW H1
  have p0:W.cell? ⟨gi,0,none⟩=some (.int .i64 8):=h1.blk.some_ (i:=0) rfl
  have p1:W.cell? ⟨gi,1,none⟩=some (.int .i64 0):=h1.blk.some_ (i:=1) rfl
  have p2:W.cell? ⟨gi,2,none⟩=some (.int .i64 0):=h1.blk.some_ (i:=2) rfl
  have p3:W.cell? ⟨gi,3,none⟩=some (.int .i64 0):=h1.blk.some_ (i:=3) rfl
  go_wp2_with fail
  refine wp_loop_rounds 4 ?_
  rw [rounds_succ]
  go_upto_region 6 with fail
  have hd:=h1.drew
  have q:W.drew.cell? ⟨0,17,none⟩=some (.string ⟨#[]⟩):=hd.old HF.out.f8
  have pp:W.drew.cell? ⟨gi,0,none⟩=some (.int .i64 8):=hd.blk.some_ (i:=0) rfl
  have HC:Hid (Calls Tryz.prog 129 #[.string ⟨#[]⟩,.string ⟨#[65]⟩] W.drew fun e w'=>e = .returned (.bool false)∧W.drew=w'):=hid ((Any.strings_Contains_one Z0z ⟨#[]⟩ 65 W.drew).mono (by rintro e w' ⟨rfl,rfl⟩;exact ⟨by rfl,rfl⟩))
  refine Z01 [] (by kernel_rfl) ?_
  refine' wbk [true,false,false,false,false,true,true,true,true] 56 trivial (fun wq hq=>?_) ?_;rotate_left
  · simp only [Z00]
    repeat (go_big_quiet_step (fail))
    exact wpQuiet_nil rfl
  refine wbr [false,true] (fuel:=5) (fun QB hQB hQX=>?_)
  simp only [Z00]
  go_wp2_with fail
  refine hQB.out _ _ trivial ?_
  refine' wbk [false,false,true,true] 56 trivial (fun wq hq=>?_) ?_;rotate_left
  · simp only [Z00]
    repeat (go_big_quiet_step (fail))
    exact wpQuiet_nil rfl
  refine wbr [false,false,false,false,true] (fuel:=2) (fun QB hQB hQX=>?_)
  simp only [Z00]
  go_wp2_with fail
  refine hQB.out _ _ trivial ?_
  refine wbr [false,false,false,false,false,false,false,false,false,true] (fuel:=1) (fun QB hQB hQX=>?_)
  simp only [Z00]
  go_wp2_with fail
  refine HC.out.mono ?_
  rintro e w' ⟨rfl,rfl⟩
  go_wp2_with fail
  refine hQB.out _ _ trivial ?_
  clear hQB hQX QB
  refine' wbk [false,false,false,false,false,false,false,false,false,false,true] 56 trivial (fun wq hq=>?_) ?_;rotate_left
  · simp only [Z00]
    repeat (go_big_quiet_step (fail))
    exact wpQuiet_nil rfl
  refine Z02 (by kernel_rfl) ?_ _
  clear h1
  have h1:=hd
  clear hd q pp HC
  generalize hW:W.drew=W1 at h1 ⊢
  clear hW
  go_wp2_with fail
  rw [rounds_succ]
  go_upto_region 6 with fail
  have hd:=h1.drew
  have q:W1.drew.cell? ⟨0,17,none⟩=some (.string ⟨#[]⟩):=hd.old HF.out.f8
  have pp:W1.drew.cell? ⟨gi,0,none⟩=some (.int .i64 8):=hd.blk.some_ (i:=0) rfl
  have HC:Hid (Calls Tryz.prog 129 #[.string ⟨#[]⟩,.string ⟨#[66]⟩] W1.drew fun e w'=>e = .returned (.bool false)∧W1.drew=w'):=hid ((Any.strings_Contains_one Z0z ⟨#[]⟩ 66 W1.drew).mono (by rintro e w' ⟨rfl,rfl⟩;exact ⟨by rfl,rfl⟩))
  refine Z01 [] (by kernel_rfl) ?_
  refine' wbk [true,false,false,false,false,true,true,true,true] 56 trivial (fun wq hq=>?_) ?_;rotate_left
  · simp only [Z00]
    repeat (go_big_quiet_step (fail))
    exact wpQuiet_nil rfl
  refine wbr [false,true] (fuel:=5) (fun QB hQB hQX=>?_)
  simp only [Z00]
  go_wp2_with fail
  refine hQB.out _ _ trivial ?_
  refine' wbk [false,false,true,true] 56 trivial (fun wq hq=>?_) ?_;rotate_left
  · simp only [Z00]
    repeat (go_big_quiet_step (fail))
    exact wpQuiet_nil rfl
  refine wbr [false,false,false,false,true] (fuel:=2) (fun QB hQB hQX=>?_)
  simp only [Z00]
  go_wp2_with fail
  refine hQB.out _ _ trivial ?_
  refine wbr [false,false,false,false,false,false,false,false,false,true] (fuel:=1) (fun QB hQB hQX=>?_)
  simp only [Z00]
  go_wp2_with fail
  refine HC.out.mono ?_
  rintro e w' ⟨rfl,rfl⟩
  go_wp2_with fail
  refine hQB.out _ _ trivial ?_
  clear hQB hQX QB
  refine' wbk [false,false,false,false,false,false,false,false,false,false,true] 56 trivial (fun wq hq=>?_) ?_;rotate_left
  · simp only [Z00]
    repeat (go_big_quiet_step (fail))
    exact wpQuiet_nil rfl
  refine Z02 (by kernel_rfl) ?_ _
  clear h1
  have h1:=hd
  clear hd q pp HC
  generalize hW:W1.drew=W2 at h1 ⊢
  clear hW
  go_wp2_with fail
  rw [rounds_succ]
  go_upto_region 6 with fail
  have hd:=h1.drew
  have q:W2.drew.cell? ⟨0,17,none⟩=some (.string ⟨#[]⟩):=hd.old HF.out.f8
  have pp:W2.drew.cell? ⟨gi,0,none⟩=some (.int .i64 8):=hd.blk.some_ (i:=0) rfl
  have HC:Hid (Calls Tryz.prog 129 #[.string ⟨#[]⟩,.string ⟨#[67]⟩] W2.drew fun e w'=>e = .returned (.bool false)∧W2.drew=w'):=hid ((Any.strings_Contains_one Z0z ⟨#[]⟩ 67 W2.drew).mono (by rintro e w' ⟨rfl,rfl⟩;exact ⟨by rfl,rfl⟩))
  refine Z01 [] (by kernel_rfl) ?_
  refine' wbk [true,false,false,false,false,true,true,true,true] 56 trivial (fun wq hq=>?_) ?_;rotate_left
  · simp only [Z00]
    repeat (go_big_quiet_step (fail))
    exact wpQuiet_nil rfl
  refine wbr [false,true] (fuel:=5) (fun QB hQB hQX=>?_)
  simp only [Z00]
  go_wp2_with fail
  refine hQB.out _ _ trivial ?_
  refine' wbk [false,false,true,true] 56 trivial (fun wq hq=>?_) ?_;rotate_left
  · simp only [Z00]
    repeat (go_big_quiet_step (fail))
    exact wpQuiet_nil rfl
  refine wbr [false,false,false,false,true] (fuel:=2) (fun QB hQB hQX=>?_)
  simp only [Z00]
  go_wp2_with fail
  refine hQB.out _ _ trivial ?_
  refine wbr [false,false,false,false,false,false,false,false,false,true] (fuel:=1) (fun QB hQB hQX=>?_)
  simp only [Z00]
  go_wp2_with fail
  refine HC.out.mono ?_
  rintro e w' ⟨rfl,rfl⟩
  go_wp2_with fail
  refine hQB.out _ _ trivial ?_
  clear hQB hQX QB
  refine' wbk [false,false,false,false,false,false,false,false,false,false,true] 56 trivial (fun wq hq=>?_) ?_;rotate_left
  · simp only [Z00]
    repeat (go_big_quiet_step (fail))
    exact wpQuiet_nil rfl
  refine Z02 (by kernel_rfl) ?_ _
  clear h1
  have h1:=hd
  clear hd q pp HC
  generalize hW:W2.drew=W3 at h1 ⊢
  clear hW
  go_wp2_with fail
  rw [rounds_succ]
  have hb:=h1.blk
  have HNN:=(HN _ h1.drop)
  clear h1
  go_wp2_with (refine Z04 rfl 28 _ rfl gi _ _ rfl Tryz.isAgg28 _ Tryz.sizeOf28 hb rfl ?_)
  refine HNN.out.mono ?_
  rintro e w' ⟨rfl,h2⟩
  have H2:=hid h2
  clear h2 hb
  go_wp2_with fail
  go_ret
  exact ⟨rfl,H2.out⟩
set_option maxHeartbeats 4000000 in
theorem Z23 (hF:FormsAt w0) (ha:0≤a∧a < 8) (hb:0≤b∧b < 8) (h:Hold w0 w R):Calls Tryz.prog 76 #[(InsR.mk 10 a b 0 imm).val] w fun e w'=>e = .returned (.int .i64 0)∧Hold w0 w' R:=by
  have H1:=hid (h.newBlk (t:=28) (cs:=#[.int .i64 10,.int .i64 a,.int .i64 b,.int .i64 0,.int .i64 imm]))
  have HF:=hid hF
  have HN:∀ w',Hold w0 w' R→Hid (Calls Tryz.prog 130 #[(InsR.mk 10 a b 0 imm).val] w' fun e w'=>e = .returned (.bool true)∧Hold w0 w' R):=fun w' h=>hid (Z9t ha hb h)
  have ea1:decide (a < 0)=false:=decide_eq_false (by omega)
  have ea2:decide (8≤a)=false:=decide_eq_false (by omega)
  have ea3:decide (a ≥ 8)=false:=decide_eq_false (by omega)
  have eb1:decide (b < 0)=false:=decide_eq_false (by omega)
  have eb2:decide (8≤b)=false:=decide_eq_false (by omega)
  have eb3:decide (b ≥ 8)=false:=decide_eq_false (by omega)
  have i0:∀ w,(Instr.index 22 (.agg #[.int .i64 a,.int .i64 b,.int .i64 0]) (.int .i64 0)).run Tryz.prog w = .ok (.int .i64 a) w:=fun _=>by kernel_rfl
  have i1:∀ w,(Instr.index 22 (.agg #[.int .i64 a,.int .i64 b,.int .i64 0]) (.int .i64 1)).run Tryz.prog w = .ok (.int .i64 b) w:=fun _=>by kernel_rfl
  have i2:∀ w,(Instr.index 22 (.agg #[.int .i64 a,.int .i64 b,.int .i64 0]) (.int .i64 2)).run Tryz.prog w = .ok (.int .i64 0) w:=fun _=>by kernel_rfl
  clear h hF
  go_enter Tryz.func76,Tryz.ntmps76
  go_upto_region 3 with fail
  have h1:=H1.out
  generalize hW:w.alloc _=W at h1 ⊢
  generalize w.heap.size=gi at h1 ⊢
  clear hW H1
  have p0:W.cell? ⟨gi,0,none⟩=some (.int .i64 10):=h1.blk.some_ (i:=0) rfl
  have p1:W.cell? ⟨gi,1,none⟩=some (.int .i64 a):=h1.blk.some_ (i:=1) rfl
  have p2:W.cell? ⟨gi,2,none⟩=some (.int .i64 b):=h1.blk.some_ (i:=2) rfl
  have p3:W.cell? ⟨gi,3,none⟩=some (.int .i64 0):=h1.blk.some_ (i:=3) rfl
  go_wp2_with fail
  refine wp_loop_rounds 4 ?_
  rw [rounds_succ]
  go_upto_region 6 with fail
  have hd:=h1.drew
  have q:W.drew.cell? ⟨0,21,none⟩=some (.string ⟨#[65,66,73]⟩):=hd.old HF.out.f10
  have pp:W.drew.cell? ⟨gi,0,none⟩=some (.int .i64 10):=hd.blk.some_ (i:=0) rfl
  have HC:Hid (Calls Tryz.prog 129 #[.string ⟨#[65,66,73]⟩,.string ⟨#[65]⟩] W.drew fun e w'=>e = .returned (.bool true)∧W.drew=w'):=hid ((Any.strings_Contains_one Z0z ⟨#[65,66,73]⟩ 65 W.drew).mono (by rintro e w' ⟨rfl,rfl⟩;exact ⟨by rfl,rfl⟩))
  refine Z01 [] (by kernel_rfl) ?_
  refine' wbk [true,false,false,false,false,true,true,true,true] 56 trivial (fun wq hq=>?_) ?_;rotate_left
  · simp only [Z00]
    repeat (go_big_quiet_step (fail))
    exact wpQuiet_nil rfl
  refine wbr [false,true] (fuel:=5) (fun QB hQB hQX=>?_)
  simp only [Z00]
  go_wp2_with fail
  refine hQB.out _ _ trivial ?_
  refine' wbk [false,false,true,true] 56 trivial (fun wq hq=>?_) ?_;rotate_left
  · simp only [Z00]
    repeat (go_big_quiet_step (fail))
    exact wpQuiet_nil rfl
  refine wbr [false,false,false,false,true] (fuel:=2) (fun QB hQB hQX=>?_)
  simp only [Z00]
  go_wp2_with fail
  refine hQB.out _ _ trivial ?_
  refine wbr [false,false,false,false,false,false,false,false,false,true] (fuel:=1) (fun QB hQB hQX=>?_)
  simp only [Z00]
  go_wp2_with fail
  refine HC.out.mono ?_
  rintro e w' ⟨rfl,rfl⟩
  go_wp2_with fail
  refine hQB.out _ _ trivial ?_
  clear hQB hQX QB
  refine' wbk [false,false,false,false,false,false,false,false,false,false,true] 56 trivial (fun wq hq=>?_) ?_;rotate_left
  · simp only [Z00]
    repeat (go_big_quiet_step (fail))
    exact wpQuiet_nil rfl
  refine Z02 (by kernel_rfl) ?_ _
  clear h1
  have h1:=hd
  clear hd q pp HC
  generalize hW:W.drew=W1 at h1 ⊢
  clear hW
  go_wp2_with fail
  rw [rounds_succ]
  go_upto_region 6 with fail
  have hd:=h1.drew
  have q:W1.drew.cell? ⟨0,21,none⟩=some (.string ⟨#[65,66,73]⟩):=hd.old HF.out.f10
  have pp:W1.drew.cell? ⟨gi,0,none⟩=some (.int .i64 10):=hd.blk.some_ (i:=0) rfl
  have HC:Hid (Calls Tryz.prog 129 #[.string ⟨#[65,66,73]⟩,.string ⟨#[66]⟩] W1.drew fun e w'=>e = .returned (.bool true)∧W1.drew=w'):=hid ((Any.strings_Contains_one Z0z ⟨#[65,66,73]⟩ 66 W1.drew).mono (by rintro e w' ⟨rfl,rfl⟩;exact ⟨by rfl,rfl⟩))
  refine Z01 [] (by kernel_rfl) ?_
  refine' wbk [true,false,false,false,false,true,true,true,true] 56 trivial (fun wq hq=>?_) ?_;rotate_left
  · simp only [Z00]
    repeat (go_big_quiet_step (fail))
    exact wpQuiet_nil rfl
  refine wbr [false,true] (fuel:=5) (fun QB hQB hQX=>?_)
  simp only [Z00]
  go_wp2_with fail
  refine hQB.out _ _ trivial ?_
  refine' wbk [false,false,true,true] 56 trivial (fun wq hq=>?_) ?_;rotate_left
  · simp only [Z00]
    repeat (go_big_quiet_step (fail))
    exact wpQuiet_nil rfl
  refine wbr [false,false,false,false,true] (fuel:=2) (fun QB hQB hQX=>?_)
  simp only [Z00]
  go_wp2_with fail
  refine hQB.out _ _ trivial ?_
  refine wbr [false,false,false,false,false,false,false,false,false,true] (fuel:=1) (fun QB hQB hQX=>?_)
  simp only [Z00]
  go_wp2_with fail
  refine HC.out.mono ?_
  rintro e w' ⟨rfl,rfl⟩
  go_wp2_with fail
  refine hQB.out _ _ trivial ?_
  clear hQB hQX QB
  refine' wbk [false,false,false,false,false,false,false,false,false,false,true] 56 trivial (fun wq hq=>?_) ?_;rotate_left
  · simp only [Z00]
    repeat (go_big_quiet_step (fail))
    exact wpQuiet_nil rfl
  refine Z02 (by kernel_rfl) ?_ _
  clear h1
  have h1:=hd
  clear hd q pp HC
  generalize hW:W1.drew=W2 at h1 ⊢
  clear hW
  go_wp2_with fail
  rw [rounds_succ]
  go_upto_region 6 with fail
  have hd:=h1.drew
  have q:W2.drew.cell? ⟨0,21,none⟩=some (.string ⟨#[65,66,73]⟩):=hd.old HF.out.f10
  have pp:W2.drew.cell? ⟨gi,0,none⟩=some (.int .i64 10):=hd.blk.some_ (i:=0) rfl
  have HC:Hid (Calls Tryz.prog 129 #[.string ⟨#[65,66,73]⟩,.string ⟨#[67]⟩] W2.drew fun e w'=>e = .returned (.bool false)∧W2.drew=w'):=hid ((Any.strings_Contains_one Z0z ⟨#[65,66,73]⟩ 67 W2.drew).mono (by rintro e w' ⟨rfl,rfl⟩;exact ⟨by rfl,rfl⟩))
  refine Z01 [] (by kernel_rfl) ?_
  refine' wbk [true,false,false,false,false,true,true,true,true] 56 trivial (fun wq hq=>?_) ?_;rotate_left
  · simp only [Z00]
    repeat (go_big_quiet_step (fail))
    exact wpQuiet_nil rfl
  refine wbr [false,true] (fuel:=5) (fun QB hQB hQX=>?_)
  simp only [Z00]
  go_wp2_with fail
  refine hQB.out _ _ trivial ?_
  refine' wbk [false,false,true,true] 56 trivial (fun wq hq=>?_) ?_;rotate_left
  · simp only [Z00]
    repeat (go_big_quiet_step (fail))
    exact wpQuiet_nil rfl
  refine wbr [false,false,false,false,true] (fuel:=2) (fun QB hQB hQX=>?_)
  simp only [Z00]
  go_wp2_with fail
  refine hQB.out _ _ trivial ?_
  refine wbr [false,false,false,false,false,false,false,false,false,true] (fuel:=1) (fun QB hQB hQX=>?_)
  simp only [Z00]
  go_wp2_with fail
  refine HC.out.mono ?_
  rintro e w' ⟨rfl,rfl⟩
  go_wp2_with fail
  refine hQB.out _ _ trivial ?_
  clear hQB hQX QB
  refine' wbk [false,false,false,false,false,false,false,false,false,false,true] 56 trivial (fun wq hq=>?_) ?_;rotate_left
  · simp only [Z00]
    repeat (go_big_quiet_step (fail))
    exact wpQuiet_nil rfl
  refine Z02 (by kernel_rfl) ?_ _
  clear h1
  have h1:=hd
  clear hd q pp HC
  generalize hW:W2.drew=W3 at h1 ⊢
  clear hW
  go_wp2_with fail
  rw [rounds_succ]
  have hb:=h1.blk
  have HNN:=(HN _ h1.drop)
  clear h1
  go_wp2_with (refine Z04 rfl 28 _ rfl gi _ _ rfl Tryz.isAgg28 _ Tryz.sizeOf28 hb rfl ?_)
  refine HNN.out.mono ?_
  rintro e w' ⟨rfl,h2⟩
  have H2:=hid h2
  clear h2 hb
  go_wp2_with fail
  go_ret
  exact ⟨rfl,H2.out⟩
set_option maxHeartbeats 4000000 in
theorem Z22 (hF:FormsAt w0) (ha:0≤a∧a < 8) (hb:0≤b∧b < 8) (h:Hold w0 w R):Calls Tryz.prog 76 #[(InsR.mk 11 a b 0 imm).val] w fun e w'=>e = .returned (.int .i64 0)∧Hold w0 w' R:=by
  have H1:=hid (h.newBlk (t:=28) (cs:=#[.int .i64 11,.int .i64 a,.int .i64 b,.int .i64 0,.int .i64 imm]))
  have HF:=hid hF
  have HN:∀ w',Hold w0 w' R→Hid (Calls Tryz.prog 130 #[(InsR.mk 11 a b 0 imm).val] w' fun e w'=>e = .returned (.bool true)∧Hold w0 w' R):=fun w' h=>hid (Z9s ha hb h)
  have ea1:decide (a < 0)=false:=decide_eq_false (by omega)
  have ea2:decide (8≤a)=false:=decide_eq_false (by omega)
  have ea3:decide (a ≥ 8)=false:=decide_eq_false (by omega)
  have eb1:decide (b < 0)=false:=decide_eq_false (by omega)
  have eb2:decide (8≤b)=false:=decide_eq_false (by omega)
  have eb3:decide (b ≥ 8)=false:=decide_eq_false (by omega)
  have i0:∀ w,(Instr.index 22 (.agg #[.int .i64 a,.int .i64 b,.int .i64 0]) (.int .i64 0)).run Tryz.prog w = .ok (.int .i64 a) w:=fun _=>by kernel_rfl
  have i1:∀ w,(Instr.index 22 (.agg #[.int .i64 a,.int .i64 b,.int .i64 0]) (.int .i64 1)).run Tryz.prog w = .ok (.int .i64 b) w:=fun _=>by kernel_rfl
  have i2:∀ w,(Instr.index 22 (.agg #[.int .i64 a,.int .i64 b,.int .i64 0]) (.int .i64 2)).run Tryz.prog w = .ok (.int .i64 0) w:=fun _=>by kernel_rfl
  clear h hF
  go_enter Tryz.func76,Tryz.ntmps76
  go_upto_region 3 with fail
  have h1:=H1.out
  generalize hW:w.alloc _=W at h1 ⊢
  generalize w.heap.size=gi at h1 ⊢
  clear hW H1
  have p0:W.cell? ⟨gi,0,none⟩=some (.int .i64 11):=h1.blk.some_ (i:=0) rfl
  have p1:W.cell? ⟨gi,1,none⟩=some (.int .i64 a):=h1.blk.some_ (i:=1) rfl
  have p2:W.cell? ⟨gi,2,none⟩=some (.int .i64 b):=h1.blk.some_ (i:=2) rfl
  have p3:W.cell? ⟨gi,3,none⟩=some (.int .i64 0):=h1.blk.some_ (i:=3) rfl
  go_wp2_with fail
  refine wp_loop_rounds 4 ?_
  rw [rounds_succ]
  go_upto_region 6 with fail
  have hd:=h1.drew
  have q:W.drew.cell? ⟨0,23,none⟩=some (.string ⟨#[65,66,73]⟩):=hd.old HF.out.f11
  have pp:W.drew.cell? ⟨gi,0,none⟩=some (.int .i64 11):=hd.blk.some_ (i:=0) rfl
  have HC:Hid (Calls Tryz.prog 129 #[.string ⟨#[65,66,73]⟩,.string ⟨#[65]⟩] W.drew fun e w'=>e = .returned (.bool true)∧W.drew=w'):=hid ((Any.strings_Contains_one Z0z ⟨#[65,66,73]⟩ 65 W.drew).mono (by rintro e w' ⟨rfl,rfl⟩;exact ⟨by rfl,rfl⟩))
  refine Z01 [] (by kernel_rfl) ?_
  refine' wbk [true,false,false,false,false,true,true,true,true] 56 trivial (fun wq hq=>?_) ?_;rotate_left
  · simp only [Z00]
    repeat (go_big_quiet_step (fail))
    exact wpQuiet_nil rfl
  refine wbr [false,true] (fuel:=5) (fun QB hQB hQX=>?_)
  simp only [Z00]
  go_wp2_with fail
  refine hQB.out _ _ trivial ?_
  refine' wbk [false,false,true,true] 56 trivial (fun wq hq=>?_) ?_;rotate_left
  · simp only [Z00]
    repeat (go_big_quiet_step (fail))
    exact wpQuiet_nil rfl
  refine wbr [false,false,false,false,true] (fuel:=2) (fun QB hQB hQX=>?_)
  simp only [Z00]
  go_wp2_with fail
  refine hQB.out _ _ trivial ?_
  refine wbr [false,false,false,false,false,false,false,false,false,true] (fuel:=1) (fun QB hQB hQX=>?_)
  simp only [Z00]
  go_wp2_with fail
  refine HC.out.mono ?_
  rintro e w' ⟨rfl,rfl⟩
  go_wp2_with fail
  refine hQB.out _ _ trivial ?_
  clear hQB hQX QB
  refine' wbk [false,false,false,false,false,false,false,false,false,false,true] 56 trivial (fun wq hq=>?_) ?_;rotate_left
  · simp only [Z00]
    repeat (go_big_quiet_step (fail))
    exact wpQuiet_nil rfl
  refine Z02 (by kernel_rfl) ?_ _
  clear h1
  have h1:=hd
  clear hd q pp HC
  generalize hW:W.drew=W1 at h1 ⊢
  clear hW
  go_wp2_with fail
  rw [rounds_succ]
  go_upto_region 6 with fail
  have hd:=h1.drew
  have q:W1.drew.cell? ⟨0,23,none⟩=some (.string ⟨#[65,66,73]⟩):=hd.old HF.out.f11
  have pp:W1.drew.cell? ⟨gi,0,none⟩=some (.int .i64 11):=hd.blk.some_ (i:=0) rfl
  have HC:Hid (Calls Tryz.prog 129 #[.string ⟨#[65,66,73]⟩,.string ⟨#[66]⟩] W1.drew fun e w'=>e = .returned (.bool true)∧W1.drew=w'):=hid ((Any.strings_Contains_one Z0z ⟨#[65,66,73]⟩ 66 W1.drew).mono (by rintro e w' ⟨rfl,rfl⟩;exact ⟨by rfl,rfl⟩))
  refine Z01 [] (by kernel_rfl) ?_
  refine' wbk [true,false,false,false,false,true,true,true,true] 56 trivial (fun wq hq=>?_) ?_;rotate_left
  · simp only [Z00]
    repeat (go_big_quiet_step (fail))
    exact wpQuiet_nil rfl
  refine wbr [false,true] (fuel:=5) (fun QB hQB hQX=>?_)
  simp only [Z00]
  go_wp2_with fail
  refine hQB.out _ _ trivial ?_
  refine' wbk [false,false,true,true] 56 trivial (fun wq hq=>?_) ?_;rotate_left
  · simp only [Z00]
    repeat (go_big_quiet_step (fail))
    exact wpQuiet_nil rfl
  refine wbr [false,false,false,false,true] (fuel:=2) (fun QB hQB hQX=>?_)
  simp only [Z00]
  go_wp2_with fail
  refine hQB.out _ _ trivial ?_
  refine wbr [false,false,false,false,false,false,false,false,false,true] (fuel:=1) (fun QB hQB hQX=>?_)
  simp only [Z00]
  go_wp2_with fail
  refine HC.out.mono ?_
  rintro e w' ⟨rfl,rfl⟩
  go_wp2_with fail
  refine hQB.out _ _ trivial ?_
  clear hQB hQX QB
  refine' wbk [false,false,false,false,false,false,false,false,false,false,true] 56 trivial (fun wq hq=>?_) ?_;rotate_left
  · simp only [Z00]
    repeat (go_big_quiet_step (fail))
    exact wpQuiet_nil rfl
  refine Z02 (by kernel_rfl) ?_ _
  clear h1
  have h1:=hd
  clear hd q pp HC
  generalize hW:W1.drew=W2 at h1 ⊢
  clear hW
  go_wp2_with fail
  rw [rounds_succ]
  go_upto_region 6 with fail
  have hd:=h1.drew
  have q:W2.drew.cell? ⟨0,23,none⟩=some (.string ⟨#[65,66,73]⟩):=hd.old HF.out.f11
  have pp:W2.drew.cell? ⟨gi,0,none⟩=some (.int .i64 11):=hd.blk.some_ (i:=0) rfl
  have HC:Hid (Calls Tryz.prog 129 #[.string ⟨#[65,66,73]⟩,.string ⟨#[67]⟩] W2.drew fun e w'=>e = .returned (.bool false)∧W2.drew=w'):=hid ((Any.strings_Contains_one Z0z ⟨#[65,66,73]⟩ 67 W2.drew).mono (by rintro e w' ⟨rfl,rfl⟩;exact ⟨by rfl,rfl⟩))
  refine Z01 [] (by kernel_rfl) ?_
  refine' wbk [true,false,false,false,false,true,true,true,true] 56 trivial (fun wq hq=>?_) ?_;rotate_left
  · simp only [Z00]
    repeat (go_big_quiet_step (fail))
    exact wpQuiet_nil rfl
  refine wbr [false,true] (fuel:=5) (fun QB hQB hQX=>?_)
  simp only [Z00]
  go_wp2_with fail
  refine hQB.out _ _ trivial ?_
  refine' wbk [false,false,true,true] 56 trivial (fun wq hq=>?_) ?_;rotate_left
  · simp only [Z00]
    repeat (go_big_quiet_step (fail))
    exact wpQuiet_nil rfl
  refine wbr [false,false,false,false,true] (fuel:=2) (fun QB hQB hQX=>?_)
  simp only [Z00]
  go_wp2_with fail
  refine hQB.out _ _ trivial ?_
  refine wbr [false,false,false,false,false,false,false,false,false,true] (fuel:=1) (fun QB hQB hQX=>?_)
  simp only [Z00]
  go_wp2_with fail
  refine HC.out.mono ?_
  rintro e w' ⟨rfl,rfl⟩
  go_wp2_with fail
  refine hQB.out _ _ trivial ?_
  clear hQB hQX QB
  refine' wbk [false,false,false,false,false,false,false,false,false,false,true] 56 trivial (fun wq hq=>?_) ?_;rotate_left
  · simp only [Z00]
    repeat (go_big_quiet_step (fail))
    exact wpQuiet_nil rfl
  refine Z02 (by kernel_rfl) ?_ _
  clear h1
  have h1:=hd
  clear hd q pp HC
  generalize hW:W2.drew=W3 at h1 ⊢
  clear hW
  go_wp2_with fail
  rw [rounds_succ]
  have hb:=h1.blk
  have HNN:=(HN _ h1.drop)
  clear h1
  go_wp2_with (refine Z04 rfl 28 _ rfl gi _ _ rfl Tryz.isAgg28 _ Tryz.sizeOf28 hb rfl ?_)
  refine HNN.out.mono ?_
  rintro e w' ⟨rfl,h2⟩
  have H2:=hid h2
  clear h2 hb
  go_wp2_with fail
  go_ret
  exact ⟨rfl,H2.out⟩
theorem Zdj (hF:FormsAt w0)  (h:Hold w0 w R):Calls Tryz.prog 77 #[(InsR.mk 0 0 0 0 0).val] w fun e w'=>e = .returned (.int .i64 0)∧Hold w0 w' R:=by
  have H1:=hid (h.newBlk (t:=28) (cs:=#[.int .i64 0,.int .i64 0,.int .i64 0,.int .i64 0,.int .i64 0]))
  have HC:∀ w',Hold w0 w' R→Hid (Calls Tryz.prog 76 #[(InsR.mk 0 0 0 0 0).val] w' fun e w'=>e = .returned (.int .i64 0)∧Hold w0 w' R):=fun w' h=>hid (Z2w hF  h)
  have HC2:∀ w' gi,Hold w0 w' (blkA 28 gi #[.int .i64 0,.int .i64 0,.int .i64 0,.int .i64 0,.int .i64 0]*R)→Hid (Calls Tryz.prog 76 #[(InsR.mk 0 0 0 0 0).val] w' fun e w'=>e = .returned (.int .i64 0)∧Hold w0 w' (blkA 28 gi #[.int .i64 0,.int .i64 0,.int .i64 0,.int .i64 0,.int .i64 0]*R)):=fun w' gi h=>hid (Z2w hF  h)
  clear h hF
  go_enter Tryz.func77,Tryz.ntmps77
  go_upto_region 1 with fail
  have h1:=H1.out
  generalize hW:w.alloc _=W at h1 ⊢
  generalize w.heap.size=gi at h1 ⊢
  clear hW H1
  have hb:=h1.blk
  have HCC:=HC2 _ _ h1
  clear h1
  go_wp2_with (refine Z04 rfl 28 _ rfl gi _ _ rfl Tryz.isAgg28 _ Tryz.sizeOf28 hb rfl ?_)
  refine HCC.out.mono ?_
  rintro e w2 ⟨rfl,h2⟩
  have p0:w2.cell? ⟨gi,0,none⟩=some (.int .i64 0):=h2.blk.some_ (i:=0) rfl
  have H2:=hid h2.drop
  clear h2 hb
  go_wp2_with fail
  go_ret
  exact ⟨rfl,H2.out⟩
theorem Zde (hF:FormsAt w0)  (h:Hold w0 w R):Calls Tryz.prog 131 #[(InsR.mk 0 0 0 0 0).val] w fun e w'=>e = .returned (.tuple #[.int .i64 0,.bool false])∧Hold w0 w' R:=by
  have H1:=hid (h.newBlk (t:=28) (cs:=#[.int .i64 0,.int .i64 0,.int .i64 0,.int .i64 0,.int .i64 0]))
  have HC:∀ w',Hold w0 w' R→Hid (Calls Tryz.prog 76 #[(InsR.mk 0 0 0 0 0).val] w' fun e w'=>e = .returned (.int .i64 0)∧Hold w0 w' R):=fun w' h=>hid (Z2w hF  h)
  have HC2:∀ w' gi,Hold w0 w' (blkA 28 gi #[.int .i64 0,.int .i64 0,.int .i64 0,.int .i64 0,.int .i64 0]*R)→Hid (Calls Tryz.prog 76 #[(InsR.mk 0 0 0 0 0).val] w' fun e w'=>e = .returned (.int .i64 0)∧Hold w0 w' (blkA 28 gi #[.int .i64 0,.int .i64 0,.int .i64 0,.int .i64 0,.int .i64 0]*R)):=fun w' gi h=>hid (Z2w hF  h)
  clear h hF
  go_enter Tryz.func131,Tryz.ntmps131
  go_upto_region 1 with fail
  have h1:=H1.out
  generalize hW:w.alloc _=W at h1 ⊢
  generalize w.heap.size=gi at h1 ⊢
  clear hW H1
  have hb:=h1.blk
  have HCC:=HC2 _ _ h1
  clear h1
  go_wp2_with (refine Z04 rfl 28 _ rfl gi _ _ rfl Tryz.isAgg28 _ Tryz.sizeOf28 hb rfl ?_)
  refine HCC.out.mono ?_
  rintro e w2 ⟨rfl,h2⟩
  have p0:w2.cell? ⟨gi,0,none⟩=some (.int .i64 0):=h2.blk.some_ (i:=0) rfl
  have H2:=hid h2.drop
  clear h2 hb
  go_wp2_with fail
  go_ret2
  exact ⟨rfl,H2.out⟩
theorem Zdi (hF:FormsAt w0) (ha:0≤a∧a < 8) (h:Hold w0 w R):Calls Tryz.prog 77 #[(InsR.mk 1 a 0 0 imm).val] w fun e w'=>e = .returned (.int .i64 0)∧Hold w0 w' R:=by
  have H1:=hid (h.newBlk (t:=28) (cs:=#[.int .i64 1,.int .i64 a,.int .i64 0,.int .i64 0,.int .i64 imm]))
  have HC:∀ w',Hold w0 w' R→Hid (Calls Tryz.prog 76 #[(InsR.mk 1 a 0 0 imm).val] w' fun e w'=>e = .returned (.int .i64 0)∧Hold w0 w' R):=fun w' h=>hid (Z2v hF ha h)
  have HC2:∀ w' gi,Hold w0 w' (blkA 28 gi #[.int .i64 1,.int .i64 a,.int .i64 0,.int .i64 0,.int .i64 imm]*R)→Hid (Calls Tryz.prog 76 #[(InsR.mk 1 a 0 0 imm).val] w' fun e w'=>e = .returned (.int .i64 0)∧Hold w0 w' (blkA 28 gi #[.int .i64 1,.int .i64 a,.int .i64 0,.int .i64 0,.int .i64 imm]*R)):=fun w' gi h=>hid (Z2v hF ha h)
  clear h hF
  go_enter Tryz.func77,Tryz.ntmps77
  go_upto_region 1 with fail
  have h1:=H1.out
  generalize hW:w.alloc _=W at h1 ⊢
  generalize w.heap.size=gi at h1 ⊢
  clear hW H1
  have hb:=h1.blk
  have HCC:=HC2 _ _ h1
  clear h1
  go_wp2_with (refine Z04 rfl 28 _ rfl gi _ _ rfl Tryz.isAgg28 _ Tryz.sizeOf28 hb rfl ?_)
  refine HCC.out.mono ?_
  rintro e w2 ⟨rfl,h2⟩
  have p0:w2.cell? ⟨gi,0,none⟩=some (.int .i64 1):=h2.blk.some_ (i:=0) rfl
  have H2:=hid h2.drop
  clear h2 hb
  go_wp2_with fail
  go_ret
  exact ⟨rfl,H2.out⟩
theorem Zdd (hF:FormsAt w0) (ha:0≤a∧a < 8) (h:Hold w0 w R):Calls Tryz.prog 131 #[(InsR.mk 1 a 0 0 imm).val] w fun e w'=>e = .returned (.tuple #[.int .i64 0,.bool false])∧Hold w0 w' R:=by
  have H1:=hid (h.newBlk (t:=28) (cs:=#[.int .i64 1,.int .i64 a,.int .i64 0,.int .i64 0,.int .i64 imm]))
  have HC:∀ w',Hold w0 w' R→Hid (Calls Tryz.prog 76 #[(InsR.mk 1 a 0 0 imm).val] w' fun e w'=>e = .returned (.int .i64 0)∧Hold w0 w' R):=fun w' h=>hid (Z2v hF ha h)
  have HC2:∀ w' gi,Hold w0 w' (blkA 28 gi #[.int .i64 1,.int .i64 a,.int .i64 0,.int .i64 0,.int .i64 imm]*R)→Hid (Calls Tryz.prog 76 #[(InsR.mk 1 a 0 0 imm).val] w' fun e w'=>e = .returned (.int .i64 0)∧Hold w0 w' (blkA 28 gi #[.int .i64 1,.int .i64 a,.int .i64 0,.int .i64 0,.int .i64 imm]*R)):=fun w' gi h=>hid (Z2v hF ha h)
  clear h hF
  go_enter Tryz.func131,Tryz.ntmps131
  go_upto_region 1 with fail
  have h1:=H1.out
  generalize hW:w.alloc _=W at h1 ⊢
  generalize w.heap.size=gi at h1 ⊢
  clear hW H1
  have hb:=h1.blk
  have HCC:=HC2 _ _ h1
  clear h1
  go_wp2_with (refine Z04 rfl 28 _ rfl gi _ _ rfl Tryz.isAgg28 _ Tryz.sizeOf28 hb rfl ?_)
  refine HCC.out.mono ?_
  rintro e w2 ⟨rfl,h2⟩
  have p0:w2.cell? ⟨gi,0,none⟩=some (.int .i64 1):=h2.blk.some_ (i:=0) rfl
  have H2:=hid h2.drop
  clear h2 hb
  go_wp2_with fail
  go_ret2
  exact ⟨rfl,H2.out⟩
theorem Zdh (hF:FormsAt w0) (ha:0≤a∧a < 8) (hb:0≤b∧b < 8) (hc:0≤c∧c < 8) (hi:0≤imm∧imm < 22) (h:Hold w0 w R):Calls Tryz.prog 77 #[(InsR.mk 3 a b c imm).val] w fun e w'=>e = .returned (.int .i64 0)∧Hold w0 w' R:=by
  have H1:=hid (h.newBlk (t:=28) (cs:=#[.int .i64 3,.int .i64 a,.int .i64 b,.int .i64 c,.int .i64 imm]))
  have HC:∀ w',Hold w0 w' R→Hid (Calls Tryz.prog 76 #[(InsR.mk 3 a b c imm).val] w' fun e w'=>e = .returned (.int .i64 0)∧Hold w0 w' R):=fun w' h=>hid (Z2u hF ha hb hc hi h)
  have HC2:∀ w' gi,Hold w0 w' (blkA 28 gi #[.int .i64 3,.int .i64 a,.int .i64 b,.int .i64 c,.int .i64 imm]*R)→Hid (Calls Tryz.prog 76 #[(InsR.mk 3 a b c imm).val] w' fun e w'=>e = .returned (.int .i64 0)∧Hold w0 w' (blkA 28 gi #[.int .i64 3,.int .i64 a,.int .i64 b,.int .i64 c,.int .i64 imm]*R)):=fun w' gi h=>hid (Z2u hF ha hb hc hi h)
  clear h hF
  go_enter Tryz.func77,Tryz.ntmps77
  go_upto_region 1 with fail
  have h1:=H1.out
  generalize hW:w.alloc _=W at h1 ⊢
  generalize w.heap.size=gi at h1 ⊢
  clear hW H1
  have hb:=h1.blk
  have HCC:=HC2 _ _ h1
  clear h1
  go_wp2_with (refine Z04 rfl 28 _ rfl gi _ _ rfl Tryz.isAgg28 _ Tryz.sizeOf28 hb rfl ?_)
  refine HCC.out.mono ?_
  rintro e w2 ⟨rfl,h2⟩
  have p0:w2.cell? ⟨gi,0,none⟩=some (.int .i64 3):=h2.blk.some_ (i:=0) rfl
  have H2:=hid h2.drop
  clear h2 hb
  go_wp2_with fail
  go_ret
  exact ⟨rfl,H2.out⟩
theorem Zdc (hF:FormsAt w0) (ha:0≤a∧a < 8) (hb:0≤b∧b < 8) (hc:0≤c∧c < 8) (hi:0≤imm∧imm < 22) (h:Hold w0 w R):Calls Tryz.prog 131 #[(InsR.mk 3 a b c imm).val] w fun e w'=>e = .returned (.tuple #[.int .i64 0,.bool false])∧Hold w0 w' R:=by
  have H1:=hid (h.newBlk (t:=28) (cs:=#[.int .i64 3,.int .i64 a,.int .i64 b,.int .i64 c,.int .i64 imm]))
  have HC:∀ w',Hold w0 w' R→Hid (Calls Tryz.prog 76 #[(InsR.mk 3 a b c imm).val] w' fun e w'=>e = .returned (.int .i64 0)∧Hold w0 w' R):=fun w' h=>hid (Z2u hF ha hb hc hi h)
  have HC2:∀ w' gi,Hold w0 w' (blkA 28 gi #[.int .i64 3,.int .i64 a,.int .i64 b,.int .i64 c,.int .i64 imm]*R)→Hid (Calls Tryz.prog 76 #[(InsR.mk 3 a b c imm).val] w' fun e w'=>e = .returned (.int .i64 0)∧Hold w0 w' (blkA 28 gi #[.int .i64 3,.int .i64 a,.int .i64 b,.int .i64 c,.int .i64 imm]*R)):=fun w' gi h=>hid (Z2u hF ha hb hc hi h)
  clear h hF
  go_enter Tryz.func131,Tryz.ntmps131
  go_upto_region 1 with fail
  have h1:=H1.out
  generalize hW:w.alloc _=W at h1 ⊢
  generalize w.heap.size=gi at h1 ⊢
  clear hW H1
  have hb:=h1.blk
  have HCC:=HC2 _ _ h1
  clear h1
  go_wp2_with (refine Z04 rfl 28 _ rfl gi _ _ rfl Tryz.isAgg28 _ Tryz.sizeOf28 hb rfl ?_)
  refine HCC.out.mono ?_
  rintro e w2 ⟨rfl,h2⟩
  have p0:w2.cell? ⟨gi,0,none⟩=some (.int .i64 3):=h2.blk.some_ (i:=0) rfl
  have H2:=hid h2.drop
  clear h2 hb
  go_wp2_with fail
  go_ret2
  exact ⟨rfl,H2.out⟩
theorem Zdg (hF:FormsAt w0) (hi:1≤imm∧imm≤8) (h:Hold w0 w R):Calls Tryz.prog 77 #[(InsR.mk 7 0 0 0 imm).val] w fun e w'=>e = .returned (.int .i64 2)∧Hold w0 w' R:=by
  have H1:=hid (h.newBlk (t:=28) (cs:=#[.int .i64 7,.int .i64 0,.int .i64 0,.int .i64 0,.int .i64 imm]))
  have HC:∀ w',Hold w0 w' R→Hid (Calls Tryz.prog 76 #[(InsR.mk 7 0 0 0 imm).val] w' fun e w'=>e = .returned (.int .i64 0)∧Hold w0 w' R):=fun w' h=>hid (Z2t hF  hi h)
  have HC2:∀ w' gi,Hold w0 w' (blkA 28 gi #[.int .i64 7,.int .i64 0,.int .i64 0,.int .i64 0,.int .i64 imm]*R)→Hid (Calls Tryz.prog 76 #[(InsR.mk 7 0 0 0 imm).val] w' fun e w'=>e = .returned (.int .i64 0)∧Hold w0 w' (blkA 28 gi #[.int .i64 7,.int .i64 0,.int .i64 0,.int .i64 0,.int .i64 imm]*R)):=fun w' gi h=>hid (Z2t hF  hi h)
  clear h hF
  go_enter Tryz.func77,Tryz.ntmps77
  go_upto_region 1 with fail
  have h1:=H1.out
  generalize hW:w.alloc _=W at h1 ⊢
  generalize w.heap.size=gi at h1 ⊢
  clear hW H1
  have hb:=h1.blk
  have HCC:=HC2 _ _ h1
  clear h1
  go_wp2_with (refine Z04 rfl 28 _ rfl gi _ _ rfl Tryz.isAgg28 _ Tryz.sizeOf28 hb rfl ?_)
  refine HCC.out.mono ?_
  rintro e w2 ⟨rfl,h2⟩
  have p0:w2.cell? ⟨gi,0,none⟩=some (.int .i64 7):=h2.blk.some_ (i:=0) rfl
  have H2:=hid h2.drop
  clear h2 hb
  go_wp2_with fail
  go_ret
  exact ⟨rfl,H2.out⟩
theorem Zdb (hF:FormsAt w0) (hi:1≤imm∧imm≤8) (h:Hold w0 w R):Calls Tryz.prog 131 #[(InsR.mk 7 0 0 0 imm).val] w fun e w'=>e = .returned (.tuple #[.int .i64 0,.bool false])∧Hold w0 w' R:=by
  have H1:=hid (h.newBlk (t:=28) (cs:=#[.int .i64 7,.int .i64 0,.int .i64 0,.int .i64 0,.int .i64 imm]))
  have HC:∀ w',Hold w0 w' R→Hid (Calls Tryz.prog 76 #[(InsR.mk 7 0 0 0 imm).val] w' fun e w'=>e = .returned (.int .i64 0)∧Hold w0 w' R):=fun w' h=>hid (Z2t hF  hi h)
  have HC2:∀ w' gi,Hold w0 w' (blkA 28 gi #[.int .i64 7,.int .i64 0,.int .i64 0,.int .i64 0,.int .i64 imm]*R)→Hid (Calls Tryz.prog 76 #[(InsR.mk 7 0 0 0 imm).val] w' fun e w'=>e = .returned (.int .i64 0)∧Hold w0 w' (blkA 28 gi #[.int .i64 7,.int .i64 0,.int .i64 0,.int .i64 0,.int .i64 imm]*R)):=fun w' gi h=>hid (Z2t hF  hi h)
  clear h hF
  go_enter Tryz.func131,Tryz.ntmps131
  go_upto_region 1 with fail
  have h1:=H1.out
  generalize hW:w.alloc _=W at h1 ⊢
  generalize w.heap.size=gi at h1 ⊢
  clear hW H1
  have hb:=h1.blk
  have HCC:=HC2 _ _ h1
  clear h1
  go_wp2_with (refine Z04 rfl 28 _ rfl gi _ _ rfl Tryz.isAgg28 _ Tryz.sizeOf28 hb rfl ?_)
  refine HCC.out.mono ?_
  rintro e w2 ⟨rfl,h2⟩
  have p0:w2.cell? ⟨gi,0,none⟩=some (.int .i64 7):=h2.blk.some_ (i:=0) rfl
  have H2:=hid h2.drop
  clear h2 hb
  go_wp2_with fail
  go_ret2
  exact ⟨rfl,H2.out⟩
theorem Zdf (hF:FormsAt w0)  (h:Hold w0 w R):Calls Tryz.prog 77 #[(InsR.mk 8 0 0 0 0).val] w fun e w'=>e = .returned (.int .i64 1)∧Hold w0 w' R:=by
  have H1:=hid (h.newBlk (t:=28) (cs:=#[.int .i64 8,.int .i64 0,.int .i64 0,.int .i64 0,.int .i64 0]))
  have HC:∀ w',Hold w0 w' R→Hid (Calls Tryz.prog 76 #[(InsR.mk 8 0 0 0 0).val] w' fun e w'=>e = .returned (.int .i64 0)∧Hold w0 w' R):=fun w' h=>hid (Z2s hF  h)
  have HC2:∀ w' gi,Hold w0 w' (blkA 28 gi #[.int .i64 8,.int .i64 0,.int .i64 0,.int .i64 0,.int .i64 0]*R)→Hid (Calls Tryz.prog 76 #[(InsR.mk 8 0 0 0 0).val] w' fun e w'=>e = .returned (.int .i64 0)∧Hold w0 w' (blkA 28 gi #[.int .i64 8,.int .i64 0,.int .i64 0,.int .i64 0,.int .i64 0]*R)):=fun w' gi h=>hid (Z2s hF  h)
  clear h hF
  go_enter Tryz.func77,Tryz.ntmps77
  go_upto_region 1 with fail
  have h1:=H1.out
  generalize hW:w.alloc _=W at h1 ⊢
  generalize w.heap.size=gi at h1 ⊢
  clear hW H1
  have hb:=h1.blk
  have HCC:=HC2 _ _ h1
  clear h1
  go_wp2_with (refine Z04 rfl 28 _ rfl gi _ _ rfl Tryz.isAgg28 _ Tryz.sizeOf28 hb rfl ?_)
  refine HCC.out.mono ?_
  rintro e w2 ⟨rfl,h2⟩
  have p0:w2.cell? ⟨gi,0,none⟩=some (.int .i64 8):=h2.blk.some_ (i:=0) rfl
  have H2:=hid h2.drop
  clear h2 hb
  go_wp2_with fail
  go_ret
  exact ⟨rfl,H2.out⟩
theorem Zda (hF:FormsAt w0)  (h:Hold w0 w R):Calls Tryz.prog 131 #[(InsR.mk 8 0 0 0 0).val] w fun e w'=>e = .returned (.tuple #[.int .i64 0,.bool false])∧Hold w0 w' R:=by
  have H1:=hid (h.newBlk (t:=28) (cs:=#[.int .i64 8,.int .i64 0,.int .i64 0,.int .i64 0,.int .i64 0]))
  have HC:∀ w',Hold w0 w' R→Hid (Calls Tryz.prog 76 #[(InsR.mk 8 0 0 0 0).val] w' fun e w'=>e = .returned (.int .i64 0)∧Hold w0 w' R):=fun w' h=>hid (Z2s hF  h)
  have HC2:∀ w' gi,Hold w0 w' (blkA 28 gi #[.int .i64 8,.int .i64 0,.int .i64 0,.int .i64 0,.int .i64 0]*R)→Hid (Calls Tryz.prog 76 #[(InsR.mk 8 0 0 0 0).val] w' fun e w'=>e = .returned (.int .i64 0)∧Hold w0 w' (blkA 28 gi #[.int .i64 8,.int .i64 0,.int .i64 0,.int .i64 0,.int .i64 0]*R)):=fun w' gi h=>hid (Z2s hF  h)
  clear h hF
  go_enter Tryz.func131,Tryz.ntmps131
  go_upto_region 1 with fail
  have h1:=H1.out
  generalize hW:w.alloc _=W at h1 ⊢
  generalize w.heap.size=gi at h1 ⊢
  clear hW H1
  have hb:=h1.blk
  have HCC:=HC2 _ _ h1
  clear h1
  go_wp2_with (refine Z04 rfl 28 _ rfl gi _ _ rfl Tryz.isAgg28 _ Tryz.sizeOf28 hb rfl ?_)
  refine HCC.out.mono ?_
  rintro e w2 ⟨rfl,h2⟩
  have p0:w2.cell? ⟨gi,0,none⟩=some (.int .i64 8):=h2.blk.some_ (i:=0) rfl
  have H2:=hid h2.drop
  clear h2 hb
  go_wp2_with fail
  go_ret2
  exact ⟨rfl,H2.out⟩
theorem Zb8 (hF:FormsAt w0) (ha:0≤a∧a < 8) (hb:0≤b∧b < 8) (h:Hold w0 w R):Calls Tryz.prog 77 #[(InsR.mk 10 a b 0 imm).val] w fun e w'=>e = .returned (.int .i64 1)∧Hold w0 w' R:=by
  have H1:=hid (h.newBlk (t:=28) (cs:=#[.int .i64 10,.int .i64 a,.int .i64 b,.int .i64 0,.int .i64 imm]))
  have HC:∀ w',Hold w0 w' R→Hid (Calls Tryz.prog 76 #[(InsR.mk 10 a b 0 imm).val] w' fun e w'=>e = .returned (.int .i64 0)∧Hold w0 w' R):=fun w' h=>hid (Z23 hF ha hb h)
  have HC2:∀ w' gi,Hold w0 w' (blkA 28 gi #[.int .i64 10,.int .i64 a,.int .i64 b,.int .i64 0,.int .i64 imm]*R)→Hid (Calls Tryz.prog 76 #[(InsR.mk 10 a b 0 imm).val] w' fun e w'=>e = .returned (.int .i64 0)∧Hold w0 w' (blkA 28 gi #[.int .i64 10,.int .i64 a,.int .i64 b,.int .i64 0,.int .i64 imm]*R)):=fun w' gi h=>hid (Z23 hF ha hb h)
  clear h hF
  go_enter Tryz.func77,Tryz.ntmps77
  go_upto_region 1 with fail
  have h1:=H1.out
  generalize hW:w.alloc _=W at h1 ⊢
  generalize w.heap.size=gi at h1 ⊢
  clear hW H1
  have hb:=h1.blk
  have HCC:=HC2 _ _ h1
  clear h1
  go_wp2_with (refine Z04 rfl 28 _ rfl gi _ _ rfl Tryz.isAgg28 _ Tryz.sizeOf28 hb rfl ?_)
  refine HCC.out.mono ?_
  rintro e w2 ⟨rfl,h2⟩
  have p0:w2.cell? ⟨gi,0,none⟩=some (.int .i64 10):=h2.blk.some_ (i:=0) rfl
  have H2:=hid h2.drop
  clear h2 hb
  go_wp2_with fail
  go_ret
  exact ⟨rfl,H2.out⟩
theorem Zb6 (hF:FormsAt w0) (ha:0≤a∧a < 8) (hb:0≤b∧b < 8) (h:Hold w0 w R):Calls Tryz.prog 131 #[(InsR.mk 10 a b 0 imm).val] w fun e w'=>e = .returned (.tuple #[.int .i64 0,.bool false])∧Hold w0 w' R:=by
  have H1:=hid (h.newBlk (t:=28) (cs:=#[.int .i64 10,.int .i64 a,.int .i64 b,.int .i64 0,.int .i64 imm]))
  have HC:∀ w',Hold w0 w' R→Hid (Calls Tryz.prog 76 #[(InsR.mk 10 a b 0 imm).val] w' fun e w'=>e = .returned (.int .i64 0)∧Hold w0 w' R):=fun w' h=>hid (Z23 hF ha hb h)
  have HC2:∀ w' gi,Hold w0 w' (blkA 28 gi #[.int .i64 10,.int .i64 a,.int .i64 b,.int .i64 0,.int .i64 imm]*R)→Hid (Calls Tryz.prog 76 #[(InsR.mk 10 a b 0 imm).val] w' fun e w'=>e = .returned (.int .i64 0)∧Hold w0 w' (blkA 28 gi #[.int .i64 10,.int .i64 a,.int .i64 b,.int .i64 0,.int .i64 imm]*R)):=fun w' gi h=>hid (Z23 hF ha hb h)
  clear h hF
  go_enter Tryz.func131,Tryz.ntmps131
  go_upto_region 1 with fail
  have h1:=H1.out
  generalize hW:w.alloc _=W at h1 ⊢
  generalize w.heap.size=gi at h1 ⊢
  clear hW H1
  have hb:=h1.blk
  have HCC:=HC2 _ _ h1
  clear h1
  go_wp2_with (refine Z04 rfl 28 _ rfl gi _ _ rfl Tryz.isAgg28 _ Tryz.sizeOf28 hb rfl ?_)
  refine HCC.out.mono ?_
  rintro e w2 ⟨rfl,h2⟩
  have p0:w2.cell? ⟨gi,0,none⟩=some (.int .i64 10):=h2.blk.some_ (i:=0) rfl
  have H2:=hid h2.drop
  clear h2 hb
  go_wp2_with fail
  go_ret2
  exact ⟨rfl,H2.out⟩
theorem Zb7 (hF:FormsAt w0) (ha:0≤a∧a < 8) (hb:0≤b∧b < 8) (h:Hold w0 w R):Calls Tryz.prog 77 #[(InsR.mk 11 a b 0 imm).val] w fun e w'=>e = .returned (.int .i64 1)∧Hold w0 w' R:=by
  have H1:=hid (h.newBlk (t:=28) (cs:=#[.int .i64 11,.int .i64 a,.int .i64 b,.int .i64 0,.int .i64 imm]))
  have HC:∀ w',Hold w0 w' R→Hid (Calls Tryz.prog 76 #[(InsR.mk 11 a b 0 imm).val] w' fun e w'=>e = .returned (.int .i64 0)∧Hold w0 w' R):=fun w' h=>hid (Z22 hF ha hb h)
  have HC2:∀ w' gi,Hold w0 w' (blkA 28 gi #[.int .i64 11,.int .i64 a,.int .i64 b,.int .i64 0,.int .i64 imm]*R)→Hid (Calls Tryz.prog 76 #[(InsR.mk 11 a b 0 imm).val] w' fun e w'=>e = .returned (.int .i64 0)∧Hold w0 w' (blkA 28 gi #[.int .i64 11,.int .i64 a,.int .i64 b,.int .i64 0,.int .i64 imm]*R)):=fun w' gi h=>hid (Z22 hF ha hb h)
  clear h hF
  go_enter Tryz.func77,Tryz.ntmps77
  go_upto_region 1 with fail
  have h1:=H1.out
  generalize hW:w.alloc _=W at h1 ⊢
  generalize w.heap.size=gi at h1 ⊢
  clear hW H1
  have hb:=h1.blk
  have HCC:=HC2 _ _ h1
  clear h1
  go_wp2_with (refine Z04 rfl 28 _ rfl gi _ _ rfl Tryz.isAgg28 _ Tryz.sizeOf28 hb rfl ?_)
  refine HCC.out.mono ?_
  rintro e w2 ⟨rfl,h2⟩
  have p0:w2.cell? ⟨gi,0,none⟩=some (.int .i64 11):=h2.blk.some_ (i:=0) rfl
  have H2:=hid h2.drop
  clear h2 hb
  go_wp2_with fail
  go_ret
  exact ⟨rfl,H2.out⟩
theorem Zb5 (hF:FormsAt w0) (ha:0≤a∧a < 8) (hb:0≤b∧b < 8) (h:Hold w0 w R):Calls Tryz.prog 131 #[(InsR.mk 11 a b 0 imm).val] w fun e w'=>e = .returned (.tuple #[.int .i64 0,.bool false])∧Hold w0 w' R:=by
  have H1:=hid (h.newBlk (t:=28) (cs:=#[.int .i64 11,.int .i64 a,.int .i64 b,.int .i64 0,.int .i64 imm]))
  have HC:∀ w',Hold w0 w' R→Hid (Calls Tryz.prog 76 #[(InsR.mk 11 a b 0 imm).val] w' fun e w'=>e = .returned (.int .i64 0)∧Hold w0 w' R):=fun w' h=>hid (Z22 hF ha hb h)
  have HC2:∀ w' gi,Hold w0 w' (blkA 28 gi #[.int .i64 11,.int .i64 a,.int .i64 b,.int .i64 0,.int .i64 imm]*R)→Hid (Calls Tryz.prog 76 #[(InsR.mk 11 a b 0 imm).val] w' fun e w'=>e = .returned (.int .i64 0)∧Hold w0 w' (blkA 28 gi #[.int .i64 11,.int .i64 a,.int .i64 b,.int .i64 0,.int .i64 imm]*R)):=fun w' gi h=>hid (Z22 hF ha hb h)
  clear h hF
  go_enter Tryz.func131,Tryz.ntmps131
  go_upto_region 1 with fail
  have h1:=H1.out
  generalize hW:w.alloc _=W at h1 ⊢
  generalize w.heap.size=gi at h1 ⊢
  clear hW H1
  have hb:=h1.blk
  have HCC:=HC2 _ _ h1
  clear h1
  go_wp2_with (refine Z04 rfl 28 _ rfl gi _ _ rfl Tryz.isAgg28 _ Tryz.sizeOf28 hb rfl ?_)
  refine HCC.out.mono ?_
  rintro e w2 ⟨rfl,h2⟩
  have p0:w2.cell? ⟨gi,0,none⟩=some (.int .i64 11):=h2.blk.some_ (i:=0) rfl
  have H2:=hid h2.drop
  clear h2 hb
  go_wp2_with fail
  go_ret2
  exact ⟨rfl,H2.out⟩
end
end Go.Proofs.YtmlfangeanmmeaaGreatDoor
