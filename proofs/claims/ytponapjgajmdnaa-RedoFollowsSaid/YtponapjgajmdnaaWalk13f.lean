/- The walk of RedoFollows. -/
import Derived.Test.YtponapjgajmdnaaWalk13
import Derived.Test.YtponapjgajmdnaaRedoR3
import Derived.Test.YtponapjgajmdnaaArg2
import Derived.Test.YtponapjgajmdnaaKit2
namespace Go.Proofs.Ytponapjgajmdnaa
open Go.RowKit
set_option linter.unusedVariables false

section
variable {w0 w : World} {R : Asr}
theorem Hold.last {T : TypeId} {g cap n p : Nat} {us vs is : List Int} {A V X : Option Addr} {c d e : Nat} (h : Hold w0 w (logP T g cap n p us vs is A c V d X e R)) : Hold w0 w R := h.drop.drop.drop.drop
end
theorem lg_new (w0 w : World) (R : Asr) (c : Int) (h : Hold w0 w R) :
    Calls Try.prog 35 #[.int .i64 c] w fun e w' => ∃ g, e = .returned (.pointer (some ⟨g, 0, none⟩)) ∧ Hold w0 w' (logA 71 g (newL c) * R) :=
  (redo_new w c).mono fun e w' ⟨g, fp, he, hL, hc, hf⟩ => ⟨g, he, h.new hc hL hf⟩
theorem lg_put (w0 w : World) (R : Asr) (g : Nat) (L : PL) (a v : Int) (h : Hold w0 w (logA 71 g L * R)) (H : Inv L) :
    Calls Try.prog 36 #[.pointer (some ⟨g, 0, none⟩), .int .i64 a, .int .u64 v] w fun e w' => e = .returned (.bool (putOk L a)) ∧ Hold w0 w' (logA 71 g (putL L a v) * R) := by
  obtain ⟨fp, hp, K⟩ := h.open_
  exact (log_put w fp g L a v hp H).mono fun e w' ⟨he, fp', hL, hc, hf⟩ => ⟨he, K _ _ _ hc hL hf⟩

set_option maxRecDepth 8000 in
set_option maxHeartbeats 4000000 in
theorem redoFollows_walk (a0 : Int) (a1 : Option Addr) (len1 cap1 : Nat) (a2 : Bool) (w : World) (w0 : (Lit.int .i64 a0).wf = true) (hz : IsStructs [.int .i64, .int .u64] w a1 len1 cap1) :
    Calls Try.prog 13 #[.int .i64 a0, .slice a1 len1 cap1, .bool a2] w fun e w' => e = .returned (.bool true) ∧ Below w.heap.size w w' := by
  by_cases hl : len1 ≤ 50
  · have hd : decide (50 < (len1 : Int)) = false := decide_eq_false (by omega)
    go_enter Try.func13, Try.ntmps13
    go_wp2_with fail
    refine (lg_new w _ _ _ (Hold.start w)).mono ?_
    rintro e w1 ⟨g, rfl, h1⟩
    go_wp2_with fail
    refine (rlog_new w _ _ _ h1).mono ?_
    rintro e w2 ⟨g2, rfl, h2⟩
    clear h1
    go_wp2_with fail
    clear hd
    go_loopw [9] (fun i wr => ∃ (k : Nat) (L : PL), k ≤ len1 ∧ i = .int .i64 k ∧ Inv L ∧ Hold w wr (logA 71 g L * (logA 63 g2 L * Asr.emp))) (fun i _ => len1 - (intOf i).toNat)
    case atStart => exact ⟨0, _, Nat.zero_le _, rfl, newL_inv a0, h2.swap⟩
    case round =>
      obtain ⟨k, L, hk, rfl, hI, h0⟩ := hrel
      have HI := hid hI
      clear h2 hI
      by_cases hlt : k < len1
      · have e1 : decide ((k : Int) < (len1 : Int)) = true := decide_eq_true (by omega)
        have e2 : (0 : Int) ≤ (k : Int) := by omega
        have e3 : (k : Int) < (len1 : Int) := by omega
        obtain ⟨x, rfl, hc⟩ := hz.at_ (Below.refl _ w) hlt
        obtain ⟨_, hc0, y0, rfl, wf0⟩ := hc 0 _ rfl
        obtain ⟨_, hc1, y, rfl, _⟩ := hc 1 _ rfl
        have hc1' : w.cell? ((x.add (k * 2)).add 1) = some (.int .u64 y) := by rw [add_of_add]; exact hc1
        have cf : Hid (∀ W, Below w.heap.size w W → W.cell? (x.add (k * 2)) = some (.int .i64 y0) ∧ W.cell? ⟨(x.add (k * 2)).block, (x.add (k * 2)).off + 1, none⟩ = some (.int .u64 y)) := hid fun W hW =>
          ⟨(hW.cell (World.block_lt_of_cell? w _ hc0)).trans hc0, (hW.cell (World.block_lt_of_cell? w _ hc1')).trans hc1'⟩
        obtain ⟨d0, d1⟩ := cf.out wr h0.below
        have v1 := place_lt y0 30 (by omega)
        have v0 := place_nonneg y0 30 (by omega)
        obtain ⟨v, hv⟩ : ∃ v, v = if a2 then place y0 30 - 1 else y0 := ⟨_, rfl⟩
        have hv1 : a2 = true → place y0 30 - 1 = v := fun h => by simp [hv, h]
        have hv2 : a2 = false → y0 = v := fun h => by simp [hv, h]
        have Hv1 := hid hv1
        have Hv2 := hid hv2
        clear hc hc0 hc1 hc1' hv hv1 hv2
        obtain ⟨M, hM⟩ : ∃ M, M = putL L v y := ⟨_, rfl⟩
        have HM := hid hM
        have hIM : Inv M := by rw [hM]; exact HI.out.put v y
        have n32 : M.addrs.length ≤ 32 := by have := hIM.le; have := hIM.cap32; omega
        have p64 := hIM.p64
        have HIM := hid hIM
        clear hM hIM
        cases a2
        case' false =>
          have Hv3 := hid (Hv2.out rfl)
          clear Hv1 Hv2
          go_wp2_with fail
          rw [Hv3.out]
        case' true =>
          have Hv3 := hid (Hv1.out rfl)
          clear Hv2 Hv1
          go_wp2_with (go_at_call 18; refine (place_any _ _ _ (by omega) (by omega)).mono ?_; rintro e w' ⟨rfl, rfl⟩)
          rw [Hv3.out]
        all_goals
          refine wp_region_brk [] (by kernel_rfl) ?_
          refine wpAnyB_now (fun w' => w'.cell? (x.add (k * 2)) = some (.int .i64 y0) ∧ w'.cell? ⟨(x.add (k * 2)).block, (x.add (k * 2)).off + 1, none⟩ = some (.int .u64 y)) (fun _ _ => trivial) _ _ _ _ ?_
          refine' wpAnyB_bulk [true, true, true, true, true, true, true, false, true, true, true, true, true, true, true] 146 (listed' := #[true, true, true, true, true, true, true, false, true, true, true, true, true, true, true, false, false, false, false, false, false, false, false, false, false, false, false, false, false, false, false, false, false, false, false, false, false, false, false, false, false, false, false, false, false, false, false, false, false, false, false, false, false, false, false, false, false]) rfl (by kernel_rfl) (by kernel_rfl) (by kernel_rfl) (by kernel_rfl) (by kernel_rfl) (by kernel_rfl) (by decide) (fun _ _ _ _ h => h) rfl (cf.out _ h0.drew.below) (fun wq hq => ?_) ?_; rotate_left 1
          · simp only [maskL]
            obtain ⟨q0, q1⟩ := hq
            repeat (go_big_quiet_step (fail))
            exact wpQuiet_nil rfl
          refine wpAnyB_bar [false, false, false, false, false, false, false, true] (fuel := 42) (by rfl) (by rfl) (by kernel_rfl) (fun QB hQB hQX => ?_)
          simp only [maskL]
          go_wp2_with fail
          refine (lg_put w _ _ g L v y h0.drew HI.out).mono ?_
          rintro e' w1 ⟨rfl, h1⟩
          replace h1 := h1.swap
          clear h0
          go_wp2_with fail
          refine hQB.out _ _ (cf.out _ h1.below) ?_
          clear hQB hQX QB
          refine wpAnyB_bar [false, false, false, false, false, false, false, false, false, false, false, false, false, false, false, true] (fuel := 41) (by rfl) (by rfl) (by kernel_rfl) (fun QB hQB hQX => ?_)
          simp only [maskL]
          go_wp2_with fail
          refine (rlog_put w _ _ g2 L v y h1 HI.out).mono ?_
          rintro e' w2 ⟨rfl, h2⟩
          rw [← HM.out] at h2
          obtain ⟨A, c, V, d, X, e, hP⟩ := h2.logOpen (by decide) (by decide)
          have HP := hid hP
          clear h1 h2 hP
          go_wp2_with fail
          refine hQB.out _ _ (cf.out _ HP.out.below) ?_
          clear hQB hQX QB
          refine wpAnyB_now (fun w' => Hold w w' (logP 63 g2 M.cap M.addrs.length M.idx.length M.addrs M.vals M.idx A c V d X e (logA 71 g M * Asr.emp))) (fun w' hw => cf.out _ hw.below) _ _ _ _ ?_
          refine' wpAnyB_bulk [false, false, false, false, false, false, false, false, false, false, false, false, false, false, false, false, true, true, true, false, true, true, true, true, true] 146 (listed' := #[true, true, true, true, true, true, true, true, true, true, true, true, true, true, true, true, true, true, true, false, true, true, true, true, true, false, false, false, false, false, false, false, false, false, false, false, false, false, false, false, false, false, false, false, false, false, false, false, false, false, false, false, false, false, false, false, false]) rfl (by kernel_rfl) (by kernel_rfl) (by kernel_rfl) (by kernel_rfl) (by kernel_rfl) (by kernel_rfl) (by decide) (fun _ _ _ _ h => h) rfl HP.out (fun wq hq => ?_) ?_; rotate_left 1
          · simp only [maskL]
            have q1 := hq.blk.some_ (i := 1) rfl
            have q2 := hq.blk.some_ (i := 2) rfl
            have q3 := hq.blk.some_ (i := 3) rfl
            repeat (go_big_quiet_step (fail))
            exact wpQuiet_nil rfl
          refine wpAnyB_bar [false, false, false, false, false, false, false, false, false, false, false, false, false, false, false, false, false, false, false, true] (fuel := 32) (by rfl) (by rfl) (by kernel_rfl) (fun QB hQB hQX => ?_)
          simp only [maskL]
          go_wp2_with fail
          obtain ⟨fq, hq⟩ := HP.out.last.get
          refine (log_len _ fq g M hq).mono ?_
          rintro e' w3 ⟨rfl, rfl⟩
          go_wp2_with fail
          refine hQB.out _ _ HP.out ?_
          clear hQB hQX QB
          refine' wpAnyB_bulk [false, false, false, false, false, false, false, false, false, false, false, false, false, false, false, false, false, false, false, false, false, false, false, false, false, true, true, true, true, false, true, true, true, true] 146 (listed' := #[true, true, true, true, true, true, true, true, true, true, true, true, true, true, true, true, true, true, true, true, true, true, true, true, true, true, true, true, true, false, true, true, true, true, false, false, false, false, false, false, false, false, false, false, false, false, false, false, false, false, false, false, false, false, false, false, false]) rfl (by kernel_rfl) (by kernel_rfl) (by kernel_rfl) (by kernel_rfl) (by kernel_rfl) (by kernel_rfl) (by decide) (fun _ _ _ _ h => h) rfl HP.out (fun wq hq => ?_) ?_; rotate_left 1
          · simp only [maskL]
            have q1 := hq.blk.some_ (i := 1) rfl
            have q2 := hq.blk.some_ (i := 2) rfl
            have q3 := hq.blk.some_ (i := 3) rfl
            repeat (go_big_quiet_step (fail))
            exact wpQuiet_nil rfl
          refine wpAnyB_bar [false, false, false, false, false, false, false, false, false, false, false, false, false, false, false, false, false, false, false, false, false, false, false, false, false, false, false, false, false, true] (fuel := 23) (by rfl) (by rfl) (by kernel_rfl) (fun QB hQB hQX => ?_)
          simp only [maskL]
          go_wp2_with fail
          refine (log_addrs _ fq g M hq HIM.out).mono ?_
          rintro e' w3 ⟨A3, c3, rfl, ho3, hc3⟩
          have HP3 := hid (HP.out.chg0 hc3)
          have hr3 := row_reads ho3
          have hm3 := row_reads HP3.out.swap.row
          clear HP hq fq hc3 ho3
          go_wp2_with fail
          refine hQB.out _ _ HP3.out ?_
          clear hQB hQX QB
          refine wpAnyB_bar [false, false, false, false, false, false, false, false, false, false, false, false, false, false, false, false, false, false, false, false, false, false, false, false, false, false, false, false, false, false, false, false, false, false, true] (fuel := 22) (by rfl) (by rfl) (by kernel_rfl) (fun QB hQB hQX => ?_)
          simp only [maskL]
          go_wp2_with fail
          refine (ints_any _ _ _ _ _ _ _ _ _ M.addrs M.addrs hr3 hm3 (by omega)).mono ?_
          rintro e' w4 ⟨rfl, q4, rfl⟩
          rw [decide_eq_true (rfl : M.addrs = M.addrs)]
          have HP := hid (HP3.out.drewN q4)
          clear HP3 hr3 hm3
          go_wp2_with fail
          refine hQB.out _ _ HP.out ?_
          clear hQB hQX QB
          refine' wpAnyB_bulk [false, false, false, false, false, false, false, false, false, false, false, false, false, false, false, false, false, false, false, false, false, false, false, false, false, false, false, false, false, false, false, false, false, false, false, true, true, true, true, false, true, true, true, true] 146 (listed' := #[true, true, true, true, true, true, true, true, true, true, true, true, true, true, true, true, true, true, true, true, true, true, true, true, true, true, true, true, true, true, true, true, true, true, true, true, true, true, true, false, true, true, true, true, false, false, false, false, false, false, false, false, false, false, false, false, false]) rfl (by kernel_rfl) (by kernel_rfl) (by kernel_rfl) (by kernel_rfl) (by kernel_rfl) (by kernel_rfl) (by decide) (fun _ _ _ _ h => h) rfl HP.out (fun wq hq => ?_) ?_; rotate_left 1
          · simp only [maskL]
            have q1 := hq.blk.some_ (i := 1) rfl
            have q2 := hq.blk.some_ (i := 2) rfl
            have q3 := hq.blk.some_ (i := 3) rfl
            repeat (go_big_quiet_step (fail))
            exact wpQuiet_nil rfl
          refine wpAnyB_bar [false, false, false, false, false, false, false, false, false, false, false, false, false, false, false, false, false, false, false, false, false, false, false, false, false, false, false, false, false, false, false, false, false, false, false, false, false, false, false, true] (fuel := 13) (by rfl) (by rfl) (by kernel_rfl) (fun QB hQB hQX => ?_)
          simp only [maskL]
          go_wp2_with fail
          obtain ⟨fq, hq⟩ := HP.out.last.get
          refine (log_values _ fq g M hq HIM.out).mono ?_
          rintro e' w3 ⟨A3, c3, rfl, ho3, hc3⟩
          have HP3 := hid (HP.out.chg0 hc3)
          have hr3 := row_reads ho3
          have hm3 := row_reads HP3.out.third.row
          clear HP hq fq hc3 ho3
          go_wp2_with fail
          refine hQB.out _ _ HP3.out ?_
          clear hQB hQX QB
          refine wpAnyB_bar [false, false, false, false, false, false, false, false, false, false, false, false, false, false, false, false, false, false, false, false, false, false, false, false, false, false, false, false, false, false, false, false, false, false, false, false, false, false, false, false, false, false, false, false, true] (fuel := 12) (by rfl) (by rfl) (by kernel_rfl) (fun QB hQB hQX => ?_)
          simp only [maskL]
          go_wp2_with fail
          refine (words_any _ _ _ _ _ _ _ _ _ M.vals M.vals hr3 hm3 (by omega)).mono ?_
          rintro e' w5 ⟨rfl, q5, rfl⟩
          rw [decide_eq_true (rfl : M.vals = M.vals)]
          have HP := hid (HP3.out.drewN q5)
          clear HP3 hr3 hm3
          go_wp2_with fail
          refine hQB.out _ _ HP.out ?_
          clear hQB hQX QB
          refine' wpAnyB_bulk [false, false, false, false, false, false, false, false, false, false, false, false, false, false, false, false, false, false, false, false, false, false, false, false, false, false, false, false, false, false, false, false, false, false, false, false, false, false, false, false, false, false, false, false, false, true, true, true, true, false, true, true, true, true] 146 (listed' := #[true, true, true, true, true, true, true, true, true, true, true, true, true, true, true, true, true, true, true, true, true, true, true, true, true, true, true, true, true, true, true, true, true, true, true, true, true, true, true, true, true, true, true, true, true, true, true, true, true, false, true, true, true, true, false, false, false]) rfl (by kernel_rfl) (by kernel_rfl) (by kernel_rfl) (by kernel_rfl) (by kernel_rfl) (by kernel_rfl) (by decide) (fun _ _ _ _ h => h) rfl HP.out (fun wq hq => ?_) ?_; rotate_left 1
          · simp only [maskL]
            have q1 := hq.blk.some_ (i := 1) rfl
            have q2 := hq.blk.some_ (i := 2) rfl
            have q3 := hq.blk.some_ (i := 3) rfl
            repeat (go_big_quiet_step (fail))
            exact wpQuiet_nil rfl
          refine wpAnyB_bar [false, false, false, false, false, false, false, false, false, false, false, false, false, false, false, false, false, false, false, false, false, false, false, false, false, false, false, false, false, false, false, false, false, false, false, false, false, false, false, false, false, false, false, false, false, false, false, false, false, true] (fuel := 3) (by rfl) (by rfl) (by kernel_rfl) (fun QB hQB hQX => ?_)
          simp only [maskL]
          go_wp2_with fail
          obtain ⟨fq, hq⟩ := HP.out.last.get
          refine (log_index _ fq g M hq HIM.out).mono ?_
          rintro e' w3 ⟨A3, c3, rfl, ho3, hc3⟩
          have HP3 := hid (HP.out.chg0 hc3)
          have hr3 := row_reads ho3
          have hm3 := row_reads HP3.out.fourth.row
          clear HP hq fq hc3 ho3
          go_wp2_with fail
          refine hQB.out _ _ HP3.out ?_
          clear hQB hQX QB
          refine wpAnyB_bar [false, false, false, false, false, false, false, false, false, false, false, false, false, false, false, false, false, false, false, false, false, false, false, false, false, false, false, false, false, false, false, false, false, false, false, false, false, false, false, false, false, false, false, false, false, false, false, false, false, false, false, false, false, false, true] (fuel := 2) (by rfl) (by rfl) (by kernel_rfl) (fun QB hQB hQX => ?_)
          simp only [maskL]
          go_wp2_with fail
          refine (ints_any _ _ _ _ _ _ _ _ _ M.idx M.idx hr3 hm3 (by omega)).mono ?_
          rintro e' w6 ⟨rfl, q6, rfl⟩
          rw [decide_eq_true (rfl : M.idx = M.idx)]
          have HP := hid (HP3.out.drewN q6)
          clear HP3 hr3 hm3
          go_wp2_with fail
          refine hQB.out _ _ HP.out ?_
          clear hQB hQX QB
          refine' wpAnyB_bulk [false, false, false, false, false, false, false, false, false, false, false, false, false, false, false, false, false, false, false, false, false, false, false, false, false, false, false, false, false, false, false, false, false, false, false, false, false, false, false, false, false, false, false, false, false, false, false, false, false, false, false, false, false, false, false, true, true] 146 (listed' := #[true, true, true, true, true, true, true, true, true, true, true, true, true, true, true, true, true, true, true, true, true, true, true, true, true, true, true, true, true, true, true, true, true, true, true, true, true, true, true, true, true, true, true, true, true, true, true, true, true, true, true, true, true, true, true, true, true]) rfl (by kernel_rfl) (by kernel_rfl) (by kernel_rfl) (by kernel_rfl) (by kernel_rfl) (by kernel_rfl) (by decide) (fun _ _ _ _ h => h) rfl HP.out (fun wq hq => ?_) ?_; rotate_left 1
          · simp only [maskL]
            repeat (go_big_quiet_step (fail))
            exact wpQuiet_nil rfl
          refine wpAnyB_done (by kernel_rfl) ?_ _
          -- END
          obtain ⟨g1, G1⟩ : ∃ g1, g1 = getV M v := ⟨_, rfl⟩
          obtain ⟨b1, B1⟩ : ∃ b1, b1 = getOk M v := ⟨_, rfl⟩
          have HG1 := hid G1
          have HB1 := hid B1
          clear G1 B1
          have h7 := HP.out.logClose rfl rfl
          have H7 := hid h7
          clear h7
          go_wp2_with fail
          obtain ⟨fq, hq⟩ := H7.out.drop.get
          refine (log_get _ fq g M v hq HIM.out).mono ?_
          rintro e' w7 ⟨rfl, q7, rfl⟩
          rw [← HG1.out, ← HB1.out]
          have h8 := H7.out.drewN q7
          rw [World.drewN_drewN] at h8
          have H8 := hid h8
          clear h8
          clear hq fq H7
          go_wp2_with fail
          obtain ⟨fq, hq⟩ := H8.out.get
          refine (rlog_get _ fq g2 M v hq HIM.out).mono ?_
          rintro e' w8 ⟨rfl, rfl⟩
          rw [← HG1.out, ← HB1.out]
          clear hq fq
          go_wp2_with fail
          obtain ⟨fq, hq⟩ := H8.out.drop.get
          refine (log_get _ fq g M _ hq HIM.out).mono ?_
          rintro e' w9 ⟨rfl, q9, rfl⟩
          have h9 := H8.out.drewN q9
          rw [World.drewN_drewN] at h9
          have H9 := hid h9
          clear h9
          clear hq fq H8
          go_wp2_with fail
          obtain ⟨fq, hq⟩ := H9.out.get
          refine (rlog_get _ fq g2 M _ hq HIM.out).mono ?_
          rintro e' w10 ⟨rfl, rfl⟩
          clear hq fq
          go_wp2_with fail
          go_roundw
          case rel => exact ⟨k + 1, M, by omega, by go_num, HIM.out, H9.out.swap⟩
          case measure => simp [intOf]; omega
      · go_wp2_with fail
        refine (awake13 _).mono ?_
        rintro e w3 ⟨rfl, hb⟩
        go_wp2_with fail
        go_ret
        exact ⟨rfl, h0.below.trans (hb.mono h0.size)⟩
  · have hd : decide (50 < (len1 : Int)) = true := decide_eq_true (by omega)
    go_enter Try.func13, Try.ntmps13
    go_wp2_with fail
    refine (awake13 _).mono ?_
    rintro e w3 ⟨rfl, hb⟩
    go_wp2_with fail
    go_ret
    exact ⟨rfl, hb⟩
end Go.Proofs.Ytponapjgajmdnaa
