/- validator and strongtxref09.Check: contracts. -/
import Derived.Test.YtfmmphabfdpegaaLab
import Derived.Test.YtfmmphabfdpegaaWd
import Derived.Deep.DeepCutAuto
namespace Go.Proofs.Ytfmmphabfdpegaa
open Go.RowKit
set_option linter.unusedVariables false

abbrev chkX (g : Nat) (zs : List Int) (rv : Int) (f : Bool) (x : Option Addr × Nat) : Asr :=
  blkA 105 g #[.slice x.1 zs.length x.2, .int .i64 rv, .bool f] * slA x.1 zs.length x.2 (zs.map (Value.int .i64))
/-- The program's validation: zs are the orecs that are left. -/
def chkA (g : Nat) (zs : List Int) (rv : Int) (f : Bool) : Asr := Asr.ex (chkX g zs rv f)
section
variable {w0 w : World} {R : Asr} {g : Nat} {zs : List Int} {rv : Int} {f : Bool}
theorem Hold.chkOpen (h : Hold w0 w (chkA g zs rv f * R)) : ∃ A c, Hold w0 w (blkA 105 g #[.slice A zs.length c, .int .i64 rv, .bool f] * (slA A zs.length c (zs.map (Value.int .i64)) * R)) := by
  obtain ⟨⟨A, c⟩, h⟩ := h.exOpen
  exact ⟨A, c, h.part⟩
theorem Hold.chkShut {A : Option Addr} {c : Nat} (h : Hold w0 w (blkA 105 g #[.slice A zs.length c, .int .i64 rv, .bool f] * (slA A zs.length c (zs.map (Value.int .i64)) * R))) : Hold w0 w (chkA g zs rv f * R) :=
  Hold.exClose (x := (A, c)) h.join
end
set_option maxHeartbeats 2000000 in
theorem chk_new (w0 w : World) (R : Asr) (A : Option Addr) (n c bA : Nat) (xs : List Int) (rv : Int) (h : Hold w0 w R) (hA : Reads w bA A n (xs.map (Value.int .i64))) (hn : n ≤ 1000000) :
    Calls Try.prog 36 #[.slice A n c, .int .i64 rv] w fun e w' => ∃ g, e = .returned (.pointer (some ⟨g, 0, none⟩)) ∧ Hold w0 w' (chkA g xs rv false * R) := by
  have lx : xs.length = n := by simpa using hA.len
  subst lx
  go_enter Try.func36, Try.ntmps36
  go_wp2_with fail
  refine (clone_int _ A _ c bA xs hA hn).mono ?_
  rintro e w1 ⟨A', c', rfl, hown, hc⟩
  have h1 := (h.newRow hc hown (Nat.le_refl _)).imp (Imp.on _ (Imp.rowSl _ _ _ _ _))
  have h2 := h1.newBlk (t := 105) (cs := #[.slice A' xs.length c', .int .i64 rv, .bool false])
  have H2 := hid h2.chkShut
  clear h h1 h2 hown hc hA
  go_wp2_with fail
  go_ret
  exact ⟨_, rfl, H2.out⟩
theorem chk_done (w0 w : World) (R : Asr) (g : Nat) (zs : List Int) (rv : Int) (f : Bool) (h : Hold w0 w (chkA g zs rv f * R)) :
    Calls Try.prog 39 #[.pointer (some ⟨g, 0, none⟩)] w fun e w' => e = .returned (.bool (f || zs.isEmpty)) ∧ w = w' := by
  obtain ⟨A, c, h1⟩ := h.chkOpen
  have q0 := h1.blk.some_ (i := 0) rfl
  have q2 := h1.blk.some_ (i := 2) rfl
  clear h h1
  cases f
  · cases zs with
    | nil =>
      go_enter Try.func39, Try.ntmps39
      go_wp2
      go_ret
      exact ⟨rfl, rfl⟩
    | cons z zs =>
      have e1 : (((z :: zs).length : Int) == 0) = false := by simp; omega
      go_enter Try.func39, Try.ntmps39
      go_wp2
      go_ret
      exact ⟨bool_eq (by simp; try omega), rfl⟩
  · go_enter Try.func39, Try.ntmps39
    go_wp2
    go_ret
    exact ⟨rfl, rfl⟩
theorem chk_failed (w0 w : World) (R : Asr) (g : Nat) (zs : List Int) (rv : Int) (f : Bool) (h : Hold w0 w (chkA g zs rv f * R)) :
    Calls Try.prog 40 #[.pointer (some ⟨g, 0, none⟩)] w fun e w' => e = .returned (.bool f) ∧ w = w' := by
  obtain ⟨A, c, h1⟩ := h.chkOpen
  have q2 := h1.blk.some_ (i := 2) rfl
  clear h h1
  go_enter Try.func40, Try.ntmps40
  go_wp2
  go_ret
  exact ⟨rfl, rfl⟩
theorem chk_step_done (w0 w : World) (R : Asr) (g : Nat) (m : Value) (zs : List Int) (rv : Int) (f : Bool) (h : Hold w0 w (chkA g zs rv f * R)) (hd : (f || zs.isEmpty) = true) :
    Calls Try.prog 37 #[.pointer (some ⟨g, 0, none⟩), m] w (RAccPost w0 (chkA g zs rv f * R) acc0) := by
  have h1 := h.alloc (.cells #[.int .i64 0, .int .i64 0, .int .i64 0, .int .u64 0, .int .u64 0, .bool false] 39)
  have HD := hid hd
  clear hd
  go_enter Try.func37, Try.ntmps37
  go_wp2_with fail
  refine (chk_done w0 _ R g zs rv f h1).mono ?_
  rintro e w' ⟨rfl, rfl⟩
  rw [HD.out]
  go_wp2_with fail
  exact bodyPost_ret (v := acc0.val) (by simp [results, Try.results37, acc0, go_sem]) rfl ⟨rfl, h1⟩
theorem slice_tail (w : World) (ad : Addr) (n c : Nat) : (Instr.slice 64 (.slice (some ad) (n + 1) c) (some (.int .i64 1)) none none).run Try.prog w = .ok (.slice (if c = 1 then some ad else some (ad.add 1)) n (c - 1)) w := by
  have hs : (sizeOf (Try.prog.elem 64)).run Try.prog w = .ok 1 w := by kernel_rfl
  rw [run_slice_l w 64 (some ad) (n + 1) c (by kernel_rfl) .i64 1 (by omega) (by omega), hs]
  simp [Result.andThen, sliced]
set_option maxRecDepth 8000 in
set_option maxHeartbeats 4000000 in
theorem chk_step (w0 w : World) (R : Asr) (g m : Nat) (C : Nat → List Int) (z : Int) (zs : List Int) (rv : Int) (h : Hold w0 w (chkA g (z :: zs) rv false * (memA m C * R))) (hC : COk C) (hz : -9223372036854775808 ≤ z ∧ z ≤ 9223372036854775807)
    (hv : 0 ≤ (opA C 1 2 z (valC C 2 z) true).got ∧ (opA C 1 2 z (valC C 2 z) true).got < 18446744073709551616) :
    Calls Try.prog 37 #[.pointer (some ⟨g, 0, none⟩), .pointer (some ⟨m, 0, none⟩)] w
      (RAccPost w0 (chkA g zs rv (decide (rv < (opA C 1 2 z (valC C 2 z) true).got / 64)) * (memA m C * R)) (opA C 1 2 z (valC C 2 z) true)) := by
  obtain ⟨a, ha⟩ : ∃ a, a = opA C 1 2 z (valC C 2 z) true := ⟨_, rfl⟩
  rw [← ha] at hv ⊢
  have HA := hid ha
  have HK := hid hC
  clear ha hC
  have h1 := (h.newBlk (t := 39) (cs := #[.int .i64 0, .int .i64 0, .int .i64 0, .int .u64 0, .int .u64 0, .bool false])).swap
  have H1 := hid h1
  clear h h1
  go_enter Try.func37, Try.ntmps37
  go_wp2_with fail
  have h1 := H1.out
  generalize hW : World.alloc _ _ = W at h1 ⊢
  generalize w.heap.size = gr at h1 ⊢
  clear hW H1
  refine (chk_done w0 _ _ g (z :: zs) rv false h1).mono ?_
  rintro e w' ⟨rfl, rfl⟩
  rw [show (false || (z :: zs).isEmpty) = false from rfl]
  obtain ⟨A, c, h2⟩ := h1.chkOpen
  obtain ⟨hnc, hcm, _⟩ := h2.swap.sl
  obtain ⟨ad, rfl, hz0, hzk⟩ := h2.swap.slAt (k := 0) (by simp)
  have q0 := h2.blk.some_ (i := 0) rfl
  have hz1 : W.cell? (ad.add 0) = some (.int .i64 z) := hz0
  have hz2 : W.cell? ad = some (.int .i64 z) := hz0
  have hlen : 0 < (z :: zs).length := by simp
  clear h1 hz0 hzk
  go_wp2_with fail
  refine (mem_load w0 _ _ m C 2 z (h2.imp (Imp.fourth _ _ _ _ _)) hz HK.out.len).mono ?_
  rintro e w1 ⟨rfl, h3⟩
  rw [← HA.out]
  generalize opE C 2 z = er
  have h4 := (h3.fourth').newBlk (t := 39) (cs := #[.int .i64 a.kind, .int .i64 a.cell, .int .i64 a.index, .int .u64 a.got, .int .u64 a.put, .bool a.done])
  clear h2 h3 q0 hz1 hz2
  have hsl := fun w => slice_tail w ad zs.length c
  obtain ⟨A2, hA2⟩ : ∃ A2, A2 = if c = 1 then some ad else some (ad.add 1) := ⟨_, rfl⟩
  rw [← hA2] at hsl
  have HA2 := hid hA2
  clear hA2
  have q0 := h4.drop.blk.some_ (i := 0) (u := .slice (some ad) (zs.length + 1) c) rfl
  have z0 := h4.drop.blk.frozen 0
  have h5 := (h4.swap.setBlk 0 (.slice A2 zs.length (c - 1)))
  have H5 := hid h5
  clear h4 h5
  go_wp2_with fail
  have h5 := H5.out
  generalize hW : World.setCell _ _ _ = W5 at h5 ⊢
  generalize w1.heap.size = ga at h5 ⊢
  clear hW H5 hsl q0 z0
  have h6 : Hold w0 W5 (blkA 105 g #[.slice A2 zs.length (c - 1), .int .i64 rv, .bool false] * (blkA 39 ga #[.int .i64 a.kind, .int .i64 a.cell, .int .i64 a.index, .int .u64 a.got, .int .u64 a.put, .bool a.done] * (slA A2 zs.length (c - 1) (zs.map (Value.int .i64)) * (blkA 39 gr #[.int .i64 0, .int .i64 0, .int .i64 0, .int .u64 0, .int .u64 0, .bool false] * (memA m C * R))))) := by
    rw [HA2.out]
    rw [HA2.out] at h5
    exact h5.imp (Imp.under _ (Imp.under _ (Imp.on _ (Imp.slTail _ _ _ _ _))))
  clear h5 HA2 hnc hcm hlen
  replace h6 := h6.drew
  refine wp_region_brk [11] (by kernel_rfl) ?_
  refine wpAnyB_now (fun w' => ∃ Z, Hold w0 w' (blkA 105 g #[.slice A2 zs.length (c - 1), .int .i64 rv, .bool false] * (blkA 39 ga #[.int .i64 a.kind, .int .i64 a.cell, .int .i64 a.index, .int .u64 a.got, .int .u64 a.put, .bool a.done] * Z))) (fun _ _ => trivial) _ _ _ _ ?_
  refine' wpAnyB_bulk [true, true, true, false, true, true, true, true] 41 (listed' := #[true, true, true, false, true, true, true, true, false, false, false, false]) rfl (by kernel_rfl) (by kernel_rfl) (by kernel_rfl) (by kernel_rfl) (by kernel_rfl) (by kernel_rfl) (by decide) (fun _ _ _ _ h => h) rfl ⟨_, h6⟩ (fun wq hq => ?_) ?_; rotate_left 1
  · simp only [maskL]
    obtain ⟨Z, hq⟩ := hq
    have q1 := hq.blk.some_ (i := 1) rfl
    have q3 := hq.drop.blk.some_ (i := 3) rfl
    repeat (go_big_quiet_step (fail))
    exact wpQuiet_nil rfl
  refine wpAnyB_bar [false, false, false, true] (fuel := 4) (by rfl) (by rfl) (by kernel_rfl) (fun QB hQB hQX => ?_)
  simp only [maskL]
  go_wp2_with fail
  refine (ver_any _ a.got hv.1 hv.2).mono ?_
  rintro e w' ⟨rfl, rfl⟩
  go_wp2_with fail
  refine hQB.out _ _ ⟨_, h6⟩ ?_
  clear hQB hQX QB
  have q2 := h6.blk.some_ (i := 2) rfl
  have z2 := h6.blk.frozen 2
  refine' wpAnyB_bulkT [false, false, false, false, false, false, false, false, true, true, true] 41 (listed' := #[true, true, true, true, true, true, true, true, true, true, true, false]) rfl (by kernel_rfl) (by kernel_rfl) (by kernel_rfl) (by kernel_rfl) (by kernel_rfl) (by decide) (fun _ _ _ _ h => h) rfl ⟨_, h6⟩ (fun wq _ => ?_) ?_; rotate_left 1
  · simp only [maskL]
    repeat (go_big_quiet_step (fail))
    exact wpQuiet_nil rfl
  refine wpAnyB_brk [false, false, false, false, false, false, false, false, false, false, false, true] (fuel := 0) (by rfl) (by rfl) (by kernel_rfl) (by kernel_rfl) (fun QB hQB hQX => ?_)
  simp only [maskL]
  go_wp2_with fail
  refine hQB.out _ _ ?_
  refine wpAnyB_forget (by kernel_rfl) ?_
  refine wpAnyB_done (by kernel_rfl) ?_ _
  clear hQB hQX QB q2 z2
  have h7 := h6.setBlk 2 (.bool (decide (rv < a.got / 64)))
  rw [World.setCell_drew] at h7
  have H7 := hid h7
  clear h6 h7
  have h7 := H7.out
  generalize hW : World.setCell _ _ _ = W7 at h7 ⊢
  clear hW H7
  replace h7 := h7.undrew
  obtain ⟨⟨x0, x1, x2, x3, x4, x5⟩, z0, z1, z2, z3, z4, z5⟩ := blk_acc (h7.fourth).blk
  obtain ⟨⟨y0, y1, y2, y3, y4, y5⟩, _⟩ := blk_acc h7.drop.blk
  have H8 := hid (h7.fourth.setAcc (.int .i64 a.kind) (.int .i64 a.cell) (.int .i64 a.index) (.int .u64 a.got) (.int .u64 a.put) (.bool a.done))
  clear h7
  go_wp2_with fail
  have h8 := H8.out
  generalize hW : World.setCell _ _ _ = W8 at h8 ⊢
  clear hW H8 x0 x1 x2 x3 x4 x5 z0 z1 z2 z3 z4 z5 y0 y1 y2 y3 y4 y5
  obtain ⟨⟨y0, y1, y2, y3, y4, y5⟩, _⟩ := blk_acc h8.blk
  have h9 : Hold w0 W8 (blkA 105 g #[.slice A2 zs.length (c - 1), .int .i64 rv, .bool (decide (rv < a.got / 64))] * (slA A2 zs.length (c - 1) (zs.map (Value.int .i64)) * (memA m C * R))) := h8.drop.imp (Imp.under _ (Imp.drop _ _))
  have hfin : Hid (RAccPost w0 (chkA g zs rv (decide (rv < a.got / 64)) * (memA m C * R)) a (.returned a.val) W8.drew) := hid ⟨rfl, h9.drew.chkShut⟩
  exact bodyPost_ret (v := a.val) (by simp [results, Try.results37, go_sem, y0, y1, y2, y3, y4, y5]) rfl hfin.out
abbrev rchkX (g : Nat) (xs : List Int) (rv : Int) (k : Nat) (f : Bool) (x : Option Addr × Nat) : Asr :=
  blkA 85 g #[.slice x.1 xs.length x.2, .int .i64 rv, .int .i64 k, .bool f] * slA x.1 xs.length x.2 (xs.map (Value.int .i64))
/-- The document's validation. -/
def rchkA (g : Nat) (xs : List Int) (rv : Int) (k : Nat) (f : Bool) : Asr := Asr.ex (rchkX g xs rv k f)
section
variable {w0 w : World} {R : Asr} {g k : Nat} {xs : List Int} {rv : Int} {f : Bool}
theorem Hold.rchkOpen (h : Hold w0 w (rchkA g xs rv k f * R)) : ∃ A c, Hold w0 w (blkA 85 g #[.slice A xs.length c, .int .i64 rv, .int .i64 k, .bool f] * (slA A xs.length c (xs.map (Value.int .i64)) * R)) := by
  obtain ⟨⟨A, c⟩, h⟩ := h.exOpen
  exact ⟨A, c, h.part⟩
theorem Hold.rchkShut {A : Option Addr} {c : Nat} (h : Hold w0 w (blkA 85 g #[.slice A xs.length c, .int .i64 rv, .int .i64 k, .bool f] * (slA A xs.length c (xs.map (Value.int .i64)) * R))) : Hold w0 w (rchkA g xs rv k f * R) :=
  Hold.exClose (x := (A, c)) h.join
end
theorem rchk_new (w0 w : World) (R : Asr) (A : Option Addr) (c : Nat) (xs : List Int) (rv : Int) (h : Hold w0 w (slA A xs.length c (xs.map (Value.int .i64)) * R)) :
    Calls Try.prog 42 #[.slice A xs.length c, .int .i64 rv] w fun e w' => ∃ g, e = .returned (.pointer (some ⟨g, 0, none⟩)) ∧ Hold w0 w' (rchkA g xs rv 0 false * R) := by
  have h2 := h.newBlk (t := 85) (cs := #[.slice A xs.length c, .int .i64 rv, .int .i64 (0 : Nat), .bool false])
  have H2 := hid h2.rchkShut
  clear h h2
  go_enter Try.func42, Try.ntmps42
  go_wp2_with fail
  go_ret
  exact ⟨_, rfl, H2.out⟩
def rdoneB (xs : List Int) (k : Nat) (f : Bool) : Bool := f || decide (k = xs.length)
theorem rchk_done (w0 w : World) (R : Asr) (g : Nat) (xs : List Int) (rv : Int) (k : Nat) (f : Bool) (h : Hold w0 w (rchkA g xs rv k f * R)) :
    Calls Try.prog 43 #[.pointer (some ⟨g, 0, none⟩)] w fun e w' => e = .returned (.bool (rdoneB xs k f)) ∧ Hold w0 w' (rchkA g xs rv k f * R) := by
  obtain ⟨A, c, h1⟩ := h.rchkOpen
  have hfin : Hid (∀ q, Hold w0 (w.drewN q) (rchkA g xs rv k f * R)) := hid fun q => h.drewN q
  have q0 := h1.blk.some_ (i := 0) rfl
  have q2 := h1.blk.some_ (i := 2) rfl
  have q3 := h1.blk.some_ (i := 3) rfl
  clear h h1
  cases f
  · by_cases hk : k = xs.length
    · have e1 : ((k : Int) == (xs.length : Int)) = true := by simp [hk]
      have e2 : (k == xs.length) = true := by simp [hk]
      have HR : Hid (rdoneB xs k false = true) := hid (by simp [rdoneB, hk])
      clear hk
      go_enter Try.func43, Try.ntmps43
      go_wp2_with fail
      go_quiet (fail)
      go_wp2_with fail
      go_ret
      exact ⟨bool_eq HR.out.symm, hfin.out _⟩
    · have e1 : ((k : Int) == (xs.length : Int)) = false := by simp; omega
      have e2 : (k == xs.length) = false := by simp [hk]
      have HR : Hid (rdoneB xs k false = false) := hid (by simp [rdoneB, hk])
      clear hk
      go_enter Try.func43, Try.ntmps43
      go_wp2_with fail
      go_quiet (fail)
      go_wp2_with fail
      go_ret
      exact ⟨bool_eq HR.out.symm, hfin.out _⟩
  · go_enter Try.func43, Try.ntmps43
    go_wp2_with fail
    go_quiet (fail)
    go_wp2_with fail
    go_ret
    exact ⟨rfl, hfin.out _⟩
theorem rchk_step_done (w0 w : World) (R : Asr) (g : Nat) (m : Value) (xs : List Int) (rv : Int) (k : Nat) (f : Bool) (h : Hold w0 w (rchkA g xs rv k f * R)) (hd : rdoneB xs k f = true) :
    Calls Try.prog 44 #[.pointer (some ⟨g, 0, none⟩), m] w (RAccPost w0 (rchkA g xs rv k f * R) acc0) := by
  have h1 := (h.newBlk (t := 39) (cs := #[.int .i64 0, .int .i64 0, .int .i64 0, .int .u64 0, .int .u64 0, .bool false])).swap
  have HD := hid hd
  clear hd
  go_enter Try.func44, Try.ntmps44
  go_wp2_with fail
  generalize hW : World.alloc _ _ = W at h1 ⊢
  generalize w.heap.size = gr at h1 ⊢
  clear hW h
  refine (rchk_done w0 _ _ g xs rv k f h1).mono ?_
  rintro e w1 ⟨rfl, h2⟩
  rw [HD.out]
  obtain ⟨⟨x0, x1, x2, x3, x4, x5⟩, z0, z1, z2, z3, z4, z5⟩ := blk_acc h2.swap.blk
  have H3 := hid (h2.swap.setAcc (.int .i64 0) (.int .i64 0) (.int .i64 0) (.int .u64 0) (.int .u64 0) (.bool false))
  clear h1 h2
  go_wp2_with fail
  have h3 := H3.out
  generalize hW : World.setCell _ _ _ = W3 at h3 ⊢
  clear hW H3 x0 x1 x2 x3 x4 x5 z0 z1 z2 z3 z4 z5
  obtain ⟨⟨y0, y1, y2, y3, y4, y5⟩, _⟩ := blk_acc h3.blk
  exact bodyPost_ret (v := acc0.val) (by simp [results, Try.results44, acc0, go_sem, y0, y1, y2, y3, y4, y5]) rfl ⟨rfl, h3.drop⟩
set_option maxRecDepth 8000 in
set_option maxHeartbeats 4000000 in
theorem rchk_step (w0 w : World) (R : Asr) (g m : Nat) (c : Cfg) (C : Nat → List Int) (xs : List Int) (rv : Int) (k : Nat) (h : Hold w0 w (rchkA g xs rv k false * (refA m c C * R))) (hC : COk C) (hk : k < xs.length) (z : Int) (hz : xs.getD k 0 = z) (hl : xs.length ≤ 1000000)
    (hv : 0 ≤ (opA C 1 2 z (valC C 2 z) true).got ∧ (opA C 1 2 z (valC C 2 z) true).got < 18446744073709551616) :
    Calls Try.prog 44 #[.pointer (some ⟨g, 0, none⟩), .pointer (some ⟨m, 0, none⟩)] w
      (RAccPost w0 (rchkA g xs rv (k + 1) (decide (rv < (opA C 1 2 z (valC C 2 z) true).got / 64)) * (refA m c C * R)) (opA C 1 2 z (valC C 2 z) true)) := by
  obtain ⟨a, ha⟩ : ∃ a, a = opA C 1 2 z (valC C 2 z) true := ⟨_, rfl⟩
  rw [← ha] at hv ⊢
  have HA := hid ha
  have HK := hid hC
  have HZ := hid hz
  clear ha hC hz
  have h1 := (h.newBlk (t := 39) (cs := #[.int .i64 0, .int .i64 0, .int .i64 0, .int .u64 0, .int .u64 0, .bool false])).swap
  have H1 := hid h1
  clear h h1
  go_enter Try.func44, Try.ntmps44
  go_wp2_with fail
  have h1 := H1.out
  generalize hW : World.alloc _ _ = W at h1 ⊢
  generalize w.heap.size = gr at h1 ⊢
  clear hW H1
  refine (rchk_done w0 _ _ g xs rv k false h1).mono ?_
  rintro e w1 ⟨rfl, h2⟩
  rw [show rdoneB xs k false = false by simp [rdoneB]; omega]
  clear h1
  obtain ⟨A, cp, h3⟩ := h2.rchkOpen
  obtain ⟨ad, rfl, _, hzk⟩ := h3.swap.slAt hk
  have hzk2 : ∀ w', Hold w0 w' (blkA 85 g #[.slice (some ad) xs.length cp, .int .i64 rv, .int .i64 k, .bool false] * (slA (some ad) xs.length cp (xs.map (Value.int .i64)) * (blkA 39 gr #[.int .i64 0, .int .i64 0, .int .i64 0, .int .u64 0, .int .u64 0, .bool false] * (refA m c C * R)))) → w'.cell? (ad.add k) = some (.int .i64 z) := fun w' h' => by
    rw [hzk w' h'.swap, List.getElem?_map, ← HZ.out]
    simp [List.getD, List.getElem?_eq_getElem hk]
  have HZK := hid hzk2
  have i0 : (0 : Int) ≤ (k : Int) := by omega
  have i1 : (k : Int) < (xs.length : Int) := by omega
  clear hzk hzk2 h2
  go_upto_region 3 with fail
  go_cut [5] (fun s wx => ∃ ga, s = .pointer (some ⟨ga, 0, none⟩) ∧ Hold w0 wx (blkA 39 ga #[.int .i64 a.kind, .int .i64 a.cell, .int .i64 a.index, .int .u64 a.got, .int .u64 a.put, .bool a.done] * (blkA 85 g #[.slice (some ad) xs.length cp, .int .i64 rv, .int .i64 k, .bool false] * (slA (some ad) xs.length cp (xs.map (Value.int .i64)) * (blkA 39 gr #[.int .i64 0, .int .i64 0, .int .i64 0, .int .u64 0, .int .u64 0, .bool false] * (refA m c C * R))))))
  case first =>
    replace h3 := h3.drew
    refine wp_region_brk [13] (by kernel_rfl) ?_
    refine wpAnyB_now (fun w' => Hold w0 w' (blkA 85 g #[.slice (some ad) xs.length cp, .int .i64 rv, .int .i64 k, .bool false] * (slA (some ad) xs.length cp (xs.map (Value.int .i64)) * (blkA 39 gr #[.int .i64 0, .int .i64 0, .int .i64 0, .int .u64 0, .int .u64 0, .bool false] * (refA m c C * R))))) (fun _ _ => trivial) _ _ _ _ ?_
    refine' wpAnyB_bulk [true, true, true, true, true, true, true, true, true, true, true] 40 (listed' := #[true, true, true, true, true, true, true, true, true, true, true, false, false, false]) rfl (by kernel_rfl) (by kernel_rfl) (by kernel_rfl) (by kernel_rfl) (by kernel_rfl) (by kernel_rfl) (by decide) (fun _ _ _ _ h => h) rfl h3 (fun wq hq => ?_) ?_; rotate_left 1
    · simp only [maskL]
      have q0 := hq.blk.some_ (i := 0) rfl
      have q2 := hq.blk.some_ (i := 2) rfl
      have qz := HZK.out wq hq
      repeat (go_big_quiet_step (fail))
      exact wpQuiet_nil rfl
    refine wpAnyB_two [false, false, false, false, false, false, false, false, false, false, false, true] [false, false, false, false, false, false, false, false, false, false, false, false, true] (fuel := 2) (by rfl) (by rfl) (by rfl) (by rfl) (by kernel_rfl) (fun QB hQB hQX => ?_) (fun QB hQB hQX => ?_)
    · simp only [maskL]
      go_wp2_with fail
      first
        | refine (ref_load w0 _ _ m c C 2 z (h4.imp ((Imp.under _ (Imp.fourth _ _ _ _ _)).trans (Imp.swap _ _ _))) HK.out).mono ?_
        | refine (ref_load w0 _ _ m c C 2 z (h3.imp (Imp.fourth _ _ _ _ _)) HK.out).mono ?_
      rintro e w2 ⟨rfl, h5⟩
      rw [← HA.out]
      go_wp2_with fail
      refine hQB.out _ _ (by first | exact (h5.swap.imp (Imp.under _ (Imp.fourth' _ _ _ _ _))).drop | exact h5.fourth') ?_
      clear hQB hQX QB
      refine wpAnyB_bar [false, false, false, false, false, false, false, false, false, false, false, false, true] (fuel := 1) (by rfl) (by rfl) (by kernel_rfl) (fun QB hQB hQX => ?_)
      simp only [maskL]
      first
        | have h4 := hid (h5.fourth'.newBlk (t := 39) (cs := #[.int .i64 0, .int .i64 0, .int .i64 0, .int .u64 0, .int .u64 0, .bool false]))
        | have h4 := hid ((h3.undrew.newBlk (t := 39) (cs := #[.int .i64 0, .int .i64 0, .int .i64 0, .int .u64 0, .int .u64 0, .bool false])).drew)
      go_wp2_with fail
      refine hQB.out _ _ h4.out.drop ?_
      clear hQB hQX QB
      replace h4 := h4.out
      generalize hW : World.alloc _ _ = W4 at h4 ⊢
      clear hW
      first | generalize w2.heap.size = ga at h4 ⊢ | generalize w1.heap.size = ga at h4 ⊢
      refine wpAnyB_brk [false, false, false, false, false, false, false, false, false, false, false, false, false, true] (fuel := 0) (by rfl) (by rfl) (by kernel_rfl) (by kernel_rfl) (fun QB hQB hQX => ?_)
      simp only [maskL]
      first | have hf := h5.swap.imp (Imp.under _ (Imp.fourth' _ _ _ _ _)) | have hf := h4
      obtain ⟨⟨x0, x1, x2, x3, x4, x5⟩, z0, z1, z2, z3, z4, z5⟩ := blk_acc hf.blk
      have H8 := hid (hf.setAcc (.int .i64 a.kind) (.int .i64 a.cell) (.int .i64 a.index) (.int .u64 a.got) (.int .u64 a.put) (.bool a.done))
      clear hf h3 h4 h5
      go_wp2_with fail
      refine hQB.out _ _ ?_
      clear hQB hQX QB
      refine wpAnyB_forget (by kernel_rfl) ?_
      refine wpAnyB_done (by kernel_rfl) ?_ _
      -- END
      clear x0 x1 x2 x3 x4 x5 z0 z1 z2 z3 z4 z5
      go_wp2_with fail
      go_meet
      exact ⟨ga, rfl, H8.out⟩
    · simp only [maskL]
      first
        | have h4 := hid (h5.fourth'.newBlk (t := 39) (cs := #[.int .i64 0, .int .i64 0, .int .i64 0, .int .u64 0, .int .u64 0, .bool false]))
        | have h4 := hid ((h3.undrew.newBlk (t := 39) (cs := #[.int .i64 0, .int .i64 0, .int .i64 0, .int .u64 0, .int .u64 0, .bool false])).drew)
      go_wp2_with fail
      refine hQB.out _ _ h4.out.drop ?_
      clear hQB hQX QB
      replace h4 := h4.out
      generalize hW : World.alloc _ _ = W4 at h4 ⊢
      clear hW
      first | generalize w2.heap.size = ga at h4 ⊢ | generalize w1.heap.size = ga at h4 ⊢
      refine wpAnyB_bar [false, false, false, false, false, false, false, false, false, false, false, true] (fuel := 1) (by rfl) (by rfl) (by kernel_rfl) (fun QB hQB hQX => ?_)
      simp only [maskL]
      go_wp2_with fail
      first
        | refine (ref_load w0 _ _ m c C 2 z (h4.imp ((Imp.under _ (Imp.fourth _ _ _ _ _)).trans (Imp.swap _ _ _))) HK.out).mono ?_
        | refine (ref_load w0 _ _ m c C 2 z (h3.imp (Imp.fourth _ _ _ _ _)) HK.out).mono ?_
      rintro e w2 ⟨rfl, h5⟩
      rw [← HA.out]
      go_wp2_with fail
      refine hQB.out _ _ (by first | exact (h5.swap.imp (Imp.under _ (Imp.fourth' _ _ _ _ _))).drop | exact h5.fourth') ?_
      clear hQB hQX QB
      refine wpAnyB_brk [false, false, false, false, false, false, false, false, false, false, false, false, false, true] (fuel := 0) (by rfl) (by rfl) (by kernel_rfl) (by kernel_rfl) (fun QB hQB hQX => ?_)
      simp only [maskL]
      first | have hf := h5.swap.imp (Imp.under _ (Imp.fourth' _ _ _ _ _)) | have hf := h4
      obtain ⟨⟨x0, x1, x2, x3, x4, x5⟩, z0, z1, z2, z3, z4, z5⟩ := blk_acc hf.blk
      have H8 := hid (hf.setAcc (.int .i64 a.kind) (.int .i64 a.cell) (.int .i64 a.index) (.int .u64 a.got) (.int .u64 a.put) (.bool a.done))
      clear hf h3 h4 h5
      go_wp2_with fail
      refine hQB.out _ _ ?_
      clear hQB hQX QB
      refine wpAnyB_forget (by kernel_rfl) ?_
      refine wpAnyB_done (by kernel_rfl) ?_ _
      -- END
      clear x0 x1 x2 x3 x4 x5 z0 z1 z2 z3 z4 z5
      go_wp2_with fail
      go_meet
      exact ⟨ga, rfl, H8.out⟩
  case rest =>
  obtain ⟨ga, rfl, h5⟩ := hcut
  clear HZK h3
  have q2 := h5.drop.blk.some_ (i := 2) rfl
  have z2 := h5.drop.blk.frozen 2
  have H6 := hid (h5.swap.setBlk 2 (.int .i64 ((k : Int) + 1)))
  clear h5
  go_wp2_with fail
  have h6 := H6.out
  generalize hW : World.setCell _ _ _ = W6 at h6 ⊢
  clear hW H6 q2 z2
  replace h6 := h6.drew
  refine wp_region_brk [11] (by kernel_rfl) ?_
  refine wpAnyB_now (fun w' => ∃ Z, Hold w0 w' (blkA 85 g #[.slice (some ad) xs.length cp, .int .i64 rv, .int .i64 ((k : Int) + 1), .bool false] * (blkA 39 ga #[.int .i64 a.kind, .int .i64 a.cell, .int .i64 a.index, .int .u64 a.got, .int .u64 a.put, .bool a.done] * Z))) (fun _ _ => trivial) _ _ _ _ ?_
  refine' wpAnyB_bulk [true, true, true, false, true, true, true, true] 40 (listed' := #[true, true, true, false, true, true, true, true, false, false, false, false]) rfl (by kernel_rfl) (by kernel_rfl) (by kernel_rfl) (by kernel_rfl) (by kernel_rfl) (by kernel_rfl) (by decide) (fun _ _ _ _ h => h) rfl ⟨_, h6⟩ (fun wq hq => ?_) ?_; rotate_left 1
  · simp only [maskL]
    obtain ⟨Z, hq⟩ := hq
    have q1 := hq.blk.some_ (i := 1) rfl
    have q3 := hq.drop.blk.some_ (i := 3) rfl
    repeat (go_big_quiet_step (fail))
    exact wpQuiet_nil rfl
  refine wpAnyB_bar [false, false, false, true] (fuel := 4) (by rfl) (by rfl) (by kernel_rfl) (fun QB hQB hQX => ?_)
  simp only [maskL]
  go_wp2_with fail
  refine (rver_any _ a.got hv.1 hv.2).mono ?_
  rintro e w' ⟨rfl, rfl⟩
  go_wp2_with fail
  refine hQB.out _ _ ⟨_, h6⟩ ?_
  clear hQB hQX QB
  have q2 := h6.blk.some_ (i := 3) rfl
  have z2 := h6.blk.frozen 3
  refine' wpAnyB_bulkT [false, false, false, false, false, false, false, false, true, true, true] 40 (listed' := #[true, true, true, true, true, true, true, true, true, true, true, false]) rfl (by kernel_rfl) (by kernel_rfl) (by kernel_rfl) (by kernel_rfl) (by kernel_rfl) (by decide) (fun _ _ _ _ h => h) rfl ⟨_, h6⟩ (fun wq _ => ?_) ?_; rotate_left 1
  · simp only [maskL]
    repeat (go_big_quiet_step (fail))
    exact wpQuiet_nil rfl
  refine wpAnyB_brk [false, false, false, false, false, false, false, false, false, false, false, true] (fuel := 0) (by rfl) (by rfl) (by kernel_rfl) (by kernel_rfl) (fun QB hQB hQX => ?_)
  simp only [maskL]
  go_wp2_with fail
  refine hQB.out _ _ ?_
  refine wpAnyB_forget (by kernel_rfl) ?_
  refine wpAnyB_done (by kernel_rfl) ?_ _
  clear hQB hQX QB q2 z2
  have h7 := h6.setBlk 3 (.bool (decide (rv < a.got / 64)))
  rw [World.setCell_drew] at h7
  have H7 := hid h7
  clear h6 h7
  have h7 := H7.out
  generalize hW : World.setCell _ _ _ = W7 at h7 ⊢
  clear hW H7
  replace h7 := h7.undrew
  obtain ⟨⟨x0, x1, x2, x3, x4, x5⟩, z0, z1, z2, z3, z4, z5⟩ := blk_acc (h7.fourth).blk
  obtain ⟨⟨y0, y1, y2, y3, y4, y5⟩, _⟩ := blk_acc h7.drop.blk
  have H8 := hid (h7.fourth.setAcc (.int .i64 a.kind) (.int .i64 a.cell) (.int .i64 a.index) (.int .u64 a.got) (.int .u64 a.put) (.bool a.done))
  clear h7
  go_wp2_with fail
  have h8 := H8.out
  generalize hW : World.setCell _ _ _ = W8 at h8 ⊢
  clear hW H8 x0 x1 x2 x3 x4 x5 z0 z1 z2 z3 z4 z5 y0 y1 y2 y3 y4 y5
  obtain ⟨⟨y0, y1, y2, y3, y4, y5⟩, _⟩ := blk_acc h8.blk
  have h9 : Hold w0 W8 (blkA 85 g #[.slice (some ad) xs.length cp, .int .i64 rv, .int .i64 ((k + 1 : Nat) : Int), .bool (decide (rv < a.got / 64))] * (slA (some ad) xs.length cp (xs.map (Value.int .i64)) * (refA m c C * R))) := h8.drop.imp (Imp.under _ (Imp.drop _ _))
  have hfin : Hid (RAccPost w0 (rchkA g xs rv (k + 1) (decide (rv < a.got / 64)) * (refA m c C * R)) a (.returned a.val) W8.drew) := hid ⟨rfl, h9.drew.rchkShut⟩
  exact bodyPost_ret (v := a.val) (by simp [results, Try.results44, go_sem, y0, y1, y2, y3, y4, y5]) rfl hfin.out
end Go.Proofs.Ytfmmphabfdpegaa
