/- The reference's cells: New. -/
import Derived.Test.YtopcnaakdldkpaaRef08
import Derived.Test.YtopcnaakdldkpaaClass
import Derived.Test.YtopcnaakdldkpaaCells
namespace Go.Proofs.Ytopcnaakdldkpaa
open Go.RowKit
set_option linter.unusedVariables false

abbrev refV (c : Cfg) (v1 v2 v6 v7 v8 : Value) : Array Value := #[.int .i64 c.words, .int .i64 c.orecs, .int .i64 c.base, .int .i64 c.c0, .int .i64 c.c1, .int .i64 c.c2, .int .i64 c.c3, .int .i64 c.reads, .int .i64 c.writes, .int .i64 c.allocs, .int .i64 c.frees, .int .i64 c.clock, .bool c.strong, v1, v2, .int .u64 0, .int .u64 0, .int .u64 0, v6, v7, v8]
theorem Hold.refClose {w0 w : World} {R : Asr} {g n1 n2 n6 n7 n8 c1 c2 c6 c7 c8 : Nat} {A1 A2 A6 A7 A8 : Option Addr} {c : Cfg} {C : Nat → List Int} {x1 x2 x6 x7 x8 : List Int}
    (h : Hold w0 w (blkA 95 g (refV c (.slice A1 n1 c1) (.slice A2 n2 c2) (.slice A6 n6 c6) (.slice A7 n7 c7) (.slice A8 n8 c8)) * sepR [numA (.slice A1 n1 c1) n1 x1, numA (.slice A2 n2 c2) n2 x2, numA (.slice A6 n6 c6) n6 x6, numA (.slice A7 n7 c7) n7 x7, numA (.slice A8 n8 c8) n8 x8] R))
    (e1 : C 1 = x1) (e2 : C 2 = x2) (e6 : C 6 = x6) (e7 : C 7 = x7) (e8 : C 8 = x8) (y3 : w1 C 3 = 0) (y4 : w1 C 4 = 0) (y5 : w1 C 5 = 0)
    (l1 : x1.length = n1) (l2 : x2.length = n2) (l6 : x6.length = n6) (l7 : x7.length = n7) (l8 : x8.length = n8) : Hold w0 w (refA g c C * R) := by
  subst e1; subst e2; subst e6; subst e7; subst e8
  subst l1; subst l2; subst l6; subst l7; subst l8
  refine Hold.refShut (x := ⟨0, fun k => match k with | 1 => A1 | 2 => A2 | 6 => A6 | 7 => A7 | _ => A8, fun k => match k with | 1 => c1 | 2 => c2 | 6 => c6 | 7 => c7 | _ => c8⟩) ?_
  unfold refF refB
  rw [y3, y4, y5]
  exact h
theorem Imp.rev4 (p q r t s : Asr) : Imp (p * (q * (r * (t * s)))) (t * (r * (q * (p * s)))) := (Imp.fourth p q r t s).trans (Imp.under t ((Imp.third p q r s).trans (Imp.under r (Imp.swap p q s))))
theorem rclass_int (w : World) (c : Cfg) (b : Int) (k : Nat) (h : cfgErr c = 0) (hb : k < nbl c) (hk : b = k) : Calls Try.prog 28 #[c.val, .int .i64 b] w fun e w' => e = .returned (.int .i64 (cls c k : Nat)) ∧ Chg [] w w' := by
  subst hk
  exact rclass_any w c k h hb
theorem range_map_succ (f : Nat → Int) (b : Nat) : ((List.range b).map f).map (Value.int .u64) ++ [.int .u64 (f b)] = ((List.range (b + 1)).map f).map (Value.int .u64) := by simp [List.range_succ]
def NewRPost (w0 : World) (R : Asr) (c : Cfg) (th : Nat) (init : List Int) (e : Ending) (w' : World) : Prop := ∃ g, e = .returned (.pointer (some ⟨g, 0, none⟩)) ∧ Hold w0 w' (refA g c (newC c th init) * R)


set_option maxRecDepth 8000 in
set_option maxHeartbeats 8000000 in
theorem rnew_any (w0 w : World) (R : Asr) (c : Cfg) (th : Nat) (A : Option Addr) (k0 bA : Nat) (init : List Int) (hc : cfgErr c = 0) (h1 : 1 ≤ th) (h2 : th ≤ 16) (hl : (init.length : Int) = c.words) (hR : Hold w0 w R)
    (hA : ∀ w', Hold w0 w' R → Reads w' bA A init.length (init.map (Value.int .u64))) :
    Calls Try.prog 35 #[c.val, .int .i64 th, .slice A init.length k0] w (NewRPost w0 R c th init) := by
  obtain ⟨iU, hiU, hzU0, hzU1, hzU2⟩ := info_parts info_u64
  obtain ⟨o, ho⟩ : ∃ o : Nat, c.orecs = o := ⟨c.orecs.toNat, by have := (cfgOk_of hc).o; omega⟩
  obtain ⟨n, hn⟩ : ∃ n, n = init.length := ⟨_, rfl⟩
  have n64 : n ≤ 64 := by have := (cfgOk_of hc).w; omega
  have o64 : o ≤ 64 := by have := (cfgOk_of hc).o; omega
  have nb64 := nbl_le (cfgOk_of hc)
  obtain ⟨nb, hnb⟩ : ∃ nb, nb = nbl c := ⟨_, rfl⟩
  rw [← hn] at hl hA ⊢
  rw [← hnb] at nb64
  have HC := hid hc
  have Hl := hid hl
  have Hn := hid hn
  have Hnb := hid hnb
  have HA := hid hA
  have Ho := hid ho
  clear hc hl hn hA ho hnb
  go_enter Try.func35, Try.ntmps35
  go_wp2_with fail
  refine (rblocks_any _ c HC.out).mono ?_
  rintro e w1 ⟨rfl, hc1⟩
  rw [← Hnb.out]
  have r1 := (hR.newBlk (t := 32) (cs := c.cells)).chg0 hc1
  clear hR hc1
  obtain ⟨q0, q1, q2, q3, q4, q5, q6, q7, q8, q9, q10, q11, q12⟩ := blk_cfg r1.blk
  generalize w.heap.size = gc at r1 q0 q1 q2 q3 q4 q5 q6 q7 q8 q9 q10 q11 q12 ⊢
  have r2 := (r1.nilRow 53).newBlk (t := 95) (cs := refV c (.slice none 0 0) (.slice none 0 0) (.slice none 0 0) (.slice none 0 0) (.slice none 0 0))
  go_wp2_with fail
  clear q0 q1 q2 q3 q4 q5 q6 q7 q8 q9 q10 q11 q12 r1
  generalize w1.heap.size = g at r2 ⊢
  generalize hW : World.alloc _ _ = W1 at r2 ⊢
  clear hW
  go_loopw [9] (fun i wr => ∃ (k : Nat) (A1 : Option Addr) (c1 : Nat), k ≤ n ∧ i = .int .i64 k ∧ Hold w0 wr (blkA 95 g (refV c (.slice A1 (k) c1) (.slice none 0 0) (.slice none 0 0) (.slice none 0 0) (.slice none 0 0)) * (numA (.slice A1 (k) c1) (k) (init.take (k)) * (blkA 32 gc c.cells * R)))) (fun i _ => n - (intOf i).toNat)
  case atStart => exact ⟨0, none, 0, by omega, rfl, r2⟩
  case round =>
    obtain ⟨k, A1, c1, hk, rfl, h5⟩ := hrel
    clear r2
    have d0 : wr.cell? ⟨gc, 0, none⟩ = some (.int .i64 n) := by rw [Hl.out]; exact h5.third.blk.some_ rfl
    by_cases hlt : k < n
    · have e1 : decide ((k : Int) < n) = true := decide_eq_true (by omega)
      obtain ⟨ad, u, hA1, hA2, hA3, hA4, hA5⟩ := (HA.out wr h5.drop.drop.drop).at_ k hlt
      subst hA1
      obtain ⟨y, hy⟩ : ∃ y, y = init.getD k 0 := ⟨_, rfl⟩
      have hki : k < init.length := by have := Hn.out; omega
      have hu : u = .int .u64 y := by rw [hy]; rw [List.getElem?_map] at hA4; rw [List.getElem?_eq_getElem hki] at hA4; simp at hA4; rw [← hA4]; simp [List.getD, List.getElem?_eq_getElem hki]
      subst hu
      have HY : Hid (∀ w', Hold w0 w' R → w'.cell? (ad.add k) = some (.int .u64 y)) := hid (fun w' h => by
        obtain ⟨ad2, u2, h1, h2, h3, h4, h5⟩ := (HA.out w' h).at_ k hlt
        injection h1 with h1
        subst h1
        rw [h5, ← h4, hA4])
      have ht : init.take (k + 1) = init.take k ++ [y] := by rw [hy, List.take_add_one, List.getD, List.getElem?_eq_getElem hki]; rfl
      have Ht := hid ht
      clear hA2 hA3 hA4 hA5 hy ht hki
      go_wp2_with fail
      obtain ⟨D, hD⟩ : ∃ D, D = (init.take k).map (Value.int .u64) := ⟨_, rfl⟩
      have h6 := h5.drew
      unfold numA at h6
      rw [← hD] at h6
      have HD := hid hD
      clear hD
      have b1 : wr.drew.cell? ⟨g, 13, none⟩ = some (.slice A1 k c1) := h6.blk.some_ rfl
      have b2 := HY.out _ h6.drop.drop.drop
      refine wp_region_brk [15] (by kernel_rfl) ?_
      refine wpAnyB_now (fun w' => w'.cell? ⟨g, 13, none⟩ = some (.slice A1 k c1) ∧ w'.cell? (ad.add k) = some (.int .u64 y)) (fun _ _ => trivial) _ _ _ _ ?_
      refine' wpAnyB_bulk [true, true, true, true, true, true, true, true, true, true] 130 (listed' := #[true, true, true, true, true, true, true, true, true, true, false, false, false, false, false, false]) rfl (by kernel_rfl) (by kernel_rfl) (by kernel_rfl) (by kernel_rfl) (by kernel_rfl) (by kernel_rfl) (by decide) (fun _ _ _ _ h => h) rfl ⟨b1, b2⟩ (fun wq hq => ?_) ?_; rotate_left 1
      · simp only [maskL]
        obtain ⟨q1, q2⟩ := hq
        repeat (go_big_quiet_step (fail))
        exact wpQuiet_nil rfl
      refine wpAnyB_bar [false, false, false, false, false, false, false, false, false, false, true] (fuel := 5) (by rfl) (by rfl) (by kernel_rfl) (fun QB hQB hQX => ?_)
      simp only [maskL]
      go_wp2_with fail
      refine hQB.out _ _ ⟨(h6.alloc _).blk.some_ rfl, HY.out _ (h6.alloc _).drop.drop.drop⟩ ?_
      refine wpAnyB_bar [false, false, false, false, false, false, false, false, false, false, false, true] (fuel := 4) (by rfl) (by rfl) (by kernel_rfl) (fun QB hQB hQX => ?_)
      simp only [maskL]
      go_wp2_with (at_builtin; refine wpList_append1 rfl _ _ 70 rfl 53 iU (.int .u64 0) 8 Try.underlying70 hiU hzU0 hzU1 hzU2 rfl (.slice A1 k c1) k (D) (.int .u64 (y)) _ rfl h6.swap.row rfl rfl (by omega) (by decide) ?_)
      intro A2 c2 W2 ho hc hs
      have h8 := (h6.swap.grow ho hc hs).swap
      have b1 : W2.cell? ⟨g, 13, none⟩ = some (.slice A1 k c1) := h8.blk.some_ rfl
      have b2 := HY.out _ h8.drop.drop.drop
      have z1 := h8.blk.frozen 13
      go_wp2_with fail
      refine hQB.out _ _ ⟨b1, b2⟩ ?_
      refine' wpAnyB_bulkT [false, false, false, false, false, false, false, false, false, false, false, false, true, true, true] 130 (listed' := #[true, true, true, true, true, true, true, true, true, true, true, true, true, true, true, false]) rfl (by kernel_rfl) (by kernel_rfl) (by kernel_rfl) (by kernel_rfl) (by kernel_rfl) (by decide) (fun _ _ _ _ h => h) rfl ⟨b1, b2⟩ (fun wq _ => ?_) ?_; rotate_left 1
      · simp only [maskL]
        repeat (go_big_quiet_step (fail))
        exact wpQuiet_nil rfl
      refine wpAnyB_brk [false, false, false, false, false, false, false, false, false, false, false, false, false, false, false, true] (fuel := 0) (by rfl) (by rfl) (by kernel_rfl) (by kernel_rfl) (fun QB hQB hQX => ?_)
      simp only [maskL]
      go_wp2_with fail
      refine hQB.out _ _ ?_
      refine wpAnyB_forget (by kernel_rfl) ?_
      refine wpAnyB_done (by kernel_rfl) ?_ _
      -- END
      have h9 := h8.setBlk 13 (.slice A2 (k + 1) c2)
      rw [show D ++ [.int .u64 y] = (init.take (k + 1)).map (Value.int .u64) by rw [HD.out, Ht.out]; simp] at h9
      have H9 : Hid (Hold w0 (W2.setCell ⟨g, 13, none⟩ (.slice A2 (k + 1) c2)) (blkA 95 g (refV c (.slice A2 (k + 1) c2) (.slice none 0 0) (.slice none 0 0) (.slice none 0 0) (.slice none 0 0)) * (numA (.slice A2 (k + 1) c2) (k + 1) (init.take (k + 1)) * (blkA 32 gc c.cells * R)))) := hid h9
      clear h5 h6 h8 h9 ho hc hs b1 b2 z1
      go_wp2_with fail
      go_round
      case rel => exact ⟨k + 1, A2, c2, by omega, by go_num, H9.out⟩
      case measure => simp [intOf]; omega
    · obtain rfl : n = k := by omega
      have e1 : decide ((n : Int) < n) = false := by simp
      have h6 := (h5.nilRow 53).third'
      rw [show init.take n = init ++ zerosN 0 by rw [Hn.out]; simp [zerosN]] at h6
      have h7 : Hold w0 wr (blkA 95 g (refV c (.slice A1 (n + (0)) c1) (.slice none 0 0) (.slice none 0 0) (.slice none 0 0) (.slice none (0) 0)) * (numA (.slice A1 (n + (0)) c1) (n + (0)) (init ++ zerosN (0)) * (numA (.slice none (0) 0) (0) ((List.range (0)).map (nx c)) * (blkA 32 gc c.cells * R)))) := h6
      clear h5 h6 hk hlt
      go_wp2_with fail
      clear d0 e1
      go_loopw [10] (fun i wr => ∃ (b : Nat) (A1 : Option Addr) (c1 : Nat) (A8 : Option Addr) (c8 : Nat), b ≤ nb ∧ i = .int .i64 b ∧ Hold w0 wr (blkA 95 g (refV c (.slice A1 (n + (b)) c1) (.slice none 0 0) (.slice none 0 0) (.slice none 0 0) (.slice A8 (b) c8)) * (numA (.slice A1 (n + (b)) c1) (n + (b)) (init ++ zerosN (b)) * (numA (.slice A8 (b) c8) (b) ((List.range (b)).map (nx c)) * (blkA 32 gc c.cells * R))))) (fun i _ => nb - (intOf i).toNat)
      case atStart => exact ⟨0, A1, c1, none, 0, by omega, rfl, h7⟩
      case round =>
        clear h7
        obtain ⟨b, A1, c1, A8, c8, hb, rfl, h5⟩ := hrel
        by_cases hlt : b < nb
        · have e1 : decide ((b : Int) < nb) = true := decide_eq_true (by omega)
          obtain ⟨D, hD⟩ : ∃ D, D = (init ++ zerosN b).map (Value.int .u64) := ⟨_, rfl⟩
          obtain ⟨E, hE⟩ : ∃ E, E = ((List.range b).map (nx c)).map (Value.int .u64) := ⟨_, rfl⟩
          unfold numA at h5
          rw [← hD, ← hE] at h5
          have hD2 : D ++ [.int .u64 0] = (init ++ zerosN (b + 1)).map (Value.int .u64) := by rw [hD]; simp [zerosN, List.replicate_succ']
          have HD2 := hid hD2
          have HE := hid hE
          clear hD hE hD2
          have c13 : wr.cell? ⟨g, 13, none⟩ = some (.slice A1 (n + b) c1) := h5.blk.some_ rfl
          have h6 := h5.swap
          go_wp2_with (at_builtin; refine wpList_append1 rfl _ _ 70 rfl 53 iU (.int .u64 0) 8 Try.underlying70 hiU hzU0 hzU1 hzU2 rfl (.slice A1 (n + b) c1) (n + b) (D) (.int .u64 (0)) _ rfl h6.row rfl rfl (by omega) (by decide) ?_)
          intro A2 c2 W2 ho hc hs
          have h7 := (h6.grow ho hc hs).swap
          clear h5 h6 ho hc hs c13
          have c13 : W2.cell? ⟨g, 13, none⟩ = some (.slice A1 (n + b) c1) := h7.blk.some_ rfl
          have z13 := h7.blk.frozen 13
          have h8 := h7.setBlk 13 (.slice A2 (n + (b + 1)) c2)
          rw [HD2.out] at h8
          go_wp2_with fail
          generalize hW : World.setCell _ _ _ = W3 at h8 ⊢
          clear hW h7 c13 z13 e1
          have HS : Hid (Hold w0 W3.drew (blkA 95 g (refV c (.slice A2 (n + (b + 1)) c2) (.slice none 0 0) (.slice none 0 0) (.slice none 0 0) (.slice A8 b c8)) * (numA (.slice A2 (n + (b + 1)) c2) (n + (b + 1)) (init ++ zerosN (b + 1)) * (rowA 53 (.slice A8 b c8) b E * (blkA 32 gc c.cells * R))))) := hid h8.drew
          clear h8
          have HB0 : Hid (b < nbl c) := hid (by rw [← Hnb.out]; exact hlt)
          have e4 : (0 : Int) ≤ b := by omega
          by_cases hb1 : b + 1 < nb
          · have e2 : decide ((b : Int) + 1 < nb) = true := decide_eq_true (by omega)
            have HB1 : Hid (b + 1 < nbl c) := hid (by rw [← Hnb.out]; exact hb1)
            obtain ⟨x1, hx1⟩ : ∃ x1, cls c (b + 1) = x1 := ⟨_, rfl⟩
            obtain ⟨x0, hx0⟩ : ∃ x0, cls c b = x0 := ⟨_, rfl⟩
            have HX1 := hid hx1
            have HX0 := hid hx0
            clear hx1 hx0
            by_cases hx : x1 = x0
            · have e3 : ((x1 : Int) == (x0 : Int)) = true := by simp; omega
              have HN : Hid (nx c b = (b : Int) + 2) := hid (by unfold nx; rw [if_pos ⟨HB1.out, by rw [HX1.out, HX0.out, hx]⟩])
              go_wp2_with fail
              refine wp_region_brk [] (by kernel_rfl) ?_
              refine wpAnyB_now (fun w' => Hold w0 w' (blkA 95 g (refV c (.slice A2 (n + (b + 1)) c2) (.slice none 0 0) (.slice none 0 0) (.slice none 0 0) (.slice A8 b c8)) * (numA (.slice A2 (n + (b + 1)) c2) (n + (b + 1)) (init ++ zerosN (b + 1)) * (rowA 53 (.slice A8 b c8) b E * (blkA 32 gc c.cells * R))))) (fun _ _ => trivial) _ _ _ _ ?_
              refine' wpAnyB_bulk [true, true, true, true, true, true, true, true, false, true, true] 130 (listed' := #[true, true, true, true, true, true, true, true, false, true, true, false, false, false]) rfl (by kernel_rfl) (by kernel_rfl) (by kernel_rfl) (by kernel_rfl) (by kernel_rfl) (by kernel_rfl) (by decide) (fun _ _ _ _ h => h) rfl HS.out (fun wq hq => ?_) ?_; rotate_left 1
              · simp only [maskL]
                obtain ⟨q0, q1, q2, q3, q4, q5, q6, q7, q8, q9, q10, q11, q12⟩ := blk_cfg hq.drop.drop.drop.blk
                repeat (go_big_quiet_step (fail))
                exact wpQuiet_nil rfl
              refine wpAnyB_bar [false, false, false, false, false, false, false, false, true] (fuel := 3) (by rfl) (by rfl) (by kernel_rfl) (fun QB hQB hQX => ?_)
              simp only [maskL]
              go_wp2_with fail
              refine (rclass_int _ c _ (b + 1) HC.out HB1.out (by omega)).mono ?_
              rintro e u1 ⟨rfl, hc⟩
              rw [HX1.out]
              replace HS := hid (HS.out.chg0 hc)
              clear hc
              go_wp2_with fail
              refine hQB.out _ _ HS.out ?_
              refine wpAnyB_bar [false, false, false, false, false, false, false, false, false, false, false, true] (fuel := 2) (by rfl) (by rfl) (by kernel_rfl) (fun QB hQB hQX => ?_)
              simp only [maskL]
              go_wp2_with fail
              refine (rclass_int _ c _ b HC.out HB0.out rfl).mono ?_
              rintro e u2 ⟨rfl, hc⟩
              rw [HX0.out]
              replace HS := hid (HS.out.chg0 hc)
              clear hc
              go_wp2_with fail
              refine hQB.out _ _ HS.out ?_
              refine' wpAnyB_bulk [false, false, false, false, false, false, false, false, false, false, false, false, true, true] 130 (listed' := #[true, true, true, true, true, true, true, true, true, true, true, true, true, true]) rfl (by kernel_rfl) (by kernel_rfl) (by kernel_rfl) (by kernel_rfl) (by kernel_rfl) (by kernel_rfl) (by decide) (fun _ _ _ _ h => h) rfl HS.out (fun wq hq => ?_) ?_; rotate_left 1
              · simp only [maskL]
                repeat (go_big_quiet_step (fail))
                exact wpQuiet_nil rfl
              refine wpAnyB_done (by kernel_rfl) ?_ _
              -- END
              clear e3
              have c20 : (u2).cell? ⟨g, 20, none⟩ = some (.slice A8 b c8) := HS.out.blk.some_ rfl
              go_wp2_with (at_builtin; refine wpList_append1 rfl _ _ 70 rfl 53 iU (.int .u64 0) 8 Try.underlying70 hiU hzU0 hzU1 hzU2 rfl (.slice A8 b c8) b (E) (.int .u64 ((b : Int) + 2)) _ rfl HS.out.third.row rfl rfl (by omega) (by decide) ?_)
              intro A9 c9 W5 ho hc hs
              have h10 := (HS.out.third.grow ho hc hs).third'
              rw [show E ++ [.int .u64 ((b : Int) + 2)] = ((List.range (b + 1)).map (nx c)).map (Value.int .u64) by rw [HE.out, ← HN.out]; exact range_map_succ _ _] at h10
              clear ho hc hs c20
              have c20 : W5.cell? ⟨g, 20, none⟩ = some (.slice A8 b c8) := h10.blk.some_ rfl
              have z20 := h10.blk.frozen 20
              have H11 : Hid (Hold w0 (W5.setCell ⟨g, 20, none⟩ (.slice A9 (b + 1) c9)) (blkA 95 g (refV c (.slice A2 (n + (b + 1)) c2) (.slice none 0 0) (.slice none 0 0) (.slice none 0 0) (.slice A9 (b + 1) c9)) * (numA (.slice A2 (n + (b + 1)) c2) (n + (b + 1)) (init ++ zerosN (b + 1)) * (numA (.slice A9 (b + 1) c9) (b + 1) ((List.range (b + 1)).map (nx c)) * (blkA 32 gc c.cells * R))))) := hid (h10.setBlk 20 (.slice A9 (b + 1) c9))
              clear h10 HS
              go_wp2_with fail
              go_round
              case rel => exact ⟨b + 1, A2, c2, A9, c9, by omega, by go_num, H11.out⟩
              case measure => simp [intOf]; omega
            · have e3 : ((x1 : Int) == (x0 : Int)) = false := by simp; omega
              have HN : Hid (nx c b = 0) := hid (by unfold nx; rw [if_neg (fun h => hx (by rw [← HX1.out, ← HX0.out]; exact h.2))])
              go_wp2_with fail
              refine wp_region_brk [] (by kernel_rfl) ?_
              refine wpAnyB_now (fun w' => Hold w0 w' (blkA 95 g (refV c (.slice A2 (n + (b + 1)) c2) (.slice none 0 0) (.slice none 0 0) (.slice none 0 0) (.slice A8 b c8)) * (numA (.slice A2 (n + (b + 1)) c2) (n + (b + 1)) (init ++ zerosN (b + 1)) * (rowA 53 (.slice A8 b c8) b E * (blkA 32 gc c.cells * R))))) (fun _ _ => trivial) _ _ _ _ ?_
              refine' wpAnyB_bulk [true, true, true, true, true, true, true, true, false, true, true] 130 (listed' := #[true, true, true, true, true, true, true, true, false, true, true, false, false, false]) rfl (by kernel_rfl) (by kernel_rfl) (by kernel_rfl) (by kernel_rfl) (by kernel_rfl) (by kernel_rfl) (by decide) (fun _ _ _ _ h => h) rfl HS.out (fun wq hq => ?_) ?_; rotate_left 1
              · simp only [maskL]
                obtain ⟨q0, q1, q2, q3, q4, q5, q6, q7, q8, q9, q10, q11, q12⟩ := blk_cfg hq.drop.drop.drop.blk
                repeat (go_big_quiet_step (fail))
                exact wpQuiet_nil rfl
              refine wpAnyB_bar [false, false, false, false, false, false, false, false, true] (fuel := 3) (by rfl) (by rfl) (by kernel_rfl) (fun QB hQB hQX => ?_)
              simp only [maskL]
              go_wp2_with fail
              refine (rclass_int _ c _ (b + 1) HC.out HB1.out (by omega)).mono ?_
              rintro e u1 ⟨rfl, hc⟩
              rw [HX1.out]
              replace HS := hid (HS.out.chg0 hc)
              clear hc
              go_wp2_with fail
              refine hQB.out _ _ HS.out ?_
              refine wpAnyB_bar [false, false, false, false, false, false, false, false, false, false, false, true] (fuel := 2) (by rfl) (by rfl) (by kernel_rfl) (fun QB hQB hQX => ?_)
              simp only [maskL]
              go_wp2_with fail
              refine (rclass_int _ c _ b HC.out HB0.out rfl).mono ?_
              rintro e u2 ⟨rfl, hc⟩
              rw [HX0.out]
              replace HS := hid (HS.out.chg0 hc)
              clear hc
              go_wp2_with fail
              refine hQB.out _ _ HS.out ?_
              refine' wpAnyB_bulk [false, false, false, false, false, false, false, false, false, false, false, false, true, true] 130 (listed' := #[true, true, true, true, true, true, true, true, true, true, true, true, true, true]) rfl (by kernel_rfl) (by kernel_rfl) (by kernel_rfl) (by kernel_rfl) (by kernel_rfl) (by kernel_rfl) (by decide) (fun _ _ _ _ h => h) rfl HS.out (fun wq hq => ?_) ?_; rotate_left 1
              · simp only [maskL]
                repeat (go_big_quiet_step (fail))
                exact wpQuiet_nil rfl
              refine wpAnyB_done (by kernel_rfl) ?_ _
              -- END
              clear e3
              have c20 : (u2).cell? ⟨g, 20, none⟩ = some (.slice A8 b c8) := HS.out.blk.some_ rfl
              go_wp2_with (at_builtin; refine wpList_append1 rfl _ _ 70 rfl 53 iU (.int .u64 0) 8 Try.underlying70 hiU hzU0 hzU1 hzU2 rfl (.slice A8 b c8) b (E) (.int .u64 (0)) _ rfl HS.out.third.row rfl rfl (by omega) (by decide) ?_)
              intro A9 c9 W5 ho hc hs
              have h10 := (HS.out.third.grow ho hc hs).third'
              rw [show E ++ [.int .u64 (0)] = ((List.range (b + 1)).map (nx c)).map (Value.int .u64) by rw [HE.out, ← HN.out]; exact range_map_succ _ _] at h10
              clear ho hc hs c20
              have c20 : W5.cell? ⟨g, 20, none⟩ = some (.slice A8 b c8) := h10.blk.some_ rfl
              have z20 := h10.blk.frozen 20
              have H11 : Hid (Hold w0 (W5.setCell ⟨g, 20, none⟩ (.slice A9 (b + 1) c9)) (blkA 95 g (refV c (.slice A2 (n + (b + 1)) c2) (.slice none 0 0) (.slice none 0 0) (.slice none 0 0) (.slice A9 (b + 1) c9)) * (numA (.slice A2 (n + (b + 1)) c2) (n + (b + 1)) (init ++ zerosN (b + 1)) * (numA (.slice A9 (b + 1) c9) (b + 1) ((List.range (b + 1)).map (nx c)) * (blkA 32 gc c.cells * R))))) := hid (h10.setBlk 20 (.slice A9 (b + 1) c9))
              clear h10 HS
              go_wp2_with fail
              go_round
              case rel => exact ⟨b + 1, A2, c2, A9, c9, by omega, by go_num, H11.out⟩
              case measure => simp [intOf]; omega
          · have e2 : decide ((b : Int) + 1 < nb) = false := decide_eq_false (by omega)
            have HN : Hid (nx c b = 0) := hid (by unfold nx; rw [if_neg (fun h => hb1 (by rw [Hnb.out]; exact h.1))])
            go_wp2_with fail
            refine wp_region_brk [] (by kernel_rfl) ?_
            refine wpAnyB_now (fun w' => Hold w0 w' (blkA 95 g (refV c (.slice A2 (n + (b + 1)) c2) (.slice none 0 0) (.slice none 0 0) (.slice none 0 0) (.slice A8 b c8)) * (numA (.slice A2 (n + (b + 1)) c2) (n + (b + 1)) (init ++ zerosN (b + 1)) * (rowA 53 (.slice A8 b c8) b E * (blkA 32 gc c.cells * R))))) (fun _ _ => trivial) _ _ _ _ ?_
            refine' wpAnyB_bulk [true, true, true, true, true, true, true, true, false, true, true] 130 (listed' := #[true, true, true, true, true, true, true, true, false, true, true, false, false, false]) rfl (by kernel_rfl) (by kernel_rfl) (by kernel_rfl) (by kernel_rfl) (by kernel_rfl) (by kernel_rfl) (by decide) (fun _ _ _ _ h => h) rfl HS.out (fun wq hq => ?_) ?_; rotate_left 1
            · simp only [maskL]
              obtain ⟨q0, q1, q2, q3, q4, q5, q6, q7, q8, q9, q10, q11, q12⟩ := blk_cfg hq.drop.drop.drop.blk
              repeat (go_big_quiet_step (fail))
              exact wpQuiet_nil rfl
            refine wpAnyB_bar [false, false, false, false, false, false, false, false, true] (fuel := 3) (by rfl) (by rfl) (by kernel_rfl) (fun QB hQB hQX => ?_)
            simp only [maskL]
            go_wp2_with fail
            refine hQB.out _ _ HS.out ?_
            refine wpAnyB_bar [false, false, false, false, false, false, false, false, false, false, false, true] (fuel := 2) (by rfl) (by rfl) (by kernel_rfl) (fun QB hQB hQX => ?_)
            simp only [maskL]
            go_wp2_with fail
            refine hQB.out _ _ HS.out ?_
            refine' wpAnyB_bulk [false, false, false, false, false, false, false, false, false, false, false, false, true, true] 130 (listed' := #[true, true, true, true, true, true, true, true, true, true, true, true, true, true]) rfl (by kernel_rfl) (by kernel_rfl) (by kernel_rfl) (by kernel_rfl) (by kernel_rfl) (by kernel_rfl) (by decide) (fun _ _ _ _ h => h) rfl HS.out (fun wq hq => ?_) ?_; rotate_left 1
            · simp only [maskL]
              repeat (go_big_quiet_step (fail))
              exact wpQuiet_nil rfl
            refine wpAnyB_done (by kernel_rfl) ?_ _
            -- END
            have c20 : (W3.drew).cell? ⟨g, 20, none⟩ = some (.slice A8 b c8) := HS.out.blk.some_ rfl
            go_wp2_with (at_builtin; refine wpList_append1 rfl _ _ 70 rfl 53 iU (.int .u64 0) 8 Try.underlying70 hiU hzU0 hzU1 hzU2 rfl (.slice A8 b c8) b (E) (.int .u64 (0)) _ rfl HS.out.third.row rfl rfl (by omega) (by decide) ?_)
            intro A9 c9 W5 ho hc hs
            have h10 := (HS.out.third.grow ho hc hs).third'
            rw [show E ++ [.int .u64 (0)] = ((List.range (b + 1)).map (nx c)).map (Value.int .u64) by rw [HE.out, ← HN.out]; exact range_map_succ _ _] at h10
            clear ho hc hs c20
            have c20 : W5.cell? ⟨g, 20, none⟩ = some (.slice A8 b c8) := h10.blk.some_ rfl
            have z20 := h10.blk.frozen 20
            have H11 : Hid (Hold w0 (W5.setCell ⟨g, 20, none⟩ (.slice A9 (b + 1) c9)) (blkA 95 g (refV c (.slice A2 (n + (b + 1)) c2) (.slice none 0 0) (.slice none 0 0) (.slice none 0 0) (.slice A9 (b + 1) c9)) * (numA (.slice A2 (n + (b + 1)) c2) (n + (b + 1)) (init ++ zerosN (b + 1)) * (numA (.slice A9 (b + 1) c9) (b + 1) ((List.range (b + 1)).map (nx c)) * (blkA 32 gc c.cells * R))))) := hid (h10.setBlk 20 (.slice A9 (b + 1) c9))
            clear h10 HS
            go_wp2_with fail
            go_round
            case rel => exact ⟨b + 1, A2, c2, A9, c9, by omega, by go_num, H11.out⟩
            case measure => simp [intOf]; omega
        · obtain rfl : nb = b := by omega
          have e1 : decide ((nb : Int) < nb) = false := by simp
          clear hb hlt
          rw [show (List.range nb).map (nx c) = nexts c by rw [Hnb.out]; rfl] at h5
          have d1 : wr.cell? ⟨gc, 1, none⟩ = some (.int .i64 o) := by rw [← Ho.out]; exact h5.drop.drop.drop.blk.some_ rfl
          go_wp2_with (at_make; refine wpList_make_full _ rfl _ _ 70 rfl _ 53 iU (.int .u64 0) 1 Try.underlying70 hiU hzU0 hzU1 .i64 .i64 (o : Int) (o : Int) o rfl rfl rfl rfl (by rw [hzU2]; omega) (by unfold maxLen; omega) (Nat.le_refl _) ?_)
          intro w3 hown hgrow
          have h6 := (h5.make (k := .u64) hown hgrow (Nat.le_refl _)).swap
          generalize (some ⟨wr.heap.size, 0, none⟩ : Option Addr) = AO at h6 ⊢
          clear hown hgrow d1 h5 e1
          have c14 : w3.cell? ⟨g, 14, none⟩ = some (.slice none 0 0) := h6.blk.some_ rfl
          have z14 := h6.blk.frozen 14
          have h7 := h6.setBlk 14 (.slice AO o o)
          go_wp2_with (at_make; refine wpList_make_full _ rfl _ _ 70 rfl _ 53 iU (.int .u64 0) 1 Try.underlying70 hiU hzU0 hzU1 .i64 .i64 (th : Int) (th : Int) th rfl rfl rfl rfl (by rw [hzU2]; omega) (by unfold maxLen; omega) (Nat.le_refl _) ?_)
          intro w5 hown hgrow
          have h8 := (h7.make (k := .u64) hown hgrow (by simp)).swap
          generalize (some ⟨w3.heap.size, 0, none⟩ : Option Addr) = AS at h8 ⊢
          clear hown hgrow h7 h6 c14 z14
          have c18 : w5.cell? ⟨g, 18, none⟩ = some (.slice none 0 0) := h8.blk.some_ rfl
          have z18 := h8.blk.frozen 18
          have h9 := h8.setBlk 18 (.slice AS th th)
          go_wp2_with fail
          generalize hW : World.setCell _ _ _ = W6 at h9 ⊢
          clear hW h8 c18 z18
          have hA : Hold w0 W6 (blkA 95 g (refV c (.slice A1 (n + nb) c1) (.slice AO o o) (.slice AS th th) (.slice none (0) 0) (.slice A8 nb c8)) * (numA (.slice none (0) 0) (0) ((List.range (0)).map (heads0 c)) * (numA (.slice AS th th) th (zerosN th) * (numA (.slice AO o o) o (zerosN o) * (numA (.slice A1 (n + nb) c1) (n + nb) (init ++ zerosN nb) * (numA (.slice A8 nb c8) nb (nexts c) * (blkA 32 gc c.cells * R))))))) := (h9.nilRow 53).swap
          have hB : ∃ cO cS : Nat, Hold w0 W6 (blkA 95 g (refV c (.slice A1 (n + nb) c1) (.slice AO o cO) (.slice AS th cS) (.slice none (0) 0) (.slice A8 nb c8)) * (numA (.slice none (0) 0) (0) ((List.range (0)).map (heads0 c)) * (numA (.slice AS th cS) th (zerosN th) * (numA (.slice AO o cO) o (zerosN o) * (numA (.slice A1 (n + nb) c1) (n + nb) (init ++ zerosN nb) * (numA (.slice A8 nb c8) nb (nexts c) * (blkA 32 gc c.cells * R))))))) := ⟨_, _, hA⟩
          clear h9 hA
          obtain ⟨cO, cS, hA⟩ := hB
          go_loopw [12, 13] (fun a i wr => ∃ (k : Nat) (A7 : Option Addr) (c7 : Nat), k ≤ 4 ∧ i = .int .i64 k ∧ a = .int .i64 (psum c k : Nat) ∧ Hold w0 wr (blkA 95 g (refV c (.slice A1 (n + nb) c1) (.slice AO o cO) (.slice AS th cS) (.slice A7 (k) c7) (.slice A8 nb c8)) * (numA (.slice A7 (k) c7) (k) ((List.range (k)).map (heads0 c)) * (numA (.slice AS th cS) th (zerosN th) * (numA (.slice AO o cO) o (zerosN o) * (numA (.slice A1 (n + nb) c1) (n + nb) (init ++ zerosN nb) * (numA (.slice A8 nb c8) nb (nexts c) * (blkA 32 gc c.cells * R)))))))) (fun _ i _ => 4 - (intOf i).toNat)
          case atStart => exact ⟨0, none, 0, by omega, rfl, rfl, hA⟩
          case round =>
            clear hA
            obtain ⟨k, A7, c7, hk, rfl, rfl, h5⟩ := hrel
            by_cases hlt : k < 4
            · have e1 : decide ((k : Int) < 4) = true := decide_eq_true (by omega)
              obtain ⟨m, hm⟩ : ∃ m, cnt c k = m := ⟨_, rfl⟩
              obtain ⟨f, hf⟩ : ∃ f, psum c k = f := ⟨_, rfl⟩
              have hcell := cnt_cell h5.drop.drop.drop.drop.drop.drop.blk (cfgOk_of HC.out) hlt
              rw [hm] at hcell
              have hps : psum c (k + 1) = f + m := by rw [← hm, ← hf]; rfl
              have hle : f + m ≤ 64 := by have := psum_le c (show k + 1 ≤ 4 by omega); have := Hnb.out; unfold nbl at this; omega
              rw [hf]
              have Hm := hid hm
              have Hf := hid hf
              have Hps := hid hps
              obtain ⟨E, hE⟩ : ∃ E, E = ((List.range k).map (heads0 c)).map (Value.int .u64) := ⟨_, rfl⟩
              unfold numA at h5
              rw [← hE] at h5
              have HE := hid hE
              clear hm hf hps hE
              have c19 : wr.cell? ⟨g, 19, none⟩ = some (.slice A7 k c7) := h5.blk.some_ rfl
              have b0 : (0 : Int) ≤ (k : Int) := by omega
              have b1 : (k : Int) < 4 := by omega
              have b2 : (0 : Int) ≤ (f : Int) := by omega
              have b3 : (f : Int) + m ≤ 64 := by omega
              by_cases hm0 : 0 < m
              · have e2 : decide ((0 : Int) < m) = true := decide_eq_true (by omega)
                have HN : Hid (heads0 c k = (f : Int) + 1) := hid (by unfold heads0; rw [if_pos (by rw [Hm.out]; exact hm0), Hf.out])
                go_wp2_with (at_builtin; refine wpList_append1 rfl _ _ 70 rfl 53 iU (.int .u64 0) 8 Try.underlying70 hiU hzU0 hzU1 hzU2 rfl (.slice A7 k c7) k (E) (.int .u64 ((f : Int) + 1)) _ rfl h5.swap.row rfl rfl (by omega) (by decide) ?_)
                intro A9 c9 W7 ho hc hs
                have h10 := (h5.swap.grow ho hc hs).swap
                rw [show E ++ [.int .u64 ((f : Int) + 1)] = ((List.range (k + 1)).map (heads0 c)).map (Value.int .u64) by rw [HE.out, ← HN.out]; exact range_map_succ _ _] at h10
                clear ho hc hs c19 h5 hcell
                have c19 : W7.cell? ⟨g, 19, none⟩ = some (.slice A7 k c7) := h10.blk.some_ rfl
                have z19 := h10.blk.frozen 19
                have h11 : Hold w0 (W7.setCell ⟨g, 19, none⟩ (.slice A9 (k + 1) c9)) (blkA 95 g (refV c (.slice A1 (n + nb) c1) (.slice AO o cO) (.slice AS th cS) (.slice A9 (k + 1) c9) (.slice A8 nb c8)) * (numA (.slice A9 (k + 1) c9) (k + 1) ((List.range (k + 1)).map (heads0 c)) * (numA (.slice AS th cS) th (zerosN th) * (numA (.slice AO o cO) o (zerosN o) * (numA (.slice A1 (n + nb) c1) (n + nb) (init ++ zerosN nb) * (numA (.slice A8 nb c8) nb (nexts c) * (blkA 32 gc c.cells * R))))))) := h10.setBlk 19 (.slice A9 (k + 1) c9)
                have hcell := cnt_cell h11.drop.drop.drop.drop.drop.drop.blk (cfgOk_of HC.out) hlt
                rw [Hm.out] at hcell
                have H11 := hid h11
                clear h10 h11
                go_wp2_with fail
                go_round
                case rel => exact ⟨k + 1, A9, c9, by omega, by go_num, (by rw [Hps.out]; go_num), H11.out⟩
                case measure => simp [intOf]; omega
              · have e2 : decide ((0 : Int) < m) = false := decide_eq_false (by omega)
                have HN : Hid (heads0 c k = 0) := hid (by unfold heads0; rw [if_neg (by rw [Hm.out]; exact hm0)])
                go_wp2_with (at_builtin; refine wpList_append1 rfl _ _ 70 rfl 53 iU (.int .u64 0) 8 Try.underlying70 hiU hzU0 hzU1 hzU2 rfl (.slice A7 k c7) k (E) (.int .u64 (0)) _ rfl h5.swap.row rfl rfl (by omega) (by decide) ?_)
                intro A9 c9 W7 ho hc hs
                have h10 := (h5.swap.grow ho hc hs).swap
                rw [show E ++ [.int .u64 (0)] = ((List.range (k + 1)).map (heads0 c)).map (Value.int .u64) by rw [HE.out, ← HN.out]; exact range_map_succ _ _] at h10
                clear ho hc hs c19 h5 hcell
                have c19 : W7.cell? ⟨g, 19, none⟩ = some (.slice A7 k c7) := h10.blk.some_ rfl
                have z19 := h10.blk.frozen 19
                have h11 : Hold w0 (W7.setCell ⟨g, 19, none⟩ (.slice A9 (k + 1) c9)) (blkA 95 g (refV c (.slice A1 (n + nb) c1) (.slice AO o cO) (.slice AS th cS) (.slice A9 (k + 1) c9) (.slice A8 nb c8)) * (numA (.slice A9 (k + 1) c9) (k + 1) ((List.range (k + 1)).map (heads0 c)) * (numA (.slice AS th cS) th (zerosN th) * (numA (.slice AO o cO) o (zerosN o) * (numA (.slice A1 (n + nb) c1) (n + nb) (init ++ zerosN nb) * (numA (.slice A8 nb c8) nb (nexts c) * (blkA 32 gc c.cells * R))))))) := h10.setBlk 19 (.slice A9 (k + 1) c9)
                have hcell := cnt_cell h11.drop.drop.drop.drop.drop.drop.blk (cfgOk_of HC.out) hlt
                rw [Hm.out] at hcell
                have H11 := hid h11
                clear h10 h11
                go_wp2_with fail
                go_round
                case rel => exact ⟨k + 1, A9, c9, by omega, by go_num, (by rw [Hps.out]; go_num), H11.out⟩
                case measure => simp [intOf]; omega
            · obtain rfl : 4 = k := by omega
              clear hk hlt
              have h6 := (h5.imp (Imp.under _ (Imp.rev4 _ _ _ _ _)))
              have h7 : Hold w0 wr (refA g c (newC c th init) * (blkA 32 gc c.cells * R)) := Hold.refClose (C := newC c th init) h6 (by simp [newC, Hnb.out]) (by simp [newC, Ho.out]) rfl rfl rfl rfl rfl rfl (by simp [zerosN, Hn.out]) (by simp [zerosN]) (by simp [zerosN]) (by simp) (by simp [nexts, Hnb.out])
              have H8 := hid (h7.imp (Imp.under _ (Imp.drop _ _)))
              clear h5 h6 h7
              go_wp2_with fail
              go_ret
              exact ⟨_, rfl, H8.out⟩
end Go.Proofs.Ytopcnaakdldkpaa
