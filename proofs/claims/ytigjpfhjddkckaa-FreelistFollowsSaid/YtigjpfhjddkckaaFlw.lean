/- strongtxlaw11: the heap, the lists of an image, awake. -/
import Derived.Test.YtigjpfhjddkckaaFls
import Derived.Test.YtigjpfhjddkckaaFli
import Derived.Test.YtigjpfhjddkckaaLab2
import Derived.Test.YtigjpfhjddkckaaImage
import Derived.Test.YtigjpfhjddkckaaKit
namespace Go.Proofs.Ytigjpfhjddkckaa
open Go.RowKit
set_option linter.unusedVariables false

def cfH : Cfg := { words := 20, orecs := 4, base := 1, c0 := 3, c1 := 2, c2 := 1, c3 := 0, reads := 1, writes := 1, allocs := 0, frees := 0, clock := 0, strong := false }
theorem cfH_ok : cfgErr cfH = 0 := by decide
def hs0 : List Int := [1, 4, 6, 0]
def ns0 : List Int := [2, 3, 0, 5, 0, 0]
def cH (th : Nat) : Nat → List Int := newC cfH th (initL 20)
theorem cH_ok {th : Nat} (ht : th ≤ 16) : COk (cH th) := COk.newC cfH_ok ht (by decide)
theorem cH_fv {th : Nat} (ht : th ≤ 16) : FV (cH th) hs0 ns0 := ⟨cH_ok ht, by show heads cfH = hs0; decide, by show nexts cfH = ns0; decide⟩
theorem FI.of {hs ns : List Int} {B : Int} (hl : hs.length = 4) (nl : ns.length = 6) (hb : ∀ k : Nat, k < 4 → 0 ≤ hs.getD k 0 ∧ hs.getD k 0 % 65536 ≤ 6 ∧ hs.getD k 0 / 65536 ≤ B) (nb : ∀ b : Nat, b < 6 → 0 ≤ ns.getD b 0 ∧ ns.getD b 0 ≤ 6) : FI hs ns B :=
  ⟨hl, nl, hb, fun b => by
    rcases Nat.lt_or_ge b 6 with h | h
    · exact nb b h
    · rw [show ns.getD b 0 = 0 by rw [List.getD_eq_getElem?_getD, List.getElem?_eq_none (by omega)]; rfl]; decide⟩
theorem fi0 : FI hs0 ns0 0 := .of rfl rfl (by decide) (by decide)
theorem FI.src {C : Nat → List Int} {hs ns : List Int} {B : Int} {y : Lay} {w0 : World} (v : FV C hs ns) (f : FI hs ns B) (hB : B ≤ 1000) : SrcI w0 (cellK C y 7 * cellK C y 8) (y.A 7) (y.A 8) hs ns := by
  refine ⟨fun w' R' h => ?_, fun w' R' h => ?_, fun x hx => ?_, fun x hx => ?_, by rw [f.nl]; decide, by rw [f.hl]; decide⟩
  · have h1 := h.part.rowReads
    rw [v.h7] at h1
    exact ⟨_, h1⟩
  · have h1 := h.part.swap.rowReads
    rw [v.h8] at h1
    exact ⟨_, h1⟩
  · obtain ⟨k, hk, rfl⟩ := List.getElem_of_mem hx
    have := f.hb k (by rw [← f.hl]; exact hk)
    rw [List.getD_eq_getElem?_getD, List.getElem?_eq_getElem hk] at this
    simp at this
    omega
  · obtain ⟨k, hk, rfl⟩ := List.getElem_of_mem hx
    have := f.nb k
    rw [List.getD_eq_getElem?_getD, List.getElem?_eq_getElem hk] at this
    simp at this
    omega
/-- List of an image: the image is not needed any longer. -/
theorem list_img (w0 w : World) (R : Asr) (C : Nat → List Int) (hs ns : List Int) (B : Int) (y : Lay) (k : Int) (h : Hold w0 w (sepR (refL C y) R)) (v : FV C hs ns) (f : FI hs ns B) (hB : B ≤ 1000) :
    Calls Try.prog 32 #[imgV C y, .int .i64 k] w (ListPost w0 R (listF hs ns k)) := by
  have h1 := (Hold.join (h.pk5 [3, 4]))
  have hc := list_any w0 w R _ (slV C y 1) (slV C y 2) (.int .u64 (w1 C 3)) (.int .u64 (w1 C 4)) (.int .u64 (w1 C 5)) (slV C y 6) (y.A 7) (y.A 8) (y.c 7) (y.c 8) hs ns k (FI.src v f hB) h1
  rw [show imgV C y = .agg #[slV C y 1, slV C y 2, .int .u64 (w1 C 3), .int .u64 (w1 C 4), .int .u64 (w1 C 5), slV C y 6, .slice (y.A 7) hs.length (y.c 7), .slice (y.A 8) ns.length (y.c 8)] by unfold imgV slV; rw [v.h7, v.h8]]
  exact hc.mono fun e w' ⟨A, c, he, h'⟩ => ⟨A, c, he, h'.pk2 [0]⟩
theorem heap11_any (w0 w : World) (R : Asr) (h : Hold w0 w R) : Calls Try.prog 15 #[] w (BothPost w0 cfH.val R) := by
  go_enter Try.func15, Try.ntmps15
  go_wp2_with fail
  exact bodyPost_ret (v := cfH.val) (by simp [results, Try.results15, cfH, go_sem]) rfl ⟨rfl, h.alloc _⟩
def awB (g : Nat) : Nat → PM
  | 0 => ⟨g, 0, 0, 0, 0, -1⟩
  | 1 => ⟨g, 0, 1, 1, 0, -1⟩
  | 2 => ⟨g, 0, 2, 1, 2, -1⟩
  | _ => ⟨g, 0, 3, 1, 2, 0⟩
def awQ (g : Nat) : Nat → QM
  | 0 => ⟨g, 0, 0, 0, 0⟩
  | 1 => ⟨g, 0, 0, 1, 65538⟩
  | 2 => ⟨g, 0, 0, 2, 65538⟩
  | _ => ⟨g, 0, 0, 3, 65538⟩
def hs1 : List Int := [65538, 4, 6, 0]
def hs2 : List Int := [131073, 4, 6, 0]
def awH (i : Nat) : List Int := if i ≤ 2 then hs0 else hs1
def awK (i : Nat) : List Int := if i ≤ 2 then hs1 else hs2
theorem fi1 : FI hs1 ns0 1 := .of rfl rfl (by decide) (by decide)
theorem fi2 : FI hs2 ns0 2 := .of rfl rfl (by decide) (by decide)
theorem awB_pw (g : Nat) {i : Nat} (hi : i < 3) : PW hs0 ns0 0 (awB g i) := by
  match i, hi with
  | 0, _ => exact ⟨by show 0 < 4; decide, by show 0 ≤ 2; decide, by show (0 : Int) ≤ 0 ∧ (0 : Int) ≤ 6; decide, fun h => absurd h (by show ¬ 1 ≤ 0; decide), fun h => by cases h⟩
  | 1, _ => exact ⟨by show 0 < 4; decide, by show 1 ≤ 2; decide, by show (0 : Int) ≤ 0 ∧ (0 : Int) ≤ 6; decide, fun _ => ⟨fi0.now (k := 0) (by decide), by show (1 : Int) ≤ 1 % 65536; decide⟩, fun h => by cases h⟩
  | 2, _ => exact ⟨by show 0 < 4; decide, by show 2 ≤ 2; decide, by show (0 : Int) ≤ 2 ∧ (2 : Int) ≤ 6; decide, fun _ => ⟨fi0.now (k := 0) (by decide), by show (1 : Int) ≤ 1 % 65536; decide⟩, fun _ _ => rfl⟩
theorem awB_g (g i : Nat) : (awB g i).g = g := by
  match i with
  | 0 => rfl
  | 1 => rfl
  | 2 => rfl
  | i + 3 => rfl
theorem awQ_g (g i : Nat) : (awQ g i).g = g := by
  match i with
  | 0 => rfl
  | 1 => rfl
  | 2 => rfl
  | i + 3 => rfl
theorem awB_next (g : Nat) {i : Nat} (hi : i < 3) : popN hs0 ns0 (awB g i) = awB g (i + 1) ∧ popH hs0 (awB g i) = awH (i + 1) := by
  match i, hi with
  | 0, _ => exact ⟨rfl, rfl⟩
  | 1, _ => exact ⟨rfl, rfl⟩
  | 2, _ => exact ⟨rfl, rfl⟩
theorem awQ_qw (g : Nat) {i : Nat} (hi : i < 3) : QW hs1 ns0 1 (awQ g i) := by
  match i, hi with
  | 0, _ => exact ⟨rfl, by show 0 < 6; decide, by show 0 ≤ 2; decide, fun h => absurd h (by show ¬ 1 ≤ 0; decide), fun h => by cases h⟩
  | 1, _ => exact ⟨rfl, by show 0 < 6; decide, by show 1 ≤ 2; decide, fun _ => fi1.now (k := 0) (by decide), fun h => by cases h⟩
  | 2, _ => exact ⟨rfl, by show 0 < 6; decide, by show 2 ≤ 2; decide, fun _ => fi1.now (k := 0) (by decide), fun _ => rfl⟩
theorem awQ_next (g : Nat) {i : Nat} (hi : i < 3) : pushN hs1 (awQ g i) = awQ g (i + 1) ∧ pushH hs1 (awQ g i) = awK (i + 1) ∧ pushS ns0 (awQ g i) = ns0 := by
  match i, hi with
  | 0, _ => exact ⟨rfl, rfl, rfl⟩
  | 1, _ => exact ⟨rfl, rfl, rfl⟩
  | 2, _ => exact ⟨rfl, rfl, rfl⟩
theorem aw_last (g : Nat) : PW hs2 ns0 2 (awB g 2) ∧ popN hs2 ns0 (awB g 2) = ⟨g, 0, 0, 1, 2, -1⟩ ∧ popH hs2 (awB g 2) = hs2 ∧ popA hs2 ns0 (awB g 2) = ⟨3, 7, 0, 131073, 131073, false⟩ :=
  ⟨⟨by show 0 < 4; decide, by show 2 ≤ 2; decide, by show (0 : Int) ≤ 2 ∧ (2 : Int) ≤ 6; decide, fun _ => ⟨⟨by show (0 : Int) ≤ 1; decide, by show (1 : Int) % 65536 ≤ 6; decide, by show (1 : Int) / 65536 ≤ 2; decide, by show (1 : Int) / 65536 ≤ 131073 / 65536; decide, fun h => by revert h; show (1 : Int) / 65536 = 131073 / 65536 → _; intro h; exact absurd h (by decide)⟩, by show (1 : Int) ≤ 1 % 65536; decide⟩, fun _ h => by revert h; show (1 : Int) = 131073 → _; intro h; exact absurd h (by decide)⟩, rfl, rfl, rfl⟩
set_option maxRecDepth 8000 in
set_option maxHeartbeats 8000000 in
theorem awake11_any (w0 w : World) (R : Asr) (h : Hold w0 w R) : Calls Try.prog 13 #[] w (BothPost w0 (.bool true) R) := by
  go_enter Try.func13, Try.ntmps13
  go_wp2_with fail
  refine (heap11_any w0 _ _ h).mono ?_
  rintro e w1 ⟨rfl, h1⟩
  clear h
  go_wp2_with fail
  refine (lab_start w0 _ _ cfH 2 cfH_ok (by decide) h1).mono ?_
  rintro e w2 ⟨m, r, rfl, h2⟩
  replace h2 : Hold w0 w2 (memA m (cH 2) * (refA r cfH (cH 2) * R)) := h2
  have HV := hid (cH_fv (th := 2) (by decide))
  generalize cH 2 = C0 at h2 HV
  have H3 := hid (((h2.newBlk (t := 27) (cs := #[.pointer (some ⟨m, 0, none⟩), .pointer (some ⟨r, 0, none⟩)])).pk3 [1, 0]))
  clear h1 h2
  go_wp2_with fail
  have h3 : Hold w0 _ (memA m C0 * (prA w2.heap.size m r * R)) := H3.out
  generalize hW : World.alloc _ _ = W3 at h3 ⊢
  generalize w2.heap.size = gp at h3 ⊢
  clear hW H3
  refine (po_new w0 _ _ 0 h3).mono ?_
  rintro e w4 ⟨ga, rfl, h4⟩
  clear h3
  go_wp2_with fail
  refine (po_new w0 _ _ 0 h4).mono ?_
  rintro e w5 ⟨gb, rfl, h5⟩
  replace h5 : Hold w0 w5 (pmA (awB ga 0) * (memA m C0 * (pmA (awB gb 0) * (prA gp m r * R)))) := h5.pk4 [1, 2, 0, 3]
  have p0 := h5.drop.drop.drop.blk.some_ (i := 0) rfl
  clear h4
  go_wp2_with fail
  refine (po_step w0 _ _ m C0 hs0 ns0 0 (awB ga 0) h5 HV.out fi0 (by decide) (awB_pw ga (by decide))).mono ?_
  rintro e w6 ⟨rfl, h6⟩
  rw [(awB_next ga (i := 0) (by decide)).1] at h6
  generalize popA _ _ _ = a0
  replace h6 : Hold w0 w6 (pmA (awB ga 1) * (memA m C0 * (pmA (awB gb 0) * (prA gp m r * R)))) := h6
  clear h5 p0
  have p0 := h6.drop.drop.drop.blk.some_ (i := 0) rfl
  go_wp2_with fail
  refine (po_step w0 _ _ m C0 hs0 ns0 0 (awB ga 1) h6 HV.out fi0 (by decide) (awB_pw ga (by decide))).mono ?_
  rintro e w7 ⟨rfl, h7⟩
  rw [(awB_next ga (i := 1) (by decide)).1] at h7
  generalize popA _ _ _ = a1
  have h8 : Hold w0 w7 (pmA (awB gb 0) * (memA m C0 * (pmA (awB ga 2) * (prA gp m r * R)))) := h7.pk4 [2, 1, 0, 3]
  clear h6 h7 p0
  go_wp2_with fail
  go_loopw [5] (fun j wr => ∃ (i : Nat) (C : Nat → List Int), i ≤ 3 ∧ j = .int .i64 i ∧ FV C (awH i) ns0 ∧ Hold w0 wr (pmA (awB gb i) * (memA m C * (pmA (awB ga 2) * (prA gp m r * R))))) (fun j _ => 3 - (intOf j).toNat)
  case atStart => exact ⟨0, C0, by omega, rfl, HV.out, h8⟩
  case round =>
    clear h8 HV
    obtain ⟨i, C, hi, rfl, hv, h8⟩ := hrel
    have HV := hid hv
    clear hv
    by_cases hlt : i < 3
    · have e1 : decide ((i : Int) < 3) = true := decide_eq_true (by omega)
      have p0 := h8.drop.drop.drop.blk.some_ (i := 0) rfl
      have hH : awH i = hs0 := if_pos (by omega)
      rw [hH] at HV
      clear hH
      go_wp2_with fail
      have hst := po_step w0 _ _ m C hs0 ns0 0 (awB gb i) h8 HV.out fi0 (by decide) (awB_pw gb hlt)
      rw [awB_g] at hst
      refine hst.mono ?_
      clear hst
      rintro e w9 ⟨rfl, h9⟩
      have hn := awB_next gb hlt
      have hv2 := popC_fv HV.out fi0 (awB_pw gb hlt)
      rw [hn.1] at h9
      rw [hn.2] at hv2
      generalize popC C (awB gb i) = C2 at h9 hv2
      generalize popA _ _ _ = a2
      have H9 := hid (And.intro hv2 h9)
      clear h8 h9 p0 hv2 HV hn
      go_wp2_with fail
      go_roundw
      case rel => exact ⟨i + 1, C2, by omega, by go_num, H9.out.1, H9.out.2⟩
      case measure => simp [intOf]; omega
    · obtain rfl : i = 3 := by omega
      have e1 : decide (((3 : Nat) : Int) < 3) = false := rfl
      replace HV : Hid (FV C hs1 ns0) := HV
      replace h8 : Hold w0 wr (poA gb 0 3 1 2 0 * (memA m C * (pmA (awB ga 2) * (prA gp m r * R)))) := h8
      go_wp2_with fail
      refine (po_block w0 _ _ gb 0 3 1 2 0 h8).mono ?_
      rintro e w' ⟨rfl, rfl⟩
      go_wp2_with fail
      refine (pu_new w0 _ _ 0 0 h8).mono ?_
      rintro e w10 ⟨gc, rfl, h10⟩
      clear h8
      go_wp2_with fail
      refine (po_block w0 _ _ gb 0 3 1 2 0 h10.drop).mono ?_
      rintro e w' ⟨rfl, rfl⟩
      have h11 : Hold w0 w10 (qmA (awQ gc 0) * (memA m C * (pmA (awB ga 2) * (prA gp m r * R)))) := h10.pk5 [0, 2, 3, 4]
      clear h10
      go_wp2_with fail
      go_loopw [7] (fun j wr => ∃ (i : Nat) (C : Nat → List Int), i ≤ 3 ∧ j = .int .i64 i ∧ FV C (awK i) ns0 ∧ Hold w0 wr (qmA (awQ gc i) * (memA m C * (pmA (awB ga 2) * (prA gp m r * R))))) (fun j _ => 3 - (intOf j).toNat)
      case atStart => exact ⟨0, C, by omega, rfl, HV.out, h11⟩
      case round =>
        clear h11 HV e1 hi hlt
        obtain ⟨i, C, hi, rfl, hv, h8⟩ := hrel
        have HV := hid hv
        clear hv
        by_cases hlt : i < 3
        · have e1 : decide ((i : Int) < 3) = true := decide_eq_true (by omega)
          have p0 := h8.drop.drop.drop.blk.some_ (i := 0) rfl
          have hH : awK i = hs1 := if_pos (by omega)
          rw [hH] at HV
          clear hH
          go_wp2_with fail
          have hst := pu_step w0 _ _ m C hs1 ns0 1 (awQ gc i) h8 HV.out fi1 (by decide) (awQ_qw gc hlt)
          rw [awQ_g] at hst
          refine hst.mono ?_
          clear hst
          rintro e w9 ⟨rfl, h9⟩
          have hn := awQ_next gc hlt
          have hv2 := pushC_fv HV.out fi1 (awQ_qw gc hlt)
          rw [hn.1] at h9
          rw [hn.2.1, hn.2.2] at hv2
          generalize pushC C (awQ gc i) = C2 at h9 hv2
          generalize pushA _ _ _ = a2
          have H9 := hid (And.intro hv2 h9)
          clear h8 h9 p0 hv2 HV hn
          go_wp2_with fail
          go_roundw
          case rel => exact ⟨i + 1, C2, by omega, by go_num, H9.out.1, H9.out.2⟩
          case measure => simp [intOf]; omega
        · obtain rfl : i = 3 := by omega
          have e1 : decide (((3 : Nat) : Int) < 3) = false := rfl
          replace HV : Hid (FV C hs2 ns0) := HV
          replace h8 : Hold w0 wr (pmA (awB ga 2) * (memA m C * (qmA (awQ gc 3) * (prA gp m r * R)))) := h8.pk4 [2, 1, 0, 3]
          obtain ⟨hp, hn1, hn2, hn3⟩ := aw_last ga
          have HP := hid (And.intro hp (And.intro hn1 (And.intro hn2 hn3)))
          have p0 := h8.drop.drop.drop.blk.some_ (i := 0) rfl
          clear hp hn1 hn2 hn3
          go_wp2_with fail
          refine (po_step w0 _ _ m C hs2 ns0 2 (awB ga 2) h8 HV.out fi2 (by decide) HP.out.1).mono ?_
          rintro e w9 ⟨rfl, h9⟩
          have hv2 := popC_fv HV.out fi2 HP.out.1
          rw [HP.out.2.1] at h9
          rw [HP.out.2.2.1] at hv2
          rw [HP.out.2.2.2]
          generalize popC C (awB ga 2) = C2 at h9 hv2
          have HV2 := hid hv2
          have H10 := hid (((h9.newBlk (t := 50) (cs := #[.int .i64 3, .int .i64 7, .int .i64 0, .int .u64 131073, .int .u64 131073, .bool false])).pk5 [2, 1, 0, 3, 4]))
          clear h8 h9 p0 hv2 HV HP
          go_upto_region 19 with fail
          have h10 := H10.out
          generalize hW : World.alloc _ _ = W10 at h10 ⊢
          generalize w9.heap.size = gx at h10 ⊢
          clear hW H10
          have p0 := h10.drop.drop.drop.drop.blk.some_ (i := 0) rfl
          go_wp2_with fail
          refine (image_any w0 _ _ m C2 h10 HV2.out.ok).mono ?_
          rintro e w11 ⟨y, rfl, h11⟩
          clear h10 p0
          go_wp2_with fail
          refine (list_img w0 _ _ C2 hs2 ns0 2 y 0 h11 HV2.out fi2 (by decide)).mono ?_
          rintro e w12 ⟨A, cp, rfl, h12⟩
          rw [show listF hs2 ns0 0 = ([0, 1, 2], 0) from by decide] at h12 ⊢
          clear h11
          have h13 : Hold w0 w12 (poA ga 0 0 1 2 (-1) * (rowA 3 (.slice A 3 cp) 3 ([0, 1, 2].map (Value.int .i64)) * (blkA 50 gx #[.int .i64 3, .int .i64 7, .int .i64 0, .int .u64 131073, .int .u64 131073, .bool false] * (puA gc 0 0 3 65538 * (prA gp m r * R))))) := h12.pk6 [2, 0, 3, 4, 5]
          have p5 := h13.drop.drop.blk.some_ (i := 5) (u := .bool false) rfl
          clear h12
          go_wp2_with fail
          refine (po_done w0 _ _ ga 0 0 1 2 (-1) h13).mono ?_
          rintro e w' ⟨rfl, rfl⟩
          go_wp2_with fail
          refine (pu_done w0 _ _ gc 0 0 3 65538 (h13.pk4 [3])).mono ?_
          rintro e w' ⟨rfl, rfl⟩
          have H14 := hid ((h13.pk5 []).alloc (.cells #[.int .i64 0, .int .i64 1, .int .i64 2] 3))
          have hr := (h13.pk2 [1]).rowReads
          clear h13 p5
          go_wp2_with fail
          refine (ints_any _ _ _ 3 3 _ _ _ _ [0, 1, 2] [0, 1, 2] (hr.chg ((Chg.refl [] _).alloc _) (by simp)) (Reads.lit _ _ _ _ rfl 3 rfl) (by decide)).mono ?_
          rintro e w' ⟨rfl, q, rfl⟩
          have H15 := hid (H14.out.drewN q)
          clear H14 hr
          go_wp2_with fail
          go_ret
          exact ⟨rfl, H15.out⟩
end Go.Proofs.Ytigjpfhjddkckaa
