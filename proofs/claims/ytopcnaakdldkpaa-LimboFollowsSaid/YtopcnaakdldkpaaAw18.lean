/- The sanity check of law18: the example of the chapter. -/
import Derived.Test.YtopcnaakdldkpaaLim4
import Derived.Test.YtopcnaakdldkpaaKit2
namespace Go.Proofs.Ytopcnaakdldkpaa
open Go.RowKit
set_option linter.unusedVariables false

def nsD : List Int := [2, 3, 1, 5, 0, 0]
def hsD : List Int := [65539, 4, 6, 0]
theorem fiD : FI hs0 nsD 0 := .of rfl rfl (by decide) (by decide)
def adQ (g : Nat) : Nat → QM
  | 0 => ⟨g, 0, 2, 0, 0⟩
  | 1 => ⟨g, 0, 2, 1, 1⟩
  | _ => ⟨g, 0, 2, 2, 1⟩
def adL (g i : Nat) : List QM := if i < 3 then [adQ g i] else []
def adN (i : Nat) : List Int := if i ≤ 1 then ns0 else nsD
def adH (i : Nat) : List Int := if i ≤ 2 then hs0 else hsD
theorem adN_fi {i : Nat} : FI hs0 (adN i) 0 := by
  unfold adN; split
  · exact fi0
  · exact fiD
theorem adQ_qw (g : Nat) {i : Nat} (hi : i < 3) : QW hs0 (adN i) 0 (adQ g i) := by
  match i, hi with
  | 0, _ => exact ⟨rfl, by show 2 < 6; decide, by show 0 ≤ 2; decide, fun h => absurd h (by show ¬ 1 ≤ 0; decide), fun h => by cases h⟩
  | 1, _ => exact ⟨rfl, by show 2 < 6; decide, by show 1 ≤ 2; decide, fun _ => fi0.now (k := 0) (by decide), fun h => by cases h⟩
  | 2, _ => exact ⟨rfl, by show 2 < 6; decide, by show 2 ≤ 2; decide, fun _ => fi0.now (k := 0) (by decide), fun _ => rfl⟩
theorem adL_step (g : Nat) {i : Nat} (hi : i < 3) : adL g i = [adQ g i] ∧ drN hs0 [adQ g i] = adL g (i + 1) ∧ pushH hs0 (adQ g i) = adH (i + 1) ∧ pushS (adN i) (adQ g i) = adN (i + 1) := by
  match i, hi with
  | 0, _ => exact ⟨rfl, rfl, rfl, rfl⟩
  | 1, _ => exact ⟨rfl, rfl, rfl, rfl⟩
  | 2, _ => exact ⟨rfl, rfl, rfl, rfl⟩
theorem ints_row {w0 w : World} {R : Asr} {e : TypeId} {A : Option Addr} {n c : Nat} {xs : List Value} (h : Hold w0 w (rowS e 1 (.slice A n c) n xs * R)) : ∃ b, Reads w b A n xs := by
  have := h.rowSReads
  rwa [Nat.mul_one] at this
theorem blk_ints {w0 w : World} {R : Asr} {t : TypeId} {g : Nat} {cs : Array Value} {l : List Int} {n : Nat} (h : Hold w0 w (blkA t g cs * R)) (hc : cs.toList = l.map (Value.int .i64)) (hn : l.length = n) : Reads w g (some ⟨g, 0, none⟩) n (l.map (Value.int .i64)) := by
  have hb := h.blk
  refine ⟨by rw [List.length_map]; exact hn, fun k hk => ⟨_, (l.map (Value.int .i64))[k]'(by rw [List.length_map]; omega), rfl, rfl, hb.lt, List.getElem?_eq_getElem _, ?_⟩⟩
  have ha : (⟨g, 0, none⟩ : Addr).add k = ⟨g, k, none⟩ := by unfold Addr.add; split <;> simp_all
  rw [ha]
  refine hb.some_ ?_
  rw [← List.getElem?_eq_getElem, ← hc]; simp
set_option maxRecDepth 8000 in
set_option maxHeartbeats 16000000 in
theorem awake18_any (w0 w : World) (R : Asr) (h : Hold w0 w R) : Calls Try.prog 6 #[] w (BothPost w0 (.bool true) R) := by
  go_enter Try.func6, Try.ntmps6
  go_wp2_with fail
  refine (heap18_any w0 _ _ h).mono ?_
  rintro e w1 ⟨rfl, h1⟩
  clear h
  go_wp2_with fail
  refine (lab_start w0 _ _ cfH 1 cfH_ok (by decide) h1).mono ?_
  rintro e w2 ⟨m, r, rfl, h2⟩
  replace h2 : Hold w0 w2 (memA m (cH 1) * (refA r cfH (cH 1) * R)) := h2
  have HV := hid (cH_fv (th := 1) (by decide))
  generalize cH 1 = C0 at h2 HV
  have H3 := hid (((h2.newBlk (t := 27) (cs := #[.pointer (some ⟨m, 0, none⟩), .pointer (some ⟨r, 0, none⟩)])).pk3 [1, 0]))
  clear h1 h2
  go_upto_region 2 with fail
  have h3 : Hold w0 _ (memA m C0 * (prA w2.heap.size m r * R)) := H3.out
  generalize hW : World.alloc _ _ = W3 at h3 ⊢
  generalize w2.heap.size = gp at h3 ⊢
  clear hW H3
  go_wp2_with fail
  refine (heap18_any w0 _ _ h3).mono ?_
  rintro e w4 ⟨rfl, h4⟩
  clear h3
  go_wp2_with fail
  refine (lim_new w0 _ _ h4).mono ?_
  rintro e w5 ⟨gl, rfl, h5⟩
  clear h4
  have h6 := h5.newBlk (t := 3) (cs := #[.int .i64 2])
  have HA := hid (lim_add w0 _ _ gl [] 4 (some ⟨w5.heap.size, 0, none⟩) 1 1 [2] h6.swap (fun w' q hw => ⟨_, blk_ints (l := [2]) hw.drop rfl rfl⟩) (by unfold I64b; decide) (by omega) (by decide))
  clear h5 h6
  go_wp2_with fail
  refine HA.out.mono ?_
  rintro e w6 ⟨rfl, h7⟩
  clear HA
  replace h7 : Hold w0 w6 (limA gl [(2, 4)] * _) := h7
  have h8 := h7.newBlk (t := 3) (cs := #[.int .i64 0, .int .i64 1])
  have HA := hid (lim_add w0 _ _ gl [(2, 4)] 6 (some ⟨w6.heap.size, 0, none⟩) 2 2 [0, 1] h8.swap (fun w' q hw => ⟨_, blk_ints (l := [0, 1]) hw.drop rfl rfl⟩) (by unfold I64b; decide) (by omega) (by decide))
  clear h7 h8
  go_wp2_with fail
  refine HA.out.mono ?_
  rintro e w7 ⟨rfl, h9⟩
  clear HA
  replace h9 : Hold w0 w7 (limA gl [(2, 4), (0, 6), (1, 6)] * (blkA 3 w6.heap.size #[.int .i64 0, .int .i64 1] * (blkA 3 w5.heap.size #[.int .i64 2] * (memA m C0 * (prA gp m r * R))))) := h9
  have h10 : Hold w0 w7 (limA gl [(2, 4), (0, 6), (1, 6)] * (memA m C0 * (prA gp m r * R))) := h9.pk5 [0, 3, 4]
  have HD := hid (lim_drain w0 w7 _ gl [(2, 4), (0, 6), (1, 6)] 5 h10 (by decide) (by decide))
  clear h9 h10
  go_wp2_with fail
  refine HD.out.mono ?_
  rintro e w8 ⟨d, gs, rfl, hgl, h11⟩
  clear HD
  obtain ⟨gq, rfl⟩ : ∃ gq, gs = [gq] := by
    match gs, hgl with
    | [x], _ => exact ⟨x, rfl⟩
  replace h11 : Hold w0 w8 (drA d (adL gq 0) * (limA gl [(0, 6), (1, 6)] * (memA m C0 * (prA gp m r * R)))) := h11
  have HL := hid (dr_left w0 w8 _ d _ h11)
  clear hgl
  go_wp2_with fail
  refine HL.out.mono ?_
  rintro e w' ⟨rfl, rfl⟩
  clear HL
  have h12 : Hold w0 w8 (drA d (adL gq 0) * (memA m C0 * (limA gl [(0, 6), (1, 6)] * (prA gp m r * R)))) := h11.pk4 [0, 2, 1, 3]
  clear h11
  go_wp2_with fail
  go_loopw [6] (fun j wr => ∃ (i : Nat) (C : Nat → List Int), i ≤ 3 ∧ j = .int .i64 i ∧ FV C (adH i) (adN i) ∧ Hold w0 wr (drA d (adL gq i) * (memA m C * (limA gl [(0, 6), (1, 6)] * (prA gp m r * R))))) (fun j _ => 3 - (intOf j).toNat)
  case atStart => exact ⟨0, C0, by omega, rfl, HV.out, h12⟩
  case round =>
    clear h12 HV
    obtain ⟨i, C, hi, rfl, hv, h8⟩ := hrel
    have HV := hid hv
    clear hv
    by_cases hlt : i < 3
    · have e1 : decide ((i : Int) < 3) = true := decide_eq_true (by omega)
      have p0 := h8.drop.drop.drop.blk.some_ (i := 0) rfl
      have hH : adH i = hs0 := if_pos (by omega)
      rw [hH] at HV
      obtain ⟨s1, s2, s3, s4⟩ := adL_step gq hlt
      rw [s1] at h8
      have hst := dr_step1 w0 _ _ d m C hs0 (adN i) 0 (adQ gq i) [] h8 HV.out adN_fi (by decide) (adQ_qw gq hlt)
      have hv2 := pushC_fv HV.out adN_fi (adQ_qw gq hlt)
      rw [s3, s4] at hv2
      rw [s2] at hst
      have HST := hid hst
      have HV2 := hid hv2
      clear hH s1 s2 s3 s4 h8 HV hst hv2
      go_wp2_with fail
      refine HST.out.mono ?_
      rintro e w9 ⟨rfl, h9⟩
      generalize pushA _ _ _ = a2
      have H9 := hid h9
      clear HST h9 p0
      go_wp2_with fail
      go_roundw
      case rel => exact ⟨i + 1, _, by omega, by go_num, HV2.out, H9.out⟩
      case measure => simp [intOf]; omega
    · obtain rfl : i = 3 := by omega
      have e1 : decide (((3 : Nat) : Int) < 3) = false := rfl
      replace HV : Hid (FV C hsD nsD) := HV
      replace h8 : Hold w0 wr (drA d [] * (memA m C * (limA gl [(0, 6), (1, 6)] * (prA gp m r * R)))) := h8
      have HD := hid (dr_done w0 wr _ d [] h8)
      have HL := hid (dr_left w0 wr _ d [] h8)
      have HB := hid (lim_Blocks w0 wr _ gl [(0, 6), (1, 6)] (h8.pk4 [2, 0, 1, 3]) (by decide))
      clear h8 hlt hi
      go_wp2_with fail
      refine HD.out.mono ?_
      rintro e w' ⟨rfl, rfl⟩
      go_wp2_with fail
      refine HL.out.mono ?_
      rintro e w' ⟨rfl, rfl⟩
      clear HD HL
      go_wp2_with fail
      refine HB.out.mono ?_
      rintro e wa ⟨A1, c1, rfl, h9⟩
      clear HB
      have h9 : Hold w0 wa (rowS 3 1 (.slice A1 2 c1) 2 (([0, 1] : List Int).map (Value.int .i64)) * (limA gl [(0, 6), (1, 6)] * (drA d [] * (memA m C * (prA gp m r * R))))) := h9
      have h10 := h9.newBlk (t := 3) (cs := #[.int .i64 0, .int .i64 1])
      obtain ⟨b1, hr1⟩ := ints_row h10.drop
      have hI := ints_any _ A1 (some ⟨wa.heap.size, 0, none⟩) 2 2 c1 2 b1 _ [0, 1] [0, 1] hr1 (blk_ints (l := [0, 1]) h10 rfl rfl) (by omega)
      have HI := hid hI
      clear h9 hr1 hI
      go_wp2_with fail
      refine HI.out.mono ?_
      rintro e wb ⟨rfl, q1, rfl⟩
      have h11 := (h10.drop.drop).drewN q1
      clear h10 HI
      have HB := hid (lim_Versions w0 _ _ gl [(0, 6), (1, 6)] h11 (by decide))
      clear h11
      go_wp2_with fail
      refine HB.out.mono ?_
      rintro e wd ⟨A2, c2, rfl, h12⟩
      clear HB
      have h12 : Hold w0 wd (rowS 3 1 (.slice A2 2 c2) 2 (([6, 6] : List Int).map (Value.int .i64)) * (limA gl [(0, 6), (1, 6)] * (drA d [] * (memA m C * (prA gp m r * R))))) := h12
      have h13 := h12.newBlk (t := 3) (cs := #[.int .i64 6, .int .i64 6])
      obtain ⟨b2, hr2⟩ := ints_row h13.drop
      have hI := ints_any _ A2 (some ⟨wd.heap.size, 0, none⟩) 2 2 c2 2 b2 _ [6, 6] [6, 6] hr2 (blk_ints (l := [6, 6]) h13 rfl rfl) (by omega)
      have HI := hid hI
      clear h12 hr2 hI
      go_wp2_with fail
      refine HI.out.mono ?_
      rintro e we ⟨rfl, q2, rfl⟩
      have h14 : Hold w0 _ (memA m C * (prA gp m r * R)) := (h13.drop.drop.drop.drop).drewN q2
      clear h13 HI
      have p0 := h14.drop.blk.some_ (i := 0) rfl
      have HM := hid (image_any w0 _ _ m C h14 HV.out.ok)
      clear h14
      go_wp2_with fail
      refine HM.out.mono ?_
      rintro e wf ⟨y, rfl, h15⟩
      clear HM p0
      obtain ⟨g7, d7, hs7, hc7⟩ : ∃ (g7 d7 : Nat), slV C y 7 = .slice (some ⟨g7, 0, none⟩) 4 d7 ∧ wf.cell? ⟨g7, 0, none⟩ = some (.int .u64 65539) := by
        have e7 : (C 7).length = 4 := by rw [HV.out.h7]; rfl
        have h5 : Hold w0 wf (cellK C y 7 * _) := h15.pk5 [3]
        unfold cellK numA slV at h5
        rw [e7, HV.out.h7] at h5
        obtain ⟨g7, hA7, hc7, _⟩ := h5.setRow (k := 0) (by omega)
        exact ⟨g7, y.c 7, by unfold slV; rw [e7, hA7], hc7⟩
      have h16 : Hold w0 wf R := h15.rest.drop.drop
      have H16 := hid h16
      unfold imgV
      rw [hs7]
      unfold slV
      generalize y.A 1 = Z1
      generalize y.A 2 = Z2
      generalize y.A 6 = Z6
      generalize y.A 8 = Z8
      generalize y.c 1 = k1
      generalize y.c 2 = k2
      generalize y.c 6 = k6
      generalize y.c 8 = k8
      generalize (C 1).length = m1
      generalize (C 2).length = m2
      generalize (C 6).length = m6
      generalize (C 8).length = m8
      generalize Go.Proofs.Ytopcnaakdldkpaa.w1 C 3 = u3
      generalize Go.Proofs.Ytopcnaakdldkpaa.w1 C 4 = u4
      generalize Go.Proofs.Ytopcnaakdldkpaa.w1 C 5 = u5
      have hfd : ∀ w, (Instr.field 72 (.agg #[.slice Z1 m1 k1, .slice Z2 m2 k2, .int .u64 u3, .int .u64 u4, .int .u64 u5, .slice Z6 m6 k6, .slice (some ⟨g7, 0, none⟩) 4 d7, .slice Z8 m8 k8]) 6).run Try.prog w = .ok (.slice (some ⟨g7, 0, none⟩) 4 d7) w := fun _ => by kernel_rfl
      clear h15 h16 hs7 HV
      go_wp2_with fail
      go_ret
      exact ⟨rfl, H16.out⟩
end Go.Proofs.Ytopcnaakdldkpaa
