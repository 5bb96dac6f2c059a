/- strongtxlaw11: FreelistEmpty. -/
import Derived.Test.YtigjpfhjddkckaaFlw
import Derived.Deep.DeepCutAuto
import Derived.Deep.CutBlock
namespace Go.Proofs.Ytigjpfhjddkckaa
open Go.RowKit
set_option linter.unusedVariables false

/-- A pop that runs alone to its end in N steps. -/
structure PRun (hs ns hs' : List Int) (B : Int) (g N : Nat) (S : Nat → PM) : Prop where
  gg : ∀ s, (S s).g = g
  pw : ∀ s, s < N → PW hs ns B (S s)
  nx : ∀ s, s < N → popN hs ns (S s) = S (s + 1)
  hh : ∀ s, s < N → popH hs (S s) = if s + 1 < N then hs else hs'
  en : (S N).at_ = 3
def eS (g k : Nat) (H nx : Int) : Nat → PM
  | 0 => ⟨g, k, 0, 0, 0, -1⟩
  | 1 => ⟨g, k, 1, H, 0, -1⟩
  | 2 => ⟨g, k, 2, H, nx, -1⟩
  | _ => ⟨g, k, 3, H, nx, H % 65536 - 1⟩
def zS (g k : Nat) (H : Int) : Nat → PM
  | 0 => ⟨g, k, 0, 0, 0, -1⟩
  | _ => ⟨g, k, 3, H, 0, -1⟩
theorem PW.fresh {hs ns : List Int} {B : Int} {g k : Nat} (hk : k < 4) : PW hs ns B ⟨g, k, 0, 0, 0, -1⟩ := ⟨hk, by show 0 ≤ 2; decide, by show (0 : Int) ≤ 0 ∧ (0 : Int) ≤ 6; decide, fun h => absurd h (by show ¬ 1 ≤ 0; decide), fun h => (by cases h)⟩
theorem zS_run {hs ns : List Int} {B : Int} {g k : Nat} (hk : k < 4) (hz : hs.getD k 0 % 65536 = 0) : PRun hs ns hs B g 1 (zS g k (hs.getD k 0)) := by
  refine ⟨fun s => ?_, fun s hs1 => ?_, fun s hs1 => ?_, fun s hs1 => ?_, rfl⟩
  · match s with
    | 0 => rfl
    | s + 1 => rfl
  all_goals obtain rfl : s = 0 := by omega
  · exact PW.fresh hk
  · show popN hs ns ⟨g, k, 0, 0, 0, -1⟩ = ⟨g, k, 3, hs.getD k 0, 0, -1⟩
    simp only [popN]
    rw [if_pos trivial, if_pos hz]
  · rfl
theorem eS_run {hs ns : List Int} {B : Int} {g k : Nat} (f : FI hs ns B) (hk : k < 4) (hz : 1 ≤ hs.getD k 0 % 65536) : PRun hs ns (hs.set k (bumpV (hs.getD k 0) (ns.getD (hs.getD k 0 % 65536 - 1).toNat 0 - 1))) B g 3 (eS g k (hs.getD k 0) (ns.getD (hs.getD k 0 % 65536 - 1).toNat 0)) := by
  refine ⟨fun s => ?_, fun s hs1 => ?_, fun s hs1 => ?_, fun s hs1 => ?_, rfl⟩
  · match s with
    | 0 => rfl
    | 1 => rfl
    | 2 => rfl
    | s + 3 => rfl
  all_goals
    obtain h | h | h : s = 0 ∨ s = 1 ∨ s = 2 := by omega
    all_goals subst h
  · exact PW.fresh hk
  · exact ⟨hk, by show 1 ≤ 2; decide, by show (0 : Int) ≤ 0 ∧ (0 : Int) ≤ 6; decide, fun _ => ⟨f.now hk, hz⟩, fun h => (by cases h)⟩
  · exact ⟨hk, by show 2 ≤ 2; decide, f.nb _, fun _ => ⟨f.now hk, hz⟩, fun _ _ => rfl⟩
  · show popN hs ns ⟨g, k, 0, 0, 0, -1⟩ = ⟨g, k, 1, hs.getD k 0, 0, -1⟩
    simp only [popN]
    rw [if_pos trivial, if_neg (by omega)]
  · rfl
  · show popN hs ns ⟨g, k, 2, hs.getD k 0, ns.getD (hs.getD k 0 % 65536 - 1).toNat 0, -1⟩ = ⟨g, k, 3, hs.getD k 0, ns.getD (hs.getD k 0 % 65536 - 1).toNat 0, hs.getD k 0 % 65536 - 1⟩
    simp only [popN]
    rw [if_neg (by decide), if_neg (by decide), if_pos trivial]
  · rfl
  · rfl
  · show (if 2 = 2 ∧ hs.getD k 0 = hs.getD k 0 then _ else _) = _
    exact (if_pos ⟨rfl, rfl⟩).trans (if_neg (by decide)).symm
def L0 : Nat → List Nat
  | 0 => [0, 1, 2]
  | 1 => [3, 4]
  | 2 => [5]
  | _ => []
theorem chain0 : ∀ k : Nat, k < 4 → Chain ns0 (hs0.getD k 0 % 65536) (L0 k) := fun k hk => by
  obtain h | h | h | h : k = 0 ∨ k = 1 ∨ k = 2 ∨ k = 3 := by omega
  all_goals subst h
  · exact ⟨rfl, by decide, rfl, by decide, rfl, by decide, rfl⟩
  · exact ⟨rfl, by decide, rfl, by decide, rfl⟩
  · exact ⟨rfl, by decide, rfl⟩
  · rfl
theorem ki0 (xs : List (Option PM)) (ys : List (Option QM)) (hx : ∀ x ∈ xs, x = none) (hy : ∀ y ∈ ys, y = none) : KI hs0 ns0 L0 [] xs ys 0 :=
  .start fi0 hx hy chain0 (fun k hk => by
    obtain h | h | h | h : k = 0 ∨ k = 1 ∨ k = 2 ∨ k = 3 := by omega
    all_goals subst h
    all_goals decide) (by decide)
theorem pm_done (w0 w : World) (R : Asr) (m : PM) (h : Hold w0 w (pmA m * R)) : Calls Try.prog 25 #[.pointer (some ⟨m.g, 0, none⟩)] w fun e w' => e = .returned (.bool (m.at_ == 3)) ∧ w = w' := by
  have h1 := po_done w0 w R m.g m.cl m.at_ m.hd m.nx m.bk h
  rw [show (((m.at_ : Nat) : Int) == 3) = (m.at_ == 3) from by
    rw [Bool.eq_iff_iff]; simp; omega] at h1
  exact h1
theorem pm_block (w0 w : World) (R : Asr) (m : PM) (h : Hold w0 w (pmA m * R)) : Calls Try.prog 26 #[.pointer (some ⟨m.g, 0, none⟩)] w fun e w' => e = .returned (.int .i64 m.bk) ∧ w = w' :=
  po_block w0 w R m.g m.cl m.at_ m.hd m.nx m.bk h
def kcnt : Nat → Int
  | 0 => 3
  | 1 => 2
  | 2 => 1
  | _ => 0
theorem kcnt_len {k : Nat} (hk : k < 4) : ((L0 k).length : Int) = kcnt k := by
  obtain h | h | h | h : k = 0 ∨ k = 1 ∨ k = 2 ∨ k = 3 := by omega
  all_goals subst h
  all_goals rfl
theorem kcnt_ix {k : Nat} (hk : k < 4) (w : World) : (Instr.index 30 (.agg #[.int .i64 3, .int .i64 2, .int .i64 1, .int .i64 0]) (.int .i64 k)).run Try.prog w = .ok (.int .i64 (kcnt k)) w := by
  obtain h | h | h | h : k = 0 ∨ k = 1 ∨ k = 2 ∨ k = 3 := by omega
  all_goals subst h
  · exact index4_0 _ _ _ _ _
  · exact index4_1 _ _ _ _ _
  · exact index4_2 _ _ _ _ _
  · exact index4_3 _ _ _ _ _
theorem cfH_count (w : World) : (Instr.field 32 cfH.val 3).run Try.prog w = .ok (.agg #[.int .i64 3, .int .i64 2, .int .i64 1, .int .i64 0]) w := by kernel_rfl
theorem sz_intF (w : World) : (sizeOf (Try.prog.elem 22)).run Try.prog w = .ok 1 w := by kernel_rfl
theorem add_zeroF (a : Addr) : a.add 0 = a := by
  unfold Addr.add
  split <;> simp_all
theorem toI_cons (b : Nat) (l : List Nat) : toI (b :: l) = (b : Int) :: toI l := rfl
theorem toI_len (l : List Nat) : (toI l).length = l.length := by simp [toI]
set_option maxRecDepth 8000 in
set_option maxHeartbeats 16000000 in
theorem freelistEmpty_any (a0 a1 : Int) (w : World) (b0 : -9223372036854775808 ≤ a0 ∧ a0 ≤ 9223372036854775807) (b1 : -9223372036854775808 ≤ a1 ∧ a1 ≤ 9223372036854775807) :
    Calls Try.prog 6 #[.int .i64 a0, .int .i64 a1] w (fun e w' => e = .returned (.bool true) ∧ Below w.heap.size w w') := by
  go_enter Try.func6, Try.ntmps6
  go_wp2_with fail
  refine (heap11_any w _ _ (Hold.start w)).mono ?_
  rintro e u1 ⟨rfl, h1⟩
  go_wp2_with fail
  refine (lab_start w _ _ cfH 1 cfH_ok (by decide) h1).mono ?_
  rintro e u2 ⟨m, r, rfl, h2⟩
  replace h2 : Hold w u2 (memA m (cH 1) * (refA r cfH (cH 1) * Asr.emp)) := h2
  have HV := hid (cH_fv (th := 1) (by decide))
  generalize cH 1 = C0 at h2 HV
  have H3 := hid ((h2.newBlk (t := 27) (cs := #[.pointer (some ⟨m, 0, none⟩), .pointer (some ⟨r, 0, none⟩)])).pk3 [1, 2, 0])
  clear h1 h2
  obtain ⟨k, hk⟩ : ∃ k : Nat, place a0 4 = k := ⟨(place a0 4).toNat, by have := place_nonneg a0 4 (by omega); omega⟩
  have k4 : k < 4 := by have := place_lt a0 4 (by omega); omega
  have Hk := hid hk
  obtain ⟨N6, hN6⟩ : ∃ N6 : Nat, place a1 6 = N6 := ⟨(place a1 6).toNat, by have := place_nonneg a1 6 (by omega); omega⟩
  have N6b : N6 < 6 := by have := place_lt a1 6 (by omega); omega
  have HN6 := hid hN6
  clear hk hN6
  go_wp2_with fail
  have h3 : Hold w _ (memA m C0 * (refA r cfH C0 * (prA u2.heap.size m r * Asr.emp))) := H3.out
  generalize hW : World.alloc _ _ = W3 at h3 ⊢
  generalize u2.heap.size = gp at h3 ⊢
  clear hW H3
  refine (place_any _ _ _ (by omega) (by omega)).mono ?_
  rintro e w' ⟨rfl, rfl⟩
  rw [Hk.out]
  have p0 := h3.drop.drop.blk.some_ (i := 0) rfl
  go_wp2_with fail
  refine (image_any w _ _ m C0 h3 HV.out.ok).mono ?_
  rintro e v4 ⟨y, rfl, h4⟩
  clear h3 p0
  go_wp2_with fail
  refine (list_img w _ _ C0 hs0 ns0 0 y k h4 HV.out fi0 (by decide)).mono ?_
  rintro e v5 ⟨A, cp, rfl, h5⟩
  have HK0 := hid (ki0 [none] [] (by simp) (by simp))
  rw [HK0.out.listF k4] at h5 ⊢
  replace h5 : Hold w v5 (rowA 3 (.slice A (toI (L0 k)).length cp) (toI (L0 k)).length ((toI (L0 k)).map (Value.int .i64)) * (memA m C0 * (refA r cfH C0 * (prA gp m r * Asr.emp)))) := h5
  rw [toI_len] at h5
  rw [show (toI (L0 k), (0 : Int)).1.length = (L0 k).length from toI_len _, show (toI (L0 k), (0 : Int)).2 = 0 from rfl]
  have h6 := h5.imp (Imp.on _ (Imp.rowSl _ _ _ _ _))
  clear h4 h5
  have hix := kcnt_ix k4
  have hcc := cfH_count
  have hlen := kcnt_len k4
  obtain ⟨n0, hn0⟩ : ∃ n0 : Nat, n0 = (L0 k).length := ⟨_, rfl⟩
  rw [← hn0] at hlen ⊢
  have Hn0 := hid hn0
  rw [← hlen] at hix
  have k0' : (0 : Int) ≤ (k : Int) := by omega
  have k4' : (k : Int) < 4 := by omega
  have en : ((n0 : Int) != (n0 : Int)) = false := by simp
  clear hlen hn0
  go_wp2_with fail
  refine (heap11_any w _ _ h6).mono ?_
  rintro e v6 ⟨rfl, h7⟩
  clear h6
  go_wp2_with fail
  clear hix hcc k0' k4' en
  rw [Hn0.out]
  go_loopw [8, 10] (fun s j wr => ∃ (i : Nat) (C : Nat → List Int) (hs ns : List Int) (L : Nat → List Nat) (held : List Nat) (A : Option Addr) (cp : Nat), i ≤ N6 ∧ j = .int .i64 i ∧ s = .slice A (L k).length cp ∧ FV C hs ns ∧ KI hs ns L held [none] [] i ∧ Hold w wr (slA A (L k).length cp ((toI (L k)).map (Value.int .i64)) * (memA m C * (refA r cfH C0 * (prA gp m r * Asr.emp))))) (fun _ j _ => N6 - (intOf j).toNat)
  case atStart => exact ⟨0, C0, hs0, ns0, L0, [], A, cp, by omega, rfl, rfl, HV.out, HK0.out, h7⟩
  case round =>
    clear h7 HV HK0 Hn0
    obtain ⟨i, C, hs, ns, L, held, A, cp, hi, rfl, rfl, hv, hki, h⟩ := hrel
    have HV := hid hv
    have HKI := hid hki
    clear hv hki
    obtain ⟨l, hl⟩ : ∃ l, l = L k := ⟨_, rfl⟩
    rw [← hl] at h ⊢
    have HL := hid hl
    clear hl
    by_cases hlt : i < N6
    · have e1 : decide ((i : Int) < (N6 : Int)) = true := decide_eq_true (by omega)
      go_wp2_with fail
      refine (place_any _ _ _ (by omega) (by omega)).mono ?_
      rintro e w' ⟨rfl, rfl⟩
      rw [HN6.out]
      go_wp2_with fail
      refine (po_new w _ _ k h).mono ?_
      rintro e v2 ⟨g, rfl, h2⟩
      clear h
      go_wp2_with fail
      refine (po_done w _ _ g k 0 0 0 (-1) h2).mono ?_
      rintro e w' ⟨rfl, rfl⟩
      go_wp2_with fail
      refine (po_block w _ _ g k 0 0 0 (-1) h2).mono ?_
      rintro e w' ⟨rfl, rfl⟩
      have h5 : Hold w v2 (poA g k 0 0 0 (-1) * (memA m C * (slA A l.length cp ((toI l).map (Value.int .i64)) * (refA r cfH C0 * (prA gp m r * Asr.emp))))) := h2.pk5 [0, 2, 1, 3, 4]
      clear h2 e1
      obtain ⟨N, S, hs', hrun, hN3, hS0, hfin⟩ : ∃ (N : Nat) (S : Nat → PM) (hs' : List Int), PRun hs ns hs' i g N S ∧ (1 ≤ N ∧ N ≤ 3) ∧ S 0 = ⟨g, k, 0, 0, 0, -1⟩ ∧ ((l = [] ∧ N = 1 ∧ hs' = hs ∧ (S N).bk = -1) ∨ (∃ b l', l = b :: l' ∧ N = 3 ∧ (S N).bk = b ∧ ∃ held', KI hs' ns (updL L k l') held' [none] [] (i + 1 : Nat))) := by
        have K := HKI.out
        have hch := K.ch k k4
        rw [← HL.out] at hch
        cases l with
        | nil =>
          have hz : hs.getD k 0 % 65536 = 0 := hch
          exact ⟨1, _, _, zS_run k4 hz, by omega, rfl, .inl ⟨rfl, rfl, rfl, rfl⟩⟩
        | cons b l' =>
          have hz : 1 ≤ hs.getD k 0 % 65536 := by have := hch.1; omega
          refine ⟨3, _, _, eS_run K.fi k4 hz, by omega, rfl, .inr ⟨b, l', rfl, rfl, ?_, ?_⟩⟩
          · show hs.getD k 0 % 65536 - 1 = b
            have := hch.1; omega
          · have K2 : KI hs ns L held [some (eS g k (hs.getD k 0) (ns.getD (hs.getD k 0 % 65536 - 1).toNat 0) 2)] [] i := K.setP (t := 0) (some _) (fun m hm => by
              obtain rfl := Option.some.inj hm
              exact (eS_run K.fi k4 hz).pw 2 (by decide))
            obtain ⟨l2, h1, h2⟩ := K2.popYes (by omega) (t := 0) rfl rfl rfl none rfl
            have h1 : L k = (hs.getD k 0 % 65536 - 1).toNat :: l2 := h1
            rw [← HL.out] at h1
            obtain ⟨_, rfl⟩ := List.cons.inj h1
            exact ⟨_, h2⟩
      have HRUN := hid hrun
      have HFIN := hid hfin
      have HFI := hid HKI.out.fi
      clear hrun hfin
      replace h5 : Hold w v2 (pmA (S 0) * (memA m C * (slA A l.length cp ((toI l).map (Value.int .i64)) * (refA r cfH C0 * (prA gp m r * Asr.emp))))) := by rw [hS0]; exact h5
      obtain ⟨B, hB⟩ : ∃ B : Int, B = i := ⟨_, rfl⟩
      have B0 : B ≤ 100 := by omega
      rw [← hB] at HRUN HFI
      clear hB hS0
      go_upto_block 2 with fail
      go_cut [8, 10, 12] (fun s j u wx => s = .slice A l.length cp ∧ j = .int .i64 i ∧ u = .int .i64 N ∧ ∃ C', FV C' hs' ns ∧ Hold w wx (pmA (S N) * (memA m C' * (slA A l.length cp ((toI l).map (Value.int .i64)) * (refA r cfH C0 * (prA gp m r * Asr.emp))))))
      case first =>
        go_wp2_with fail
        go_loopw [12] (fun j wx => ∃ (s : Nat) (C' : Nat → List Int), s ≤ N ∧ j = .int .i64 s ∧ FV C' (if s < N then hs else hs') ns ∧ Hold w wx (pmA (S s) * (memA m C' * (slA A l.length cp ((toI l).map (Value.int .i64)) * (refA r cfH C0 * (prA gp m r * Asr.emp)))))) (fun j _ => N - (intOf j).toNat)
        case atStart => exact ⟨0, C, by omega, rfl, by rw [if_pos (by omega)]; exact HV.out, h5⟩
        case round =>
          clear h5 HV
          obtain ⟨s, C', hs3, rfl, hv, h6⟩ := hrel
          have HV := hid hv
          clear hv
          have hdn := pm_done w _ _ (S s) h6
          rw [HRUN.out.gg] at hdn
          have p0 := h6.drop.drop.drop.drop.blk.some_ (i := 0) rfl
          by_cases hls : s < N
          · have e2 : decide ((s : Int) < 4) = true := decide_eq_true (by omega)
            rw [show ((S s).at_ == 3) = false by have := (HRUN.out.pw s hls).a; simp; omega] at hdn
            have HDN := hid hdn
            clear hdn
            go_wp2_with fail
            refine HDN.out.mono ?_
            rintro e w' ⟨rfl, rfl⟩
            clear HDN
            go_wp2_with fail
            rw [if_pos hls] at HV
            have hst := po_step w _ _ m C' hs ns B (S s) h6 HV.out HFI.out (by omega) (HRUN.out.pw s hls)
            rw [HRUN.out.gg] at hst
            refine hst.mono ?_
            clear hst
            rintro e v7 ⟨rfl, h7⟩
            have hv2 := popC_fv HV.out HFI.out (HRUN.out.pw s hls)
            rw [HRUN.out.nx s hls] at h7
            rw [HRUN.out.hh s hls] at hv2
            generalize popC C' (S s) = C2 at h7 hv2
            generalize popA _ _ _ = a2
            have H7 := hid (And.intro hv2 h7)
            clear h6 h7 p0 hv2 HV
            go_wp2_with fail
            go_roundw
            case rel => exact ⟨s + 1, C2, by omega, by go_num, H7.out.1, H7.out.2⟩
            case measure => simp [intOf]; omega
          · obtain rfl : s = N := by omega
            rw [show ((S s).at_ == 3) = true by rw [HRUN.out.en]; rfl] at hdn
            have HDN := hid hdn
            clear hdn
            rw [if_neg hls] at HV
            go_wp2_with fail
            refine HDN.out.mono ?_
            rintro e w' ⟨rfl, rfl⟩
            clear HDN p0
            go_wp2_with fail
            go_meet
            exact ⟨rfl, rfl, rfl, C', HV.out, h6⟩
      case rest =>
      clear h5 HV
      obtain ⟨rfl, rfl, rfl, C', hv, h6⟩ := hcut
      have HV := hid hv
      have hbk := pm_block w _ _ (S N) h6
      have hbd := pm_block w _ _ (S N) h6.drew
      rw [HRUN.out.gg] at hbk hbd
      clear hv
      have h7 : Hold w wc (slA A l.length cp ((toI l).map (Value.int .i64)) * (memA m C' * (refA r cfH C0 * (prA gp m r * Asr.emp)))) := h6.pk3 [2, 1]
      clear h6
      rcases HFIN.out with ⟨rfl, rfl, rfl, hb⟩ | ⟨b, l', rfl, rfl, hb, held', hki⟩
      · rw [hb] at hbk
        have HBK := hid hbk
        have H7 := hid h7
        rw [show ([] : List Nat).length = 0 from rfl]
        clear hbk hbd hb h7
        go_wp2_with fail
        refine HBK.out.mono ?_
        rintro e w' ⟨rfl, rfl⟩
        have HKI2 := hid (HKI.out.mono (B' := ((i + 1 : Nat) : Int)) (by omega) (by omega))
        clear HKI HFI HRUN HFIN HBK
        go_wp2_with fail
        go_roundw
        case rel => exact ⟨i + 1, C', hs', ns, L, held, A, cp, by omega, by go_num, by rw [← HL.out]; rfl, HV.out, HKI2.out, by rw [← HL.out]; exact H7.out⟩
        case measure => simp [intOf]; omega
      · rw [hb] at hbd
        have HBK := hid hbd
        have HKI2 := hid hki
        clear hbk hbd hb hki
        rw [toI_cons] at h7
        rw [show (b :: l').length = l'.length + 1 from rfl] at h7 ⊢
        obtain ⟨n', hn'⟩ : ∃ n', n' = l'.length := ⟨_, rfl⟩
        rw [← hn'] at h7 ⊢
        have Hn' := hid hn'
        have e4 : (((n' + 1 : Nat) : Int) == 0) = false := by simp; omega
        have e5 : ((b : Int) != (b : Int)) = false := by simp
        clear hn'
        obtain ⟨ad, rfl, _⟩ := h7.slAt (k := 0) (by omega)
        have hat : ∀ w' R', Hold w w' (slA (some ad) (n' + 1) cp (((b : Int) :: toI l').map (Value.int .i64)) * R') → w'.cell? ad = some (.int .i64 b) := fun w' R' h' => by
          obtain ⟨ad2, hA, hc⟩ := h'.slAt2 (k := 0) (by omega)
          obtain rfl := Option.some.inj hA
          have := hc w' R' h'
          rw [add_zeroF] at this
          exact this
        have HAT := hid hat
        clear hat
        clear HKI HFI HRUN HFIN
        rw [show ((3 : Nat) : Int) = 3 from rfl]
        have e33 : ((3 : Int) != 3) = false := rfl
        go_upto_region 21 with fail
        clear e4
        replace h7 := h7.drew
        refine wp_region_brk [] (by kernel_rfl) ?_
        refine wpAnyB_now (fun w' => w'.cell? ad = some (.int .i64 b)) (fun _ _ => trivial) _ _ _ _ ?_
        refine' wpAnyB_bulk [true, true, true, true, false, true, true, true] 96 (listed' := #[true, true, true, true, false, true, true, true, false, false]) rfl (by kernel_rfl) (by kernel_rfl) (by kernel_rfl) (by kernel_rfl) (by kernel_rfl) (by kernel_rfl) (by decide) (fun _ _ _ _ h => h) rfl (HAT.out _ _ h7) (fun wq hq => ?_) ?_; rotate_left 1
        · simp only [maskL]
          repeat (go_big_quiet_step (fail))
          exact wpQuiet_nil rfl
        refine wpAnyB_bar [false, false, false, false, true] (fuel := 2) (by rfl) (by rfl) (by kernel_rfl) (fun QB hQB hQX => ?_)
        simp only [maskL]
        go_wp2_with fail
        refine (HBK.out).mono ?_
        rintro e w' ⟨rfl, rfl⟩
        go_wp2_with fail
        refine hQB.out _ _ (HAT.out _ _ h7) ?_
        clear hQB hQX QB
        refine' wpAnyB_bulk [false, false, false, false, false, false, false, false, true, true] 96 (listed' := #[true, true, true, true, true, true, true, true, true, true]) rfl (by kernel_rfl) (by kernel_rfl) (by kernel_rfl) (by kernel_rfl) (by kernel_rfl) (by kernel_rfl) (by decide) (fun _ _ _ _ h => h) rfl (HAT.out _ _ h7) (fun wq hq => ?_) ?_; rotate_left 1
        · simp only [maskL]
          repeat (go_big_quiet_step (fail))
          exact wpQuiet_nil rfl
        refine wpAnyB_done (by kernel_rfl) ?_ _
        have t1 := fun w => slice_tailP (P := Try.prog) 22 (by kernel_rfl) sz_intF w ad n' cp
        obtain ⟨A2, hA2⟩ : ∃ A2, A2 = if cp = 1 then some ad else some (ad.add 1) := ⟨_, rfl⟩
        rw [← hA2] at t1
        have h8 : Hold w wc.drew (slA A2 n' (cp - 1) ((toI l').map (Value.int .i64)) * (memA m C' * (refA r cfH C0 * (prA gp m r * Asr.emp)))) := by
          rw [hA2]; exact h7.imp (Imp.on _ (Imp.slTail ad n' cp _ _))
        have H8 := hid h8
        clear h7 h8 hA2 HBK HAT
        go_wp2_with fail
        go_roundw
        case rel => exact ⟨i + 1, C', hs', ns, _, held', A2, cp - 1, by omega, by go_num, by rw [show updL L k l' k = l' from if_pos rfl, ← Hn'.out], HV.out, HKI2.out, by rw [show updL L k l' k = l' from if_pos rfl, ← Hn'.out]; exact H8.out⟩
        case measure => simp [intOf]; omega
    · obtain rfl : i = N6 := by omega
      have e1 : decide ((i : Int) < (i : Int)) = false := by simp
      go_wp2_with fail
      refine (place_any _ _ _ (by omega) (by omega)).mono ?_
      rintro e w' ⟨rfl, rfl⟩
      rw [HN6.out]
      go_wp2_with fail
      refine (awake11_any w _ _ h).mono ?_
      rintro e v5 ⟨rfl, h6⟩
      have H6 := hid h6.below
      clear h h6
      go_wp2_with fail
      go_ret
      exact ⟨rfl, H6.out⟩
end Go.Proofs.Ytigjpfhjddkckaa
