/- The walk of RedoProbes. -/
import Derived.Test.YtponapjgajmdnaaWalk13b
namespace Go.Proofs.Ytponapjgajmdnaa
open Go.RowKit
set_option linter.unusedVariables false

theorem IsRow.at_ {k : IntKind} {w w' : World} {a : Option Addr} {len cap : Nat} {zs : List Int} (h : IsRow k w a len cap zs) (hb : Below w.heap.size w w') {i : Nat} (hi : i < len) :
    ∃ x, a = some x ∧ w'.cell? (x.add i) = some (.int k (zs.getD i 0)) := by
  rcases h with ⟨_, h, _⟩ | ⟨x, rfl, hl, _, hz, hc, _⟩
  · omega
  · refine ⟨x, rfl, ?_⟩
    have h1 := hc i (by omega)
    have h2 := World.block_lt_of_cell? w _ h1
    exact (World.cell?_of_block (hb.block _ h2)).trans h1

/-- Each entry has one place. -/
def Uniq (L : PL) : Prop := ∀ q r, q < L.idx.length → r < L.idx.length → 0 ≤ ix L.idx q → ix L.idx q = ix L.idx r → q = r
theorem ix_set {idx : List Int} {k q : Nat} {v : Int} (hk : k < idx.length) : ix (idx.set k v) q = if q = k then v else ix idx q := by
  unfold ix
  simp only [List.getD, List.getElem?_set]
  by_cases h : k = q
  · subst h; simp [hk]
  · rw [if_neg h, if_neg (fun e => h e.symm)]
theorem negAt_lt {L : PL} (H : Inv L) (a : Int) : negAt L.idx a < L.idx.length := spot_lt H.pos _ _
theorem Uniq.put {L : PL} (H : Inv L) (U : Uniq L) (a v : Int) : Uniq (putL L a v) := by
  unfold putL
  split
  · exact U
  · split
    · exact U
    · split
      · have hn := negAt_lt H a
        intro q r hq hr h0 he
        simp only [List.length_set] at hq hr
        simp only [ix_set hn] at h0 he
        have r1 := H.rng q hq
        have r2 := H.rng r hr
        split at he <;> split at he
        · omega
        · omega
        · omega
        · rename_i h1 h2
          rw [if_neg h1] at h0
          exact U q r hq hr h0 he
      · exact U

structure Good (n : Nat) (L : PL) : Prop where
  cap : L.cap = n
  len : L.idx.length = psize n
  uniq : Uniq L
  lt : ∀ a ∈ L.addrs, a < 200
theorem Good.zero {n : Nat} (h : n ≤ 32) : Good n (newL (n : Int)) := by
  have hc : clampM (n : Int) = n := by unfold clampM; omega
  refine ⟨hc, by simp [newL, emptyL, hc], ?_, ?_⟩
  · intro q r hq hr h0
    simp only [newL, emptyL, List.length_replicate] at hq
    simp [newL, emptyL, ix, List.getD, hq] at h0
  · intro a ha
    simp [newL, emptyL] at ha
theorem Good.put {n : Nat} {L : PL} (h : Good n L) (H : Inv L) (a v : Int) (ha : a < 200) : Good n (putL L a v) := by
  refine ⟨?_, ?_, h.uniq.put H a v, ?_⟩
  · unfold putL; (repeat' split) <;> exact h.cap
  · unfold putL; (repeat' split) <;> simp [h.len]
  · unfold putL
    (repeat' split)
    · exact h.lt
    · exact h.lt
    · intro b hb
      rcases List.mem_append.1 hb with hb | hb
      · exact h.lt b hb
      · rw [List.mem_singleton.1 hb]; exact ha
    · exact h.lt
/-- The way to a place. -/
theorem way {L : PL} (H : Inv L) (U : Uniq L) {k m : Nat} (hk : k < L.idx.length) (hm : ix L.idx k = m) :
    ∃ t, t < L.idx.length ∧ spot L.idx (adr L m) t = k ∧ ∀ u, u ≤ t → 0 ≤ ix L.idx (spot L.idx (adr L m) u) := by
  have hr := H.rng k hk
  obtain ⟨t, ht, h1, h2⟩ := H.plc m (by omega)
  exact ⟨t, ht, U _ _ (spot_lt H.pos _ _) hk (by omega) (by omega), h2⟩
theorem spot_ne {idx : List Int} (hp : 0 < idx.length) {a : Int} {u t : Nat} (hut : u < t) (ht : t < idx.length) : spot idx a u ≠ spot idx a t := fun e => by
  have h1 := offOf_spot hp a (show u < idx.length by omega)
  have h2 := offOf_spot hp a ht
  rw [e, h2] at h1
  omega
/-- How many places hold an entry. -/
def cnt (k : Nat) (idx : List Int) : Nat := (idx.take k).countP fun x => decide (0 ≤ x)
theorem cnt_step {k : Nat} {idx : List Int} (h : k < idx.length) : cnt (k + 1) idx = cnt k idx + if 0 ≤ ix idx k then 1 else 0 := by
  unfold cnt
  rw [List.take_succ_eq_append_getElem h, List.countP_append, ← ix_at h]
  by_cases h0 : 0 ≤ ix idx k <;> simp [h0]
theorem cnt_all {L : PL} (H : Inv L) : cnt L.idx.length L.idx = L.addrs.length := by
  have h1 := H.neg
  have h2 := List.length_eq_countP_add_countP (p := fun x : Int => decide (x < 0)) (l := L.idx)
  have h3 : (fun a : Int => decide (¬ (decide (a < 0) = true))) = fun x => decide (0 ≤ x) := by funext a; simp
  rw [h3] at h2
  unfold cnt
  rw [List.take_length]
  omega
theorem cnt_le (k : Nat) (idx : List Int) : cnt k idx ≤ k := by
  unfold cnt
  exact Nat.le_trans List.countP_le_length (by simp; omega)
theorem home_law {s : Nat} {y : Int} : y * 5 % (s : Int) = y % (s : Int) * 5 % (s : Int) := by rw [Int.mul_emod, Int.mul_emod (y % (s : Int)) 5, Int.emod_emod]

set_option maxRecDepth 8000 in
set_option maxHeartbeats 4000000 in
theorem redoProbes_walk (a0 : Int) (a1 : Option Addr) (len1 cap1 : Nat) (z1 : List Int) (w : World) (w0 : (Lit.int .i64 a0).wf = true) (hz : IsRow .i64 w a1 len1 cap1 z1) :
    Calls Try.prog 11 #[.int .i64 a0, .slice a1 len1 cap1] w fun e w' => e = .returned (.bool true) ∧ Below w.heap.size w w' := by
  by_cases hl : len1 ≤ 60
  · have hd : decide (60 < (len1 : Int)) = false := decide_eq_false (by omega)
    have p0 := place_nonneg a0 32 (by omega)
    have p1 := place_lt a0 32 (by omega)
    obtain ⟨n, hn⟩ : ∃ n : Nat, 1 + place a0 32 = (n : Int) := ⟨(1 + place a0 32).toNat, by omega⟩
    have n1 : 1 ≤ n := by omega
    have n32 : n ≤ 32 := by omega
    have Hn := hid hn
    clear hn
    go_enter Try.func11, Try.ntmps11
    go_wp2_with fail
    refine (place_any _ _ _ (by omega) (by omega)).mono ?_
    rintro e w' ⟨rfl, rfl⟩
    go_wp2_with fail
    rw [Hn.out]
    clear p0 p1 Hn hd
    refine (li_new w _ _ (Below.refl _ _)).mono ?_
    rintro e w1 ⟨g, fp, rfl, h1⟩
    go_wp2_with fail
    go_loopw [7] (fun i wr => ∃ (k : Nat) (fp : List Nat) (L : PL), k ≤ len1 ∧ i = .int .i64 k ∧ Good n L ∧ LI w wr fp g L) (fun i _ => len1 - (intOf i).toNat)
    case atStart => exact ⟨0, fp, _, Nat.zero_le _, rfl, Good.zero n32, h1⟩
    case round =>
      obtain ⟨k, fp, L, hk, rfl, hG, h2⟩ := hrel
      clear h1
      by_cases hlt : k < len1
      · have e1 : decide ((k : Int) < (len1 : Int)) = true := decide_eq_true (by omega)
        have e2 : (0 : Int) ≤ (k : Int) := by omega
        have e3 : (k : Int) < (len1 : Int) := by omega
        have hw : IntKind.u64.wrap (k : Int) = k := by rw [IntKind.wrap_u64]; omega
        obtain ⟨x, rfl, hc⟩ := hz.at_ h2.below hlt
        obtain ⟨y, hy⟩ : ∃ y, y = z1.getD k 0 := ⟨_, rfl⟩
        rw [← hy] at hc
        clear hy
        have v1 := place_lt y 200 (by omega)
        go_wp2_with fail
        refine (place_any _ _ _ (by omega) (by omega)).mono ?_
        rintro e w2 ⟨rfl, rfl⟩
        go_wp2_with fail
        refine (li_put w _ _ _ _ (place y 200) k h2).mono ?_
        rintro e w3 ⟨rfl, fp3, h3, _⟩
        have hG3 := hG.put h2.inv (place y 200) k v1
        clear h2 hc hG
        go_wp2_with fail
        go_roundw
        case rel => exact ⟨k + 1, fp3, _, by omega, rfl, hG3, h3⟩
        case measure => simp [intOf]; omega
      · have hkn : k = len1 := by omega
        subst hkn
        have e1 : decide ((k : Int) < (k : Int)) = false := by simp
        go_wp2_with fail
        go_loop [8] (fun v => ∃ p : Nat, v = .int .i64 p ∧ (p = 1 ∨ p = 2 ∨ p = 4 ∨ p = 8 ∨ p = 16 ∨ p = 32 ∨ p = 64) ∧ (p = 1 ∨ p < 4 * n)) (fun v => 64 - (intOf v).toNat)
        case atStart => exact ⟨1, rfl, by omega, by omega⟩
        case round =>
          obtain ⟨s, rfl, hp, hp4⟩ := hrel
          have p64 : s ≤ 64 := by omega
          have p0 : 0 < s := by omega
          by_cases hlt : s < 2 * n
          · have e1 : decide ((s : Int) < 2 * (n : Int)) = true := decide_eq_true (by omega)
            go_wp2_with fail
            go_round
            case rel => exact ⟨2 * s, by simp, by omega, by omega⟩
            case measure => simp [intOf]; omega
          · have e1 : decide ((s : Int) < 2 * (n : Int)) = false := decide_eq_false (by omega)
            have hps := psize_at n32 hp hp4 hlt
            have hsl : L.idx.length = s := by rw [hG.len, hps]
            have Hs := hid hsl
            clear hp hp4 hps hlt
            go_wp2_with fail
            refine (log_index _ _ _ _ h2.at_ h2.inv).mono ?_
            rintro e w2 ⟨I, cI, rfl, oI, hcI⟩
            rw [hsl] at oI ⊢
            have h3 := h2.chg0 hcI
            clear h2 hcI hsl
            go_wp2_with fail
            refine (log_addrs _ _ _ _ h3.at_ h3.inv).mono ?_
            rintro e w3 ⟨A, cA, rfl, oA, hcA⟩
            have oI3 := row_chg oI hcA (by simp)
            have h4 := h3.chg0 hcA
            obtain ⟨r, hr⟩ : ∃ r, r = L.addrs.length := ⟨_, rfl⟩
            rw [← hr] at oA ⊢
            have Hr := hid hr
            have hr32 : r ≤ 32 := by rw [hr]; exact h4.len
            clear h3 hcA oI hr
            go_wp2_with fail
            refine (log_len _ _ _ _ h4.at_).mono ?_
            rintro e w4 ⟨rfl, rfl⟩
            rw [← Hr.out]
            have HI := hid h4.inv
            have HU := hid hG.uniq
            have HL := hid hG.lt
            have hB := h4.below
            obtain ⟨gI, hIe, -, -, -, -⟩ := row_at (row_base oI3 (Nat.zero_le _)) p0
            have cI3 : Hid (∀ q, q < s → w3.cell? ⟨gI, q, none⟩ = some (.int .i64 (ix L.idx q))) := hid fun q hq => by
              obtain ⟨g', hg, _, hc, _, _⟩ := row_at (row_base oI3 (Nat.zero_le _)) hq
              rw [num_some (by rw [Hs.out]; exact hq)] at hc
              rw [hIe] at hg
              injection hg with hg
              injection hg with hg
              subst hg
              exact hc
            have cA3 : Hid (∀ m, m < r → ∃ gA, A = some ⟨gA, 0, none⟩ ∧ w3.cell? ⟨gA, m, none⟩ = some (.int .i64 (adr L m))) := hid fun q hq => by
              obtain ⟨g', hg, _, hc, _, _⟩ := row_at (row_base oA (Nat.zero_le _)) hq
              rw [num_some (by rw [← Hr.out]; exact hq)] at hc
              exact ⟨g', hg, hc⟩
            subst hIe
            clear oI3 oA h4 hG
            clear hz hlt hk e1
            go_wp2_with fail
            go_loop [11, 12, 13] (fun c q _ => ∃ m : Nat, m ≤ s ∧ q = .int .i64 m ∧ c = .int .i64 (cnt m L.idx : Nat)) (fun _ q _ => s - (intOf q).toNat)
            case atStart => exact ⟨0, by omega, rfl, rfl⟩
            case round =>
              obtain ⟨q, hq, rfl, rfl⟩ := hrel
              by_cases hlq : q < s
              · have f1 : decide ((q : Int) < (s : Int)) = true := decide_eq_true (by omega)
                have f2 : (0 : Int) ≤ (q : Int) := by omega
                have f3 : (q : Int) < (s : Int) := by omega
                have hc := cI3.out q hlq
                have hrg := HI.out.rng q (by rw [Hs.out]; exact hlq)
                have hst := cnt_step (idx := L.idx) (k := q) (by rw [Hs.out]; exact hlq)
                have hcl := cnt_le q L.idx
                have hway := fun m hm => way HI.out HU.out (k := q) (m := m) (by rw [Hs.out]; exact hlq) hm
                obtain ⟨j, hj⟩ : ∃ j, j = ix L.idx q := ⟨_, rfl⟩
                rw [← hj] at hc hrg hst hway
                rw [← Hr.out] at hrg
                obtain ⟨cq, hcq⟩ : ∃ cq, cq = cnt q L.idx := ⟨_, rfl⟩
                rw [← hcq] at hst hcl ⊢
                have Hst := hid hst
                have Hway := hid hway
                clear hst hway hj hcq
                have g1 : decide (j < -1) = false := decide_eq_false (by omega)
                have g2 : decide ((r : Int) ≤ j) = false := decide_eq_false (by omega)
                by_cases hj0 : j < 0
                · have g3 : decide (j < 0) = true := decide_eq_true hj0
                  have hst2 : Hid (cnt (q + 1) L.idx = cq) := hid (by rw [Hst.out, if_neg (by omega)]; rfl)
                  go_wp2_with fail
                  go_round
                  case rel => exact ⟨q + 1, by omega, rfl, by rw [hst2.out]⟩
                  case measure => simp [intOf]; omega
                · obtain ⟨m, rfl⟩ : ∃ m : Nat, j = m := ⟨j.toNat, by omega⟩
                  have g3 : decide ((m : Int) < 0) = false := decide_eq_false (by omega)
                  have hmr : m < r := by omega
                  have m1 : (0 : Int) ≤ (m : Int) := by omega
                  have m2 : (m : Int) < (r : Int) := by omega
                  obtain ⟨gA, rfl, hcA⟩ := cA3.out m hmr
                  have hst2 : Hid (cnt (q + 1) L.idx = cq + 1) := hid (by rw [Hst.out, if_pos (by omega)])
                  obtain ⟨t, ht, hsp, hpos⟩ := Hway.out m rfl
                  have hnn := HI.out.nonneg m (by rw [← Hr.out]; exact hmr)
                  have hlt2 := HL.out (adr L m) (adr_mem (by rw [← Hr.out]; exact hmr))
                  obtain ⟨y, hy⟩ : ∃ y, y = adr L m := ⟨_, rfl⟩
                  rw [← hy] at hcA hsp hpos hnn hlt2
                  clear hy
                  have g4 : decide (y < 0) = false := decide_eq_false (by omega)
                  have y5 : 0 ≤ y * 5 := by omega
                  have hz0 : ((s : Int) == 0) = false := beq_eq_false_iff_ne.2 (by omega)
                  have hhome : y * 5 % (s : Int) = ((spot L.idx y 0 : Nat) : Int) := by
                    rw [spot_zero (by rw [Hs.out]; exact p0), Hs.out, home_law]
                    unfold home
                    have := Int.emod_nonneg (y % (s : Int) * 5) (show (s : Int) ≠ 0 by omega)
                    omega
                  have Hhome := hid hhome
                  have Hsp := hid hsp
                  have Hpos := hid hpos
                  have Ht := hid ht
                  clear hhome hsp hpos ht
                  go_wp2_with fail
                  rw [Hhome.out]
                  clear hcA hc g1 g2 g3 g4 hcl f1 y5
                  go_loop [13] (fun v => ∃ u : Nat, u ≤ t ∧ v = .int .i64 (spot L.idx y u : Nat)) (fun v => s - offOf s (home s y) (intOf v).toNat)
                  case atStart => exact ⟨0, Nat.zero_le _, rfl⟩
                  case round =>
                    obtain ⟨u, hu, rfl⟩ := hrel
                    have hlh := spot_lt HI.out.pos y u
                    rw [Hs.out] at hlh
                    have hch := cI3.out _ hlh
                    have hph := Hpos.out u hu
                    have hts := Ht.out
                    rw [Hs.out] at hts
                    have hsu : Hid (spot L.idx y (u + 1) = (spot L.idx y u + 1) % s) := hid (by rw [spot_succ, Hs.out])
                    have hof : Hid (offOf s (home s y) (spot L.idx y u) = u) := hid (by rw [← Hs.out]; exact offOf_spot HI.out.pos y (by rw [Hs.out]; omega))
                    have hof2 : Hid (u < t → offOf s (home s y) (spot L.idx y (u + 1)) = u + 1) := hid (fun hut => by rw [← Hs.out]; exact offOf_spot HI.out.pos y (by rw [Hs.out]; omega))
                    have hne : u < t → spot L.idx y u ≠ q := fun hut => by rw [← Hsp.out]; exact spot_ne HI.out.pos hut Ht.out
                    have heq : u = t → spot L.idx y u = q := fun h => by rw [h]; exact Hsp.out
                    obtain ⟨h, hh⟩ : ∃ h, h = spot L.idx y u := ⟨_, rfl⟩
                    rw [← hh] at hlh hch hph hsu hof hne heq ⊢
                    obtain ⟨z, hz⟩ : ∃ z, z = ix L.idx h := ⟨_, rfl⟩
                    rw [← hz] at hch hph
                    clear hh hz
                    by_cases hut : u < t
                    · have k1 : ((h : Int) != (q : Int)) = true := by have := hne hut; simp; omega
                      have k2 : (0 : Int) ≤ (h : Int) := by omega
                      have k3 : (h : Int) < (s : Int) := by omega
                      have k4 : decide (z < 0) = false := decide_eq_false (by omega)
                      have hnx : Hid (((h : Int) + 1) % (s : Int) = ((spot L.idx y (u + 1) : Nat) : Int)) := hid (by rw [hsu.out]; simp)
                      clear hne heq hph hlh
                      go_wp2_with fail
                      rw [hnx.out]
                      go_round
                      case rel => exact ⟨u + 1, by omega, rfl⟩
                      case measure =>
                        have := hof.out
                        have := hof2.out hut
                        simp only [intOf, Int.toNat_natCast]
                        omega
                    · have k1 : ((h : Int) != (q : Int)) = false := by have := heq (by omega); simp; omega
                      clear hne heq hph hlh hch
                      go_wp2_with fail
                      go_round
                      case rel => exact ⟨q + 1, by omega, rfl, by rw [hst2.out]; rfl⟩
                      case measure => simp [intOf]; omega
              · have hqs : q = s := by omega
                subst hqs
                have f1 : decide ((q : Int) < (q : Int)) = false := by simp
                have hca : cnt q L.idx = r := by rw [← Hs.out, cnt_all HI.out, Hr.out]
                rw [hca]
                go_wp2_with fail
                refine (awake13 _).mono ?_
                rintro e w13 ⟨rfl, hb⟩
                go_wp2_with fail
                go_ret
                exact ⟨rfl, chg_below hB (Chg.of_below hb) (Own.nil _)⟩
  · have hd : decide (60 < (len1 : Int)) = true := decide_eq_true (by omega)
    go_enter Try.func11, Try.ntmps11
    go_wp2_with fail
    refine (awake13 _).mono ?_
    rintro e w13 ⟨rfl, hb⟩
    go_wp2_with fail
    go_ret
    exact ⟨rfl, hb⟩
end Go.Proofs.Ytponapjgajmdnaa
