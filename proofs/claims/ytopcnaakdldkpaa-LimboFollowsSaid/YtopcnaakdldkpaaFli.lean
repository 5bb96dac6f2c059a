/- freelist.List and the reference's List: contracts. -/
import Derived.Test.YtopcnaakdldkpaaFlp
import Derived.Test.YtopcnaakdldkpaaWordW
import Derived.Test.YtopcnaakdldkpaaSl
import Derived.Test.YtopcnaakdldkpaaLists
import Derived.Deep.DeepCutAuto
import Derived.Deep.CutBlock
namespace Go.Proofs.Ytopcnaakdldkpaa
open Go.RowKit
set_option linter.unusedVariables false

/-- Heads and links that can be read while p is held. -/
structure SrcI (w0 : World) (p : Asr) (A7 A8 : Option Addr) (hs ns : List Int) : Prop where
  r7 : ∀ w' R', Hold w0 w' (p * R') → ∃ b, Reads w' b A7 hs.length (hs.map (Value.int .u64))
  r8 : ∀ w' R', Hold w0 w' (p * R') → ∃ b, Reads w' b A8 ns.length (ns.map (Value.int .u64))
  u7 : ∀ x ∈ hs, 0 ≤ x ∧ x < 18446744073709551616
  u8 : ∀ x ∈ ns, 0 ≤ x ∧ x < 18446744073709551616
  l8 : ns.length ≤ 1000
  l7 : hs.length ≤ 1000
section
variable {w0 w : World} {p R : Asr} {A7 A8 : Option Addr} {hs ns : List Int}
theorem SrcI.at7 (s : SrcI w0 p A7 A8 hs ns) (h : Hold w0 w (p * R)) {k : Nat} (hk : k < hs.length) : ∃ ad, A7 = some ad ∧ w.cell? (ad.add k) = some (.int .u64 (hs.getD k 0)) := by
  obtain ⟨b, h1⟩ := s.r7 w R h
  obtain ⟨ad, hA, _, hc⟩ := h1.numAt hk
  exact ⟨ad, hA, hc⟩
theorem SrcI.at8 (s : SrcI w0 p A7 A8 hs ns) (h : Hold w0 w (p * R)) {k : Nat} (hk : k < ns.length) : ∃ ad, A8 = some ad ∧ w.cell? (ad.add k) = some (.int .u64 (ns.getD k 0)) := by
  obtain ⟨b, h1⟩ := s.r8 w R h
  obtain ⟨ad, hA, _, hc⟩ := h1.numAt hk
  exact ⟨ad, hA, hc⟩
theorem getD_all {l : List Int} {k : Nat} {P : Int → Prop} (h : ∀ x ∈ l, P x) (h0 : P 0) : P (l.getD k 0) := by
  by_cases hk : k < l.length
  · rw [List.getD_eq_getElem?_getD, List.getElem?_eq_getElem hk]; exact h _ (List.getElem_mem hk)
  · rw [List.getD_eq_getElem?_getD, List.getElem?_eq_none (by omega)]; exact h0
end
def lenV : Value → Nat
  | .slice _ n _ => n
  | _ => 0
/-- List returned l. -/
def ListPost (w0 : World) (P : Asr) (r : List Int × Int) (e : Ending) (w' : World) : Prop := ∃ (A : Option Addr) (c : Nat), e = .returned (.tuple #[.slice A r.1.length c, .int .i64 r.2]) ∧ Hold w0 w' (rowA 3 (.slice A r.1.length c) r.1.length (r.1.map (Value.int .i64)) * P)
theorem info_intF : (Try.prog.info? 3).map (fun i => (i.zero, i.size, i.bytes)) = some (some (.int .i64 0), 1, 8) := by kernel_rfl
theorem info_boolF : (Try.prog.info? 4).map (fun i => (i.zero, i.size, i.bytes)) = some (some (.bool false), 1, 1) := by kernel_rfl
theorem Hold.makeB {w0 W w1 : World} {R : Asr} {e n g B : Nat} (h : Hold w0 W R) (hown : w1.ownsRow B e 1 (.slice (some ⟨g, 0, none⟩) n n) n (madeCells #[Value.bool false] n).toList) (hg : W.grownBy w1 none) (hB : W.heap.size ≤ B) :
    Hold w0 w1 (rowA e (.slice (some ⟨g, 0, none⟩) n n) n ((List.replicate n false).map Value.bool) * R) := by
  rw [toList_madeCells_one] at hown
  exact h.newRow ((Chg.refl _ _).grown hg (by simp)) (by simpa using hown) hB
set_option maxRecDepth 8000 in
set_option maxHeartbeats 4000000 in
theorem list_any (w0 w : World) (R p : Asr) (v0 v1 v2 v3 v4 v5 : Value) (A7 A8 : Option Addr) (c7 c8 : Nat) (hs ns : List Int) (k : Int) (src : SrcI w0 p A7 A8 hs ns) (h : Hold w0 w (p * R)) :
    Calls Try.prog 29 #[.agg #[v0, v1, v2, v3, v4, v5, .slice A7 hs.length c7, .slice A8 ns.length c8], .int .i64 k] w (ListPost w0 (p * R) (listF hs ns k)) := by
  obtain ⟨iI, hiI, hzI0, hzI1, hzI2⟩ := info_parts info_intF
  obtain ⟨iB, hiB, hzB0, hzB1, hzB2⟩ := info_parts info_boolF
  have SRC := hid src
  obtain ⟨N, hN⟩ : ∃ N, N = ns.length := ⟨_, rfl⟩
  obtain ⟨M, hM⟩ : ∃ M, M = hs.length := ⟨_, rfl⟩
  have N0 : N ≤ 1000 := by rw [hN]; exact src.l8
  have M0 : M ≤ 1000 := by rw [hM]; exact src.l7
  have HN := hid hN
  have HM := hid hM
  have H1 := hid ((h.newBlk (t := 72) (cs := #[v0, v1, v2, v3, v4, v5, .slice A7 M c7, .slice A8 N c8])).swap)
  rw [← hN, ← hM]
  by_cases hr : k < 0 ∨ 4 ≤ k ∨ hs.length ≠ 4
  · have hF : listF hs ns k = ([], 2) := by unfold listF; rw [if_pos hr]
    rw [hF]
    have H2 := hid (H1.out.drew.nilRow 3)
    rw [← hM] at hr
    clear src h hN hM hF
    go_enter Try.func29, Try.ntmps29
    have h1 := H1.out
    have b6 := h1.swap.blk.some_ (i := 6) (u := .slice A7 M c7) rfl
    clear h1
    rcases hr with hk | hk | hk
    · have e1 : decide (k < 0) = true := decide_eq_true hk
      go_wp2_with fail
      go_ret2
      exact ⟨none, 0, rfl, (H1.out.swap.drop.nilRow 3)⟩
    · have e1 : decide (k < 0) = false := decide_eq_false (by omega)
      have e2 : decide (4 ≤ k) = true := decide_eq_true hk
      go_wp2_with fail
      go_ret2
      exact ⟨none, 0, rfl, (H1.out.swap.drop.nilRow 3)⟩
    · have e3 : ((M : Int) != 4) = true := by simp; omega
      cases e1 : decide (k < 0) <;> cases e2 : decide (4 ≤ k)
      all_goals
        go_wp2_with fail
        go_ret2
        exact ⟨none, 0, rfl, (H1.out.swap.drop.nilRow 3)⟩
  · have hM4 : M = 4 := by omega
    subst hM4
    obtain ⟨kn, rfl⟩ : ∃ kn : Nat, k = kn := ⟨k.toNat, by omega⟩
    have kn4 : kn < 4 := by omega
    have hF : listF hs ns kn = finR (listR ns (hs.getD kn 0 % 65536)) := by unfold listF; rw [if_neg hr]; rfl
    rw [hF]
    obtain ⟨res, hres⟩ : ∃ res, res = listR ns (hs.getD kn 0 % 65536) := ⟨_, rfl⟩
    rw [← hres]
    have HRS := hid hres
    have e1 : decide ((kn : Int) < 0) = false := decide_eq_false (by omega)
    have e2 : decide (4 ≤ (kn : Int)) = false := decide_eq_false (by omega)
    clear src h hN hM hF hr hres
    go_enter Try.func29, Try.ntmps29
    have h1 := H1.out
    have b6 := h1.swap.blk.some_ (i := 6) (u := .slice A7 4 c7) rfl
    have b7 := h1.swap.blk.some_ (i := 7) (u := .slice A8 N c8) rfl
    clear h1
    go_wp2_with (at_make; refine wpList_make_full _ rfl _ _ 102 rfl _ 4 iB (.bool false) 1 Try.underlying102 hiB hzB0 hzB1 .i64 .i64 (N : Int) (N : Int) N rfl rfl rfl rfl (by rw [hzB2]; omega) (by unfold maxLen; omega) (Nat.le_refl _) ?_)
    intro w1 hown hgrow
    have h2 := H1.out.makeB hown hgrow (by simp)
    clear hown hgrow b6 b7
    generalize hg1 : w.heap.size + 1 = gs at h2 ⊢
    generalize w.heap.size = gi at h2 ⊢
    clear hg1 H1
    have h3 : Hold w0 w1 (p * (rowA 4 (.slice (some ⟨gs, 0, none⟩) N N) N ((List.replicate N false).map Value.bool) * (blkA 72 gi #[v0, v1, v2, v3, v4, v5, .slice A7 4 c7, .slice A8 N c8] * R))) := h2.pk3 [1, 0, 2]
    clear h2
    have b6 := h3.drop.drop.blk.some_ (i := 6) (u := .slice A7 4 c7) rfl
    have b7 := h3.drop.drop.blk.some_ (i := 7) (u := .slice A8 N c8) rfl
    obtain ⟨a7, rfl, hc7⟩ := SRC.out.at7 h3 (k := kn) (by rw [← HM.out]; exact kn4)
    have hu := getD_all (l := hs) (k := kn) (P := fun x => 0 ≤ x ∧ x < 18446744073709551616) SRC.out.u7 (by decide)
    obtain ⟨hd, hhd⟩ : ∃ hd, hd = hs.getD kn 0 := ⟨_, rfl⟩
    rw [← hhd] at hc7 hu
    have HHD := hid hhd
    have k0 : (0 : Int) ≤ (kn : Int) := by omega
    have k4 : (kn : Int) < 4 := by omega
    clear hhd
    go_wp2_with fail
    refine (W.top_any _ hd hu.1 hu.2).mono ?_
    rintro e w' ⟨rfl, rfl⟩
    obtain ⟨lk, hlk⟩ : ∃ lk, lk = hd % 65536 := ⟨_, rfl⟩
    have lkb : 0 ≤ lk ∧ lk ≤ 65535 := by omega
    rw [show hd % 65536 - 1 = lk - 1 by rw [hlk]]
    have HLR : Hid (LR ns res [] (List.replicate N false) lk) := hid (by rw [HRS.out, ← HHD.out, ← hlk, HN.out]; exact LR.start ns lk)
    have H4 := hid (h3.pk3 [1, 0, 2])
    have H4 := hid (Hold.nilRow H4.out 3)
    clear hc7 hu hlk h3 b6 b7 k0 k4 kn4 e1 e2 HRS HHD HM
    go_wp2_with fail
    go_loopw [6, 8] (fun lv kv wr => ∃ (l : List Int) (seen : List Bool) (kk : Int) (A : Option Addr) (c : Nat), lv = .slice A l.length c ∧ kv = .int .u64 kk ∧ (0 ≤ kk ∧ kk < 18446744073709551616) ∧ LR ns res l seen kk ∧ Hold w0 wr (rowA 3 (.slice A l.length c) l.length (l.map (Value.int .i64)) * (rowA 4 (.slice (some ⟨gs, 0, none⟩) N N) N (seen.map Value.bool) * (p * (blkA 72 gi #[v0, v1, v2, v3, v4, v5, .slice (some a7) 4 c7, .slice A8 N c8] * R))))) (fun lv _ _ => N + 1 - lenV lv)
    case atStart => exact ⟨[], _, lk, none, 0, rfl, rfl, by omega, HLR.out, H4.out⟩
    case round =>
      clear H4 HLR
      obtain ⟨l, seen, kk, A, c, rfl, rfl, hkk, hLR, h⟩ := hrel
      have HL := hid hLR
      have hle := hLR.le
      have hsl := hLR.sl
      rw [← HN.out] at hle hsl
      obtain ⟨n, hn⟩ : ∃ n, n = l.length := ⟨_, rfl⟩
      rw [← hn] at hle h ⊢
      have Hn := hid hn
      clear hLR hn
      have h7 := h.pk4 [2, 0, 1, 3]
      have b7 := h.drop.drop.drop.blk.some_ (i := 7) (u := .slice A8 N c8) rfl
      by_cases hk0 : kk = 0
      · subst hk0
        have hres := HL.out.fin
        have H9 := hid (h.pk4 [0, 2])
        clear h h7 b7 hsl
        go_wp2_with fail
        go_ret2
        exact ⟨A, c, by rw [hres, Hn.out]; rfl, by rw [hres]; show Hold w0 wr (rowA _ (.slice A l.length c) l.length _ * _); rw [← Hn.out]; exact H9.out⟩
      · have ek : (kk != 0) = true := by simpa using hk0
        by_cases hbig : (N : Int) < kk
        · have hres := HL.out.bad hk0 (.inl (by rw [← HN.out]; exact hbig))
          have eb : decide ((N : Int) < kk) = true := decide_eq_true hbig
          have H9 := hid ((h.pk4 [2]).nilRow 3)
          clear h h7 hsl
          go_wp2_with fail
          go_ret2
          exact ⟨none, 0, by first | rfl | (rw [hres]; rfl), by first | exact H9.out | (rw [hres]; exact H9.out)⟩
        · obtain ⟨j, rfl⟩ : ∃ j : Nat, kk = (j : Int) + 1 := ⟨(kk - 1).toNat, by omega⟩
          have eb : decide ((N : Int) < (j : Int) + 1) = false := decide_eq_false hbig
          have jN : j < N := by omega
          have j0 : (0 : Int) ≤ (j : Int) := by omega
          have j1 : (j : Int) < (N : Int) := by omega
          have ej : ((j : Int) + 1 - 1).toNat = j := by omega
          obtain ⟨gs', hgs, hcv, hfv, hsv⟩ := (h.pk4 [1, 0, 2, 3]).setRow jN
          injection hgs with hgs
          injection hgs with hgs
          subst hgs
          have jl : j < seen.length := by omega
          rw [List.getElem?_map, List.getElem?_eq_getElem jl] at hcv
          replace hcv : wr.cell? ⟨gs, j, none⟩ = some (.bool seen[j]) := hcv
          have hsd : seen.getD j false = seen[j] := by simp [List.getD, List.getElem?_eq_getElem jl]
          cases hb : seen[j] with
          | true =>
            rw [hb] at hcv
            have hres := HL.out.bad hk0 (.inr (by rw [ej, hsd, hb]))
            have H9 := hid ((h.pk4 [2]).nilRow 3)
            clear h h7 hsl hsv hb hsd jl ej
            go_wp2_with fail
            go_ret2
            exact ⟨none, 0, by first | rfl | (rw [hres]; rfl), by first | exact H9.out | (rw [hres]; exact H9.out)⟩
          | false =>
            rw [hb] at hcv
            obtain ⟨hlN, hLR2⟩ := HL.out.next (by omega) (by rw [← HN.out]; omega) (by rw [ej, hsd, hb])
            rw [ej] at hLR2
            rw [show (j : Int) + 1 - 1 = (j : Int) by omega] at hLR2
            rw [← HN.out, ← Hn.out] at hlN
            have HL2 := hid hLR2
            have h5 := hsv (.bool true)
            rw [← List.map_set] at h5
            have H5 := hid (h5.pk4 [1, 0, 2, 3])
            clear hb hsd jl hsv hLR2 h h7 ej h5
            go_upto_region 10 with fail
            have h5 := H5.out
            generalize hW : World.setCell _ _ _ = W5 at h5 ⊢
            clear hW H5 hcv hfv b7
            go_wp2_with (at_builtin; refine wpList_append1 rfl _ _ 39 rfl 3 iI (.int .i64 0) 8 Try.underlying39 hiI hzI0 hzI1 hzI2 rfl (.slice A n c) n (l.map (Value.int .i64)) (.int .i64 j) _ rfl h5.row rfl rfl (by omega) (by decide) ?_)
            intro A2 c2 W6 ho hc hs2
            have h6 := h5.grow ho hc hs2
            rw [show l.map (Value.int .i64) ++ [.int .i64 (j : Int)] = (l ++ [(j : Int)]).map (Value.int .i64) by simp] at h6
            clear h5 ho hc hs2
            have b7 := h6.drop.drop.drop.blk.some_ (i := 7) (u := .slice A8 N c8) rfl
            obtain ⟨a8, hA8, hc8⟩ := SRC.out.at8 (h6.pk4 [2, 0, 1, 3]) (k := j) (by rw [← HN.out]; exact jN)
            have hu := getD_all (l := ns) (k := j) (P := fun x => 0 ≤ x ∧ x < 18446744073709551616) SRC.out.u8 (by decide)
            obtain ⟨nk, hnk⟩ : ∃ nk, nk = ns.getD j 0 := ⟨_, rfl⟩
            rw [← hnk] at hc8 hu
            have HL3 : Hid (LR ns res (l ++ [(j : Int)]) (seen.set j true) nk) := hid (by rw [hnk]; exact HL2.out)
            subst hA8
            have H6 := hid h6
            clear h6 HL2 HL hnk hsl
            go_wp2_with fail
            go_roundw
            case rel => exact ⟨l ++ [(j : Int)], _, nk, A2, c2, by simp [Hn.out], rfl, hu, HL3.out, by rw [show (l ++ [(j : Int)]).length = n + 1 by simp [Hn.out]]; exact H6.out⟩
            case measure => simp [lenV]; omega
end Go.Proofs.Ytopcnaakdldkpaa
