/- The contracts of package redo: Clear, New. -/
import Derived.Test.YtponapjgajmdnaaRedo4
import Derived.Deep.LoopGhost
namespace Go.Proofs.Ytponapjgajmdnaa
open Go.RowKit
set_option linter.unusedVariables false

def clearedTo (k : Nat) (xs : List Int) : List Int := List.replicate k (-1) ++ xs.drop k
theorem clearedTo_len {k : Nat} {xs : List Int} (h : k ≤ xs.length) : (clearedTo k xs).length = xs.length := by unfold clearedTo; simp; omega
theorem clearedTo_set {k : Nat} {xs : List Int} (h : k < xs.length) : (clearedTo k xs).set k (-1) = clearedTo (k + 1) xs := by
  unfold clearedTo
  rw [List.set_append_right _ _ (by simp), List.length_replicate, Nat.sub_self, List.drop_eq_getElem_cons h, List.set_cons_zero, List.replicate_succ', List.append_assoc]
  rfl
theorem clearedTo_all (xs : List Int) : clearedTo xs.length xs = List.replicate xs.length (-1) := by unfold clearedTo; simp

def clearL (L : PL) : PL := { cap := L.cap, addrs := [], vals := [], idx := List.replicate L.idx.length (-1) }

set_option maxHeartbeats 1000000 in
theorem log_clear (w : World) (fp : List Nat) (g : Nat) (L : PL) (h : LogAt 71 w fp g L) (hpos : 0 < L.idx.length) (p64 : L.idx.length ≤ 64) :
    Calls Try.prog 46 #[.pointer (some ⟨g, 0, none⟩)] w fun e w' => e = .returned (.tuple #[]) ∧ ∃ fp', LogAt 71 w' fp' g (clearL L) ∧ Chg fp w w' ∧ ∀ b ∈ fp', b ∈ fp := by
  obtain ⟨A, c, V, d, X, e, hb, h1, h2, h3, h4, hfp⟩ := h.ex
  obtain ⟨gx, hX, hgx, _, _, _⟩ := row_at h3 hpos
  have gX : g ∉ fpV (.slice X L.idx.length e) := row_blk_ne h3 hb (by decide)
  have gne : g ≠ gx := fun h => gX (h ▸ hgx)
  have c1 : w.cell? ⟨g, 1, none⟩ = some (.slice A L.addrs.length c) := hb.some_ rfl
  have z1 := hb.frozen 1
  have hb1 := hb.set_ 1 (.slice none 0 0)
  have hb2 := hb1.set_ 2 (.slice none 0 0)
  have c2 : (w.setCell ⟨g, 1, none⟩ (.slice none 0 0)).cell? ⟨g, 2, none⟩ = some (.slice V L.addrs.length d) := hb1.some_ rfl
  have z2 := hb1.frozen 2
  have c3 : ((w.setCell ⟨g, 1, none⟩ (.slice none 0 0)).setCell ⟨g, 2, none⟩ (.slice none 0 0)).cell? ⟨g, 3, none⟩ = some (.slice X L.idx.length e) := hb2.some_ rfl
  have hc2 : Chg [g] w ((w.setCell ⟨g, 1, none⟩ (.slice none 0 0)).setCell ⟨g, 2, none⟩ (.slice none 0 0)) := ((Chg.refl _ _).setCell (.inl (by simp)) _).setCell (.inl (by simp)) _
  have h3' := row_chg h3 hc2 (fun k hk hk2 => gX (by rw [List.mem_singleton.1 hk2] at hk; exact hk))
  have hmem : gx ∈ fp ∧ g ∈ fp := by rw [hfp]; simp [hgx]
  have hsub : ∀ b ∈ [g, gx], b ∈ fp := fun b hb => by
    rcases List.mem_cons.1 hb with h | h
    · rw [h]; exact hmem.2
    · rw [List.mem_singleton.1 h]; exact hmem.1
  subst hX
  have hrow : Hid (∀ w', ∀ q, Chg [g, gx] w w' → Blk w' g 71 #[.int .i64 L.cap, .slice none 0 0, .slice none 0 0, .slice (some ⟨gx, 0, none⟩) L.idx.length e] → w'.ownsRow 0 3 1 (.slice (some ⟨gx, 0, none⟩) L.idx.length e) L.idx.length ((List.replicate L.idx.length (-1)).map (Value.int .i64)) → q = w' →
      ∃ fp', LogAt 71 q fp' g (clearL L) ∧ Chg fp w q ∧ ∀ b ∈ fp', b ∈ fp) := hid (by
    rintro w' q hc hB hR rfl
    refine ⟨[g, gx], ⟨none, 0, none, 0, some ⟨gx, 0, none⟩, e, ?_, World.ownsRow_nil _ _ _ _, World.ownsRow_nil _ _ _ _, ?_, ?_, ?_⟩, hc.mono (fun x hx => .inl (hsub x hx)), hsub⟩
    · simpa [clearL] using hB
    · simpa [clearL] using hR
    · intro k hk; simp [fpV_nil, clearL] at hk
    · simp [fpV_nil, fpV_some, clearL])
  obtain ⟨p, hp⟩ : ∃ p, p = L.idx.length := ⟨_, rfl⟩
  obtain ⟨n, hn⟩ : ∃ n, n = L.addrs.length := ⟨_, rfl⟩
  rw [← hp] at c3 p64 hrow h3' hb2
  rw [← hn] at c1 c2
  have Hp := hid hp
  have hc3 := hc2.mono (T := [g, gx]) (fun x hx => .inl (by simp at hx ⊢; exact .inl hx))
  have hb3 := hid hb2
  clear hb hb1 hb2 h h1 h2 h3 h4 hfp hsub hmem hp hn hgx gX hc2
  go_enter Try.func46, Try.ntmps46
  go_wp2_with fail
  go_loopw [16, 2] (fun i _ wr => ∃ k : Nat, k ≤ p ∧ i = .int .i64 k ∧ wr.ownsRow 0 3 1 (.slice (some ⟨gx, 0, none⟩) p e) p ((clearedTo k L.idx).map (Value.int .i64)) ∧ Chg [g, gx] w wr ∧ Blk wr g 71 #[.int .i64 L.cap, .slice none 0 0, .slice none 0 0, .slice (some ⟨gx, 0, none⟩) p e]) (fun i _ _ => p - (intOf i).toNat)
  case atStart => exact ⟨0, Nat.zero_le _, rfl, by simpa [clearedTo] using h3', hc3, hb3.out⟩
  case round =>
    obtain ⟨k, hk, rfl, ho, hc, hB⟩ := hrel
    clear c1 c2 c3 z1 z2 h3' hc3 hb3
    have d3 : wr.cell? ⟨g, 3, none⟩ = some (.slice (some ⟨gx, 0, none⟩) p e) := hB.some_ rfl
    by_cases hlt : k < p
    · obtain ⟨g', hg, _, hcell, hfr, hst⟩ := row_at ho hlt
      injection hg with hg
      injection hg with hg
      subst hg
      obtain ⟨u0, hu0⟩ : ∃ u, wr.cell? ⟨gx, k, none⟩ = some u := ⟨_, hcell.trans (List.getElem?_eq_getElem (by simp [clearedTo_len (xs := L.idx) (k := k) (by rw [← Hp.out]; exact hk), ← Hp.out]; exact hlt))⟩
      have hnew : (wr.setCell ⟨gx, k, none⟩ (.int .i64 (-1))).ownsRow 0 3 1 (.slice (some ⟨gx, 0, none⟩) p e) p ((clearedTo (k + 1) L.idx).map (Value.int .i64)) := by
        have h9 := hst (.int .i64 (-1))
        rwa [← List.map_set, clearedTo_set (by rw [← Hp.out]; exact hlt)] at h9
      have hcn : Chg [g, gx] w (wr.setCell ⟨gx, k, none⟩ (.int .i64 (-1))) := hc.setCell (.inl (by simp)) _
      have hBn := hB.far (p := ⟨gx, k, none⟩) gne (.int .i64 (-1))
      have HN := hid (And.intro hnew (And.intro hcn hBn))
      have e1 : (k : Int) < (p : Int) := by omega
      have e2 : (0 : Int) ≤ (k : Int) := by omega
      have e3 : decide ((k : Int) < (p : Int)) = true := by simpa using hlt
      clear hnew hcn hBn hst hcell ho hc hB
      go_wp2_with fail
      go_roundw
      case rel => exact ⟨k + 1, by omega, rfl, HN.out.1, HN.out.2.1, HN.out.2.2⟩
      case measure => simp [intOf]; omega
    · have hkp : k = p := by omega
      subst hkp
      have e3 : decide ((k : Int) < (k : Int)) = false := by simp
      have hfin := hrow.out wr wr hc hB (by have h9 := ho; rw [Hp.out, clearedTo_all] at h9; rw [Hp.out]; exact h9) rfl
      have HF := hid hfin
      clear hfin ho hc hB hrow
      go_wp2_with fail
      go_end0
      exact ⟨rfl, HF.out⟩
theorem log_clear_nil (w : World) :
    Calls Try.prog 46 #[.pointer none] w fun e w' => e = .returned (.tuple #[]) ∧ w = w' := by
  go_enter Try.func46, Try.ntmps46
  go_wp2_with fail
  refine bodyPost_ret (results_none rfl _ _ _) rfl ?_
  exact ⟨rfl, rfl⟩

def clampM (c : Int) : Nat := (max 0 (min c 32)).toNat
theorem clampM_le (c : Int) : clampM c ≤ 32 := by unfold clampM; omega
def newL (c : Int) : PL := emptyL (clampM c) (psize (clampM c))
theorem newL_inv (c : Int) : Inv (newL c) := empty_inv (clampM_le c) (psize_bd (clampM_le c)).1 (psize_bd (clampM_le c)).2.1

theorem psize_at {p n : Nat} (hn : n ≤ 32) (hp : p = 1 ∨ p = 2 ∨ p = 4 ∨ p = 8 ∨ p = 16 ∨ p = 32 ∨ p = 64) (h1 : p = 1 ∨ p < 4 * n) (h2 : ¬ p < 2 * n) : p = psize n := by
  unfold psize
  rcases hp with rfl | rfl | rfl | rfl | rfl | rfl | rfl <;> (repeat' split) <;> omega

def NewPost (w : World) (c : Int) (e : Ending) (w' : World) : Prop := ∃ g fp, e = .returned (.pointer (some ⟨g, 0, none⟩)) ∧ LogAt 71 w' fp g (newL c) ∧ Chg [] w w' ∧ ∀ b ∈ fp, w.heap.size ≤ b

set_option maxHeartbeats 1000000 in
theorem redo_new (w : World) (c : Int) : Calls Try.prog 35 #[.int .i64 c] w (NewPost w c) := by
  obtain ⟨i0, hi, hz0, hz1, hz2⟩ := info_parts info_int
  obtain ⟨n, hn⟩ : ∃ n, n = clampM c := ⟨_, rfl⟩
  have n32 : n ≤ 32 := by rw [hn]; exact clampM_le c
  have Hc := hid hn
  have hfin : ∀ w' fp p, p = psize n → LogAt 71 w' fp w.heap.size (emptyL n p) → Chg [] w w' → (∀ b ∈ fp, w.heap.size ≤ b) → NewPost w c (.returned (.pointer (some ⟨w.heap.size, 0, none⟩))) w' := fun w' fp p hp h1 h2 h3 => ⟨_, fp, rfl, by unfold newL; rw [← hn, ← hp]; exact h1, h2, h3⟩
  have HF := hid hfin
  clear hfin
  have key : ∀ W, W = w.alloc (.cells #[.int .i64 (n : Int), .slice none 0 0, .slice none 0 0, .slice none 0 0] 71) → Blk W w.heap.size 71 #[.int .i64 (n : Int), .slice none 0 0, .slice none 0 0, .slice none 0 0] ∧ Chg [] w W := by
    rintro W rfl
    exact ⟨Blk.new _ _ _, (Chg.refl _ _).alloc _⟩
  have made : ∀ r : Nat, (madeCells #[Value.int .i64 0] r).toList = (List.replicate r (0 : Int)).map (Value.int .i64) := fun r => by rw [toList_madeCells_one]; simp
  by_cases h1 : 32 < c
  · have hm : (32 : Int) = (n : Int) := by rw [hn]; unfold clampM; omega
    clear hn
    go_enter Try.func35, Try.ntmps35
    go_wp2_with fail
    try rw [hm]
    generalize hW : World.alloc w _ = W
    obtain ⟨hB, hC⟩ := key W (by rw [← hW]; try rfl)
    clear hW key
    have c0 := hB.some_ (i := 0) rfl
    go_loop [4] (fun v => ∃ p : Nat, v = .int .i64 p ∧ (p = 1 ∨ p = 2 ∨ p = 4 ∨ p = 8 ∨ p = 16 ∨ p = 32 ∨ p = 64) ∧ (p = 1 ∨ p < 4 * n)) (fun v => 64 - (intOf v).toNat)
    case atStart => exact ⟨1, rfl, by omega, by omega⟩
    case round =>
      obtain ⟨p, rfl, hp, hp4⟩ := hrel
      have p64 : p ≤ 64 := by omega
      have p0 : 0 < p := by omega
      by_cases hlt : p < 2 * n
      · have e1 : decide ((p : Int) < 2 * ((n : Nat) : Int)) = true := decide_eq_true (by omega)
        clear hB hC
        go_wp2_with fail
        go_round
        case rel => exact ⟨p * 2, by simp, by omega, by omega⟩
        case measure => simp [intOf]; omega
      · have e1 : decide ((p : Int) < 2 * ((n : Nat) : Int)) = false := decide_eq_false (by omega)
        have hps := hid (psize_at n32 hp hp4 hlt)
        clear hp hp4
        go_wp2_with (at_make; refine wpList_make_full _ rfl _ _ 22 rfl 0 3 i0 (.int .i64 0) 1 Try.underlying22 hi hz0 hz1 .i64 .i64 (p : Int) (p : Int) p rfl rfl rfl rfl (by rw [hz2]; omega) (by unfold maxLen; omega) (Nat.zero_le _) ?_)
        intro w1 hown hgrow
        have hrow : w1.ownsRow 0 3 1 (.slice (some ⟨W.heap.size, 0, none⟩) p p) p ((List.replicate p (0 : Int)).map (Value.int .i64)) := by simpa using hown
        have hC1 : Chg [] W w1 := (Chg.refl _ _).grown hgrow (by simp)
        have hB1 := hB.chg hC1 (by simp)
        have hlt1 := hB.lt
        have hBs := hB1.set_ 3 (.slice (some ⟨W.heap.size, 0, none⟩) p p)
        have hCs : Chg [w.heap.size] w1 (w1.setCell ⟨w.heap.size, 3, none⟩ (.slice (some ⟨W.heap.size, 0, none⟩) p p)) := (Chg.refl _ _).setCell (.inl (by simp)) _
        have hrs := row_chg hrow hCs (fun k hk hk2 => by rw [fpV_some] at hk; simp at hk hk2; omega)
        have hL0 : LogAt 71 (w1.setCell ⟨w.heap.size, 3, none⟩ (.slice (some ⟨W.heap.size, 0, none⟩) p p)) [w.heap.size, W.heap.size] w.heap.size ⟨n, [], [], List.replicate p 0⟩ := by
          refine ⟨none, 0, none, 0, some ⟨W.heap.size, 0, none⟩, p, ?_, World.ownsRow_nil _ _ _ _, World.ownsRow_nil _ _ _ _, ?_, ?_, ?_⟩
          · simpa using hBs
          · simpa using hrs
          · intro k hk; simp [fpV_nil] at hk
          · simp [fpV_nil, fpV_some]
        have hCw : Chg [w.heap.size, W.heap.size] w (w1.setCell ⟨w.heap.size, 3, none⟩ (.slice (some ⟨W.heap.size, 0, none⟩) p p)) := ((hC.trans' hC1).mono (fun x hx => by cases hx)).setCell (.inl (by simp)) _
        have hF2 : Hid (∀ w' fp', LogAt 71 w' fp' w.heap.size (clearL ⟨n, [], [], List.replicate p 0⟩) → Chg [w.heap.size, W.heap.size] (w1.setCell ⟨w.heap.size, 3, none⟩ (.slice (some ⟨W.heap.size, 0, none⟩) p p)) w' → (∀ b ∈ fp', b ∈ [w.heap.size, W.heap.size]) → NewPost w c (.returned (.pointer (some ⟨w.heap.size, 0, none⟩))) w') := hid (by
          intro w' fp' hL hc hs
          have hge : ∀ b ∈ [w.heap.size, W.heap.size], w.heap.size ≤ b := fun b hb => by
            simp at hb
            rcases hb with h | h <;> omega
          refine HF.out w' fp' p hps.out ?_ ((hCw.trans hc (fun x hx => .inl hx)).fresh hge) (fun b hb => hge b (hs b hb))
          simpa [clearL, emptyL] using hL)
        have d3 := hB1.some_ (i := 3) (u := .slice none 0 0) rfl
        have z3 := hB1.frozen 3
        clear hrow hC1 hB1 hBs hCs hrs hCw hown hgrow hB hC c0
        go_wp2_with fail
        refine (log_clear _ _ _ _ hL0 (by simpa using p0) (by simpa using p64)).mono ?_
        rintro e w' ⟨rfl, fp', hL, hc, hs⟩
        go_wp2_with fail
        go_ret
        exact hF2.out w' fp' hL hc hs
  · by_cases h2 : 0 < c
    · have hm : c = (n : Int) := by rw [hn]; unfold clampM; omega
      clear hn
      subst hm
      go_enter Try.func35, Try.ntmps35
      go_wp2_with fail
      generalize hW : World.alloc w _ = W
      obtain ⟨hB, hC⟩ := key W (by rw [← hW]; try rfl)
      clear hW key
      have c0 := hB.some_ (i := 0) rfl
      go_loop [4] (fun v => ∃ p : Nat, v = .int .i64 p ∧ (p = 1 ∨ p = 2 ∨ p = 4 ∨ p = 8 ∨ p = 16 ∨ p = 32 ∨ p = 64) ∧ (p = 1 ∨ p < 4 * n)) (fun v => 64 - (intOf v).toNat)
      case atStart => exact ⟨1, rfl, by omega, by omega⟩
      case round =>
        obtain ⟨p, rfl, hp, hp4⟩ := hrel
        have p64 : p ≤ 64 := by omega
        have p0 : 0 < p := by omega
        by_cases hlt : p < 2 * n
        · have e1 : decide ((p : Int) < 2 * ((n : Nat) : Int)) = true := decide_eq_true (by omega)
          clear hB hC
          go_wp2_with fail
          go_round
          case rel => exact ⟨p * 2, by simp, by omega, by omega⟩
          case measure => simp [intOf]; omega
        · have e1 : decide ((p : Int) < 2 * ((n : Nat) : Int)) = false := decide_eq_false (by omega)
          have hps := hid (psize_at n32 hp hp4 hlt)
          clear hp hp4
          go_wp2_with (at_make; refine wpList_make_full _ rfl _ _ 22 rfl 0 3 i0 (.int .i64 0) 1 Try.underlying22 hi hz0 hz1 .i64 .i64 (p : Int) (p : Int) p rfl rfl rfl rfl (by rw [hz2]; omega) (by unfold maxLen; omega) (Nat.zero_le _) ?_)
          intro w1 hown hgrow
          have hrow : w1.ownsRow 0 3 1 (.slice (some ⟨W.heap.size, 0, none⟩) p p) p ((List.replicate p (0 : Int)).map (Value.int .i64)) := by simpa using hown
          have hC1 : Chg [] W w1 := (Chg.refl _ _).grown hgrow (by simp)
          have hB1 := hB.chg hC1 (by simp)
          have hlt1 := hB.lt
          have hBs := hB1.set_ 3 (.slice (some ⟨W.heap.size, 0, none⟩) p p)
          have hCs : Chg [w.heap.size] w1 (w1.setCell ⟨w.heap.size, 3, none⟩ (.slice (some ⟨W.heap.size, 0, none⟩) p p)) := (Chg.refl _ _).setCell (.inl (by simp)) _
          have hrs := row_chg hrow hCs (fun k hk hk2 => by rw [fpV_some] at hk; simp at hk hk2; omega)
          have hL0 : LogAt 71 (w1.setCell ⟨w.heap.size, 3, none⟩ (.slice (some ⟨W.heap.size, 0, none⟩) p p)) [w.heap.size, W.heap.size] w.heap.size ⟨n, [], [], List.replicate p 0⟩ := by
            refine ⟨none, 0, none, 0, some ⟨W.heap.size, 0, none⟩, p, ?_, World.ownsRow_nil _ _ _ _, World.ownsRow_nil _ _ _ _, ?_, ?_, ?_⟩
            · simpa using hBs
            · simpa using hrs
            · intro k hk; simp [fpV_nil] at hk
            · simp [fpV_nil, fpV_some]
          have hCw : Chg [w.heap.size, W.heap.size] w (w1.setCell ⟨w.heap.size, 3, none⟩ (.slice (some ⟨W.heap.size, 0, none⟩) p p)) := ((hC.trans' hC1).mono (fun x hx => by cases hx)).setCell (.inl (by simp)) _
          have hF2 : Hid (∀ w' fp', LogAt 71 w' fp' w.heap.size (clearL ⟨n, [], [], List.replicate p 0⟩) → Chg [w.heap.size, W.heap.size] (w1.setCell ⟨w.heap.size, 3, none⟩ (.slice (some ⟨W.heap.size, 0, none⟩) p p)) w' → (∀ b ∈ fp', b ∈ [w.heap.size, W.heap.size]) → NewPost w (n : Int) (.returned (.pointer (some ⟨w.heap.size, 0, none⟩))) w') := hid (by
            intro w' fp' hL hc hs
            have hge : ∀ b ∈ [w.heap.size, W.heap.size], w.heap.size ≤ b := fun b hb => by
              simp at hb
              rcases hb with h | h <;> omega
            refine HF.out w' fp' p hps.out ?_ ((hCw.trans hc (fun x hx => .inl hx)).fresh hge) (fun b hb => hge b (hs b hb))
            simpa [clearL, emptyL] using hL)
          have d3 := hB1.some_ (i := 3) (u := .slice none 0 0) rfl
          have z3 := hB1.frozen 3
          clear hrow hC1 hB1 hBs hCs hrs hCw hown hgrow hB hC c0
          go_wp2_with fail
          refine (log_clear _ _ _ _ hL0 (by simpa using p0) (by simpa using p64)).mono ?_
          rintro e w' ⟨rfl, fp', hL, hc, hs⟩
          go_wp2_with fail
          go_ret
          exact hF2.out w' fp' hL hc hs
    · have hm : (0 : Int) = (n : Int) := by rw [hn]; unfold clampM; omega
      obtain rfl : n = 0 := by omega
      clear hn hm
      go_enter Try.func35, Try.ntmps35
      go_wp2_with fail
      generalize hW : World.alloc w _ = W
      obtain ⟨hB, hC⟩ := key W (by rw [← hW]; try rfl)
      clear hW key
      have c0 := hB.some_ (i := 0) rfl
      go_loop [4] (fun v => ∃ p : Nat, v = .int .i64 p ∧ (p = 1 ∨ p = 2 ∨ p = 4 ∨ p = 8 ∨ p = 16 ∨ p = 32 ∨ p = 64) ∧ (p = 1 ∨ p < 4 * 0)) (fun v => 64 - (intOf v).toNat)
      case atStart => exact ⟨1, rfl, by omega, by omega⟩
      case round =>
        obtain ⟨p, rfl, hp, hp4⟩ := hrel
        have p64 : p ≤ 64 := by omega
        have p0 : 0 < p := by omega
        by_cases hlt : p < 2 * 0
        · exfalso; omega
        · have e1 : decide ((p : Int) < 2 * ((0 : Nat) : Int)) = false := decide_eq_false (by omega)
          have e2 : decide ((p : Int) < 0) = false := decide_eq_false (by omega)
          have hps := hid (psize_at n32 hp hp4 hlt)
          clear hp hp4
          go_wp2_with (at_make; refine wpList_make_full _ rfl _ _ 22 rfl 0 3 i0 (.int .i64 0) 1 Try.underlying22 hi hz0 hz1 .i64 .i64 (p : Int) (p : Int) p rfl rfl rfl rfl (by rw [hz2]; omega) (by unfold maxLen; omega) (Nat.zero_le _) ?_)
          intro w1 hown hgrow
          have hrow : w1.ownsRow 0 3 1 (.slice (some ⟨W.heap.size, 0, none⟩) p p) p ((List.replicate p (0 : Int)).map (Value.int .i64)) := by simpa using hown
          have hC1 : Chg [] W w1 := (Chg.refl _ _).grown hgrow (by simp)
          have hB1 := hB.chg hC1 (by simp)
          have hlt1 := hB.lt
          have hBs := hB1.set_ 3 (.slice (some ⟨W.heap.size, 0, none⟩) p p)
          have hCs : Chg [w.heap.size] w1 (w1.setCell ⟨w.heap.size, 3, none⟩ (.slice (some ⟨W.heap.size, 0, none⟩) p p)) := (Chg.refl _ _).setCell (.inl (by simp)) _
          have hrs := row_chg hrow hCs (fun k hk hk2 => by rw [fpV_some] at hk; simp at hk hk2; omega)
          have hL0 : LogAt 71 (w1.setCell ⟨w.heap.size, 3, none⟩ (.slice (some ⟨W.heap.size, 0, none⟩) p p)) [w.heap.size, W.heap.size] w.heap.size ⟨0, [], [], List.replicate p 0⟩ := by
            refine ⟨none, 0, none, 0, some ⟨W.heap.size, 0, none⟩, p, ?_, World.ownsRow_nil _ _ _ _, World.ownsRow_nil _ _ _ _, ?_, ?_, ?_⟩
            · simpa using hBs
            · simpa using hrs
            · intro k hk; simp [fpV_nil] at hk
            · simp [fpV_nil, fpV_some]
          have hCw : Chg [w.heap.size, W.heap.size] w (w1.setCell ⟨w.heap.size, 3, none⟩ (.slice (some ⟨W.heap.size, 0, none⟩) p p)) := ((hC.trans' hC1).mono (fun x hx => by cases hx)).setCell (.inl (by simp)) _
          have hF2 : Hid (∀ w' fp', LogAt 71 w' fp' w.heap.size (clearL ⟨0, [], [], List.replicate p 0⟩) → Chg [w.heap.size, W.heap.size] (w1.setCell ⟨w.heap.size, 3, none⟩ (.slice (some ⟨W.heap.size, 0, none⟩) p p)) w' → (∀ b ∈ fp', b ∈ [w.heap.size, W.heap.size]) → NewPost w c (.returned (.pointer (some ⟨w.heap.size, 0, none⟩))) w') := hid (by
            intro w' fp' hL hc hs
            have hge : ∀ b ∈ [w.heap.size, W.heap.size], w.heap.size ≤ b := fun b hb => by
              simp at hb
              rcases hb with h | h <;> omega
            refine HF.out w' fp' p hps.out ?_ ((hCw.trans hc (fun x hx => .inl hx)).fresh hge) (fun b hb => hge b (hs b hb))
            simpa [clearL, emptyL] using hL)
          have d3 := hB1.some_ (i := 3) (u := .slice none 0 0) rfl
          have z3 := hB1.frozen 3
          clear hrow hC1 hB1 hBs hCs hrs hCw hown hgrow hB hC c0
          go_wp2_with fail
          refine (log_clear _ _ _ _ hL0 (by simpa using p0) (by simpa using p64)).mono ?_
          rintro e w' ⟨rfl, fp', hL, hc, hs⟩
          go_wp2_with fail
          go_ret
          exact hF2.out w' fp' hL hc hs
end Go.Proofs.Ytponapjgajmdnaa
