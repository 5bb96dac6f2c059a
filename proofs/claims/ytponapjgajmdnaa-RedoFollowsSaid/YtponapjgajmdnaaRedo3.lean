/- The contracts of package redo: Put's walk. -/
import Derived.Test.YtponapjgajmdnaaRedo2
import Derived.Test.YtponapjgajmdnaaReg3
namespace Go.Proofs.Ytponapjgajmdnaa
open Go.RowKit
set_option linter.unusedVariables false

theorem log_put_nil (w : World) (a v : Int) :
    Calls Try.prog 36 #[.pointer none, .int .i64 a, .int .u64 v] w fun e w' => e = .returned (.bool false) ∧ w = w' := by
  go_enter Try.func36, Try.ntmps36
  go_wp2_with fail
  go_ret
  exact ⟨rfl, rfl⟩

theorem log_put_neg (w : World) (fp : List Nat) (g : Nat) (L : PL) (a v : Int) (h : LogAt 71 w fp g L) (ha : a < 0) :
    Calls Try.prog 36 #[.pointer (some ⟨g, 0, none⟩), .int .i64 a, .int .u64 v] w (PutPost 71 w fp g L a v) := by
  have hfin : PutPost 71 w fp g L a v (.returned (.bool false)) w := by
    have e : putOk L a = false := by unfold putOk; rw [decide_eq_false (by omega)]; rfl
    exact ⟨by rw [e], fp, by rw [putL_neg ha]; exact h, Chg.refl _ _, fun b hb => .inl hb⟩
  have HF := hid hfin
  clear hfin h
  go_enter Try.func36, Try.ntmps36
  go_wp2_with fail
  go_ret
  exact HF.out

/-- What both ways of a search need. -/
theorem place_cell {w : World} {L : PL} {X : Option Addr} {e : Nat} {a : Int} {t : Nat} (H : Inv L) (h3 : w.ownsRow 0 3 1 (.slice X L.idx.length e) L.idx.length (L.idx.map (Value.int .i64))) :
    ∃ gx, X = some ⟨gx, 0, none⟩ ∧ gx ∈ fpV (.slice X L.idx.length e) ∧ w.cell? ⟨gx, spot L.idx a t, none⟩ = some (.int .i64 (ix L.idx (spot L.idx a t))) ∧ w.frozen? ⟨gx, spot L.idx a t, none⟩ = false ∧
      ∀ u, (w.setCell ⟨gx, spot L.idx a t, none⟩ u).ownsRow 0 3 1 (.slice X L.idx.length e) L.idx.length ((L.idx.map (Value.int .i64)).set (spot L.idx a t) u) := by
  obtain ⟨gx, hX, hm, hc, hf, hst⟩ := row_at h3 (spot_lt H.pos a t)
  rw [num_some (spot_lt H.pos a t)] at hc
  exact ⟨gx, hX, hm, hc, hf, hst⟩

set_option maxHeartbeats 1000000 in
theorem log_put_in (w : World) (fp : List Nat) (g : Nat) (L : PL) (a v : Int) (h : LogAt 71 w fp g L) (H : Inv L) (ha : 0 ≤ a) (hin : a ∈ L.addrs) :
    Calls Try.prog 36 #[.pointer (some ⟨g, 0, none⟩), .int .i64 a, .int .u64 v] w (PutPost 71 w fp g L a v) := by
  have h0 := h
  obtain ⟨A, c, V, d, X, e, hb, h1, h2, h3, h4, hfp⟩ := h.ex
  have c2 : w.cell? ⟨g, 2, none⟩ = some (.slice V L.addrs.length d) := hb.some_ rfl
  have c3 : w.cell? ⟨g, 3, none⟩ = some (.slice X L.idx.length e) := hb.some_ rfl
  obtain ⟨hi1, hi2⟩ := mem_adr hin
  obtain ⟨i, hi⟩ : ∃ i, i = L.addrs.idxOf a := ⟨_, rfl⟩
  rw [← hi] at hi1 hi2
  obtain ⟨gv, hV, _, hcv, hfv, hst⟩ := row_at h2 hi1
  rw [num_some (by rw [H.vlen]; exact hi1)] at hcv
  have hset := log_set (T := 71) (v := v) hb (by decide) (by decide) h1 h2 h3 h4 hfp hV (hst (.int .u64 v))
  have hfin : ∀ q', PutPost 71 w fp g L a v (.returned (.bool true)) ((w.setCell ⟨gv, i, none⟩ (.int .u64 v)).drewN q') := fun q' => by
    have e : putOk L a = true := by unfold putOk; rw [decide_eq_true ha, decide_eq_true hin]; rfl
    exact ⟨by rw [e], fp, by rw [putL_in ha hin, ← hi]; exact hset.1.drewN q', hset.2.drewN q', fun b hb => .inl hb⟩
  have HF := hid hfin
  have Hi2 := hid hi2
  have h3' := h3
  have n32 : L.addrs.length ≤ 32 := by have := H.le; have := H.cap32; omega
  have p64 := H.p64
  obtain ⟨n, hn⟩ : ∃ n, n = L.addrs.length := ⟨_, rfl⟩
  obtain ⟨p, hp⟩ : ∃ p, p = L.idx.length := ⟨_, rfl⟩
  rw [← hn] at c2 hi1 n32
  rw [← hp] at c3 p64
  have Hn := hid hn
  have Hp := hid hp
  have Hi := hid hi
  clear hfin hi2 hset hst hfp hb h h1 h2 h3 h4 hn hp hi
  subst hV
  go_enter Try.func36, Try.ntmps36
  go_wp2_with fail
  refine (log_place _ _ _ _ _ h0 H ha).mono ?_
  rintro e' w' ⟨t, hE, rfl, q, rfl⟩
  have hk := spot_lt H.pos a t
  have hix : ix L.idx (spot L.idx a t) = i := by
    have hi3 := Hi2.out
    have hi4 : i < L.addrs.length := by rw [← Hn.out]; exact hi1
    obtain ⟨hE1, hE2, hE3⟩ := hE
    have := H.find_in (i := i) (t := t) hi4 (by rw [hi3]; exact hE2) (fun s hs => by rw [hi3]; exact hE3 s hs)
    rwa [hi3] at this
  rw [← Hp.out] at hk
  obtain ⟨gx, hX, _, hcx', _, _⟩ := place_cell (a := a) (t := t) H h3'
  rw [hix] at hcx'
  obtain ⟨k, hkk⟩ : ∃ k, k = spot L.idx a t := ⟨_, rfl⟩
  rw [← hkk] at hk hcx' ⊢
  subst hX
  clear hix hkk h3' h0 hE
  have b1 : (0 : Int) ≤ (k : Int) := by omega
  have b2 : (k : Int) < (p : Int) := by omega
  have b3 : (0 : Int) ≤ (i : Int) := by omega
  have b4 : (i : Int) < (n : Int) := by omega
  have b5 : decide ((0 : Int) ≤ (i : Int)) = true := by simp
  go_wp2_with fail
  refine wp_region_brk [13] (by kernel_rfl) ?_
  refine wpAnyB_now (fun w' => w'.cell? ⟨g, 2, none⟩ = some (.slice (some ⟨gv, 0, none⟩) n d) ∧ w'.cell? ⟨g, 3, none⟩ = some (.slice (some ⟨gx, 0, none⟩) p e) ∧ w'.cell? ⟨gx, k, none⟩ = some (.int .i64 i)) (fun _ _ => trivial) _ _ _ _ ?_
  have hS : (fun w' : World => w'.cell? ⟨g, 2, none⟩ = some (.slice (some ⟨gv, 0, none⟩) n d) ∧ w'.cell? ⟨g, 3, none⟩ = some (.slice (some ⟨gx, 0, none⟩) p e) ∧ w'.cell? ⟨gx, k, none⟩ = some (.int .i64 i)) (w.drewN q).drew := ⟨c2, c3, hcx'⟩
  refine' wpAnyB_bulk [true, true, true, true, true, true, true, true, true, true, true, true, true] 81 (listed' := #[true, true, true, true, true, true, true, true, true, true, true, true, true, false]) rfl (by kernel_rfl) (by kernel_rfl) (by kernel_rfl) (by kernel_rfl) (by kernel_rfl) (by kernel_rfl) (by decide) (fun _ _ _ _ h => h) rfl hS (fun wq hq => ?_) ?_; rotate_left 1
  · simp only [maskL]
    obtain ⟨q2, q3, q4⟩ := hq
    repeat (go_big_quiet_step (fail))
    exact wpQuiet_nil rfl
  refine wpAnyB_brk [false, false, false, false, false, false, false, false, false, false, false, false, false, true] (fuel := 0) (by rfl) (by rfl) (by kernel_rfl) (by kernel_rfl) (fun QB hQB hQX => ?_)
  simp only [maskL]
  go_wp2_with fail
  refine hQB.out _ _ ?_
  refine wpAnyB_forget (by kernel_rfl) ?_
  refine wpAnyB_done (by kernel_rfl) ?_ _
  -- END
  go_wp2_with fail
  go_ret
  exact HF.out _

/-- A box of one cell, made behind U. -/
structure BoxAt (U W : World) (H : Nat) (u : Value) : Prop where
  cell : W.cell? ⟨H, 0, none⟩ = some u
  ge : U.heap.size ≤ H
  lt : H < W.heap.size
theorem Chg.box {S : List Nat} {U P W : World} {o : Obj} (k : Chg S U P) (h : P.alloc o = W) : Chg S U W := h ▸ k.alloc o
theorem BoxAt.new' {S : List Nat} {U P Q W : World} {u : Value} {t : TypeId} (hU : U.heap.size ≤ Q.heap.size) (k : Chg S Q P) (h : P.alloc (.cells #[u] t) = W) : BoxAt U W P.heap.size u := by
  have hs := k.size
  refine ⟨?_, by omega, ?_⟩
  · rw [← h]; exact (Blk.new P t #[u]).some_ rfl
  · rw [← h]; exact (Blk.new P t #[u]).lt
theorem BoxAt.new {S : List Nat} {U P W : World} {u : Value} {t : TypeId} (k : Chg S U P) (h : P.alloc (.cells #[u] t) = W) : BoxAt U W P.heap.size u := BoxAt.new' (Nat.le_refl _) k h
theorem BoxAt.chg {S : List Nat} {U W W' : World} {H : Nat} {u : Value} (b : BoxAt U W H u) (k : Chg S W W') (hS : ∀ x ∈ S, x < U.heap.size) : BoxAt U W' H u :=
  ⟨(k.cell (p := ⟨H, 0, none⟩) b.lt (fun h => by have h1 := hS _ h; have h2 := b.ge; simp only at h1; omega)).trans b.cell, b.ge, by have := k.size; have := b.lt; omega⟩
theorem BoxAt.box {U P W : World} {H : Nat} {u : Value} {o : Obj} (b : BoxAt U P H u) (h : P.alloc o = W) : BoxAt U W H u := b.chg ((Chg.refl [] P).box h) (fun _ h => by cases h)

set_option maxHeartbeats 3000000 in
theorem log_put_out (w : World) (fp : List Nat) (g : Nat) (L : PL) (a v : Int) (h : LogAt 71 w fp g L) (H : Inv L) (ha : 0 ≤ a) (hin : a ∉ L.addrs) :
    Calls Try.prog 36 #[.pointer (some ⟨g, 0, none⟩), .int .i64 a, .int .u64 v] w (PutPost 71 w fp g L a v) := by
  have h0 := h
  obtain ⟨A, c, V, d, X, e, hb, h1, h2, h3, h4, hfp⟩ := h.ex
  have c0 : w.cell? ⟨g, 0, none⟩ = some (.int .i64 L.cap) := hb.some_ rfl
  have c1 : w.cell? ⟨g, 1, none⟩ = some (.slice A L.addrs.length c) := hb.some_ rfl
  have c3 : w.cell? ⟨g, 3, none⟩ = some (.slice X L.idx.length e) := hb.some_ rfl
  have n32 : L.addrs.length ≤ 32 := by have := H.le; have := H.cap32; omega
  have p64 := H.p64
  have nle := H.le
  obtain ⟨n, hn⟩ : ∃ n, n = L.addrs.length := ⟨_, rfl⟩
  obtain ⟨p, hp⟩ : ∃ p, p = L.idx.length := ⟨_, rfl⟩
  obtain ⟨cp, hcp⟩ : ∃ cp, cp = L.cap := ⟨_, rfl⟩
  rw [← hn] at c1 n32 nle
  rw [← hp] at c3 p64
  rw [← hcp] at c0 nle
  have Hn := hid hn
  have Hp := hid hp
  have Hcp := hid hcp
  have Hin := hid hin
  have Hfp := hid hfp
  have H4 := hid h4
  clear h hn hp hcp hfp h4 hin
  obtain ⟨iI, hiI, hzI0, hzI1, hzI2⟩ := info_parts info_int
  obtain ⟨iU, hiU, hzU0, hzU1, hzU2⟩ := info_parts info_uint64
  go_enter Try.func36, Try.ntmps36
  go_wp2_with fail
  refine (log_place _ _ _ _ _ h0 H ha).mono ?_
  rintro e' w' ⟨t, hE, rfl, q, rfl⟩
  have hk := spot_lt H.pos a t
  obtain ⟨hE1, hE2, hE3⟩ := hE
  obtain ⟨hneg, hnegAt⟩ := H.find_out Hin.out hE1 hE2 (fun s hs => (hE3 s hs).1)
  obtain ⟨gx, hX, hgx, hcx, hfx, hst⟩ := place_cell (a := a) (t := t) H h3
  rw [← Hp.out] at hk
  obtain ⟨k, hkk⟩ : ∃ k, k = spot L.idx a t := ⟨_, rfl⟩
  obtain ⟨j, hj⟩ : ∃ j, j = ix L.idx (spot L.idx a t) := ⟨_, rfl⟩
  rw [← hj] at hneg hcx
  rw [← hkk] at hk hcx hfx hst hnegAt ⊢
  have Hna := hid hnegAt
  clear hE1 hE2 hE3 hkk hj hnegAt
  have b1 : (0 : Int) ≤ (k : Int) := by omega
  have b2 : (k : Int) < (p : Int) := by omega
  have b5 : decide ((0 : Int) ≤ j) = false := by simp; omega
  have hX' := hX
  by_cases hfull : n < cp
  · have b6 : (n == cp) = false := by simp; omega
    have hnew : Hid (putL L a v = { L with addrs := L.addrs ++ [a], vals := L.vals ++ [v], idx := L.idx.set k L.addrs.length }) := hid (by rw [putL_new ha Hin.out (by rw [← Hn.out, ← Hcp.out]; exact hfull), Hna.out])
    have hok : Hid (putOk L a = true) := hid (by unfold putOk; rw [decide_eq_true ha, ← Hn.out, ← Hcp.out, decide_eq_true hfull]; simp)
    -- the world behind the store into the index
    have gX : g ∉ fpV (.slice X L.idx.length e) := row_blk_ne h3 hb (by decide)
    have gne : g ≠ gx := fun h => gX (h ▸ hgx)
    obtain ⟨U, hU⟩ : ∃ U, U = w.setCell ⟨gx, k, none⟩ (.int .i64 n) := ⟨_, rfl⟩
    have hcU : Chg [gx] w U := by rw [hU]; exact (Chg.refl _ _).setCell (.inl (by simp)) _
    have hbU := hb.chg hcU (by simp; exact gne)
    have h1U := row_chg h1 hcU (fun k hk hk2 => H4.out k hk (by rw [List.mem_singleton.1 hk2]; exact hgx))
    have h2U := row_chg h2 hcU (fun k hk hk2 => row_row_ne h2 h3 (by decide) k hk (by rw [List.mem_singleton.1 hk2]; exact hgx))
    have h3U : U.ownsRow 0 3 1 (.slice X L.idx.length e) L.idx.length ((L.idx.set k (L.addrs.length : Int)).map (Value.int .i64)) := by
      have h9 := hst (.int .i64 n)
      rw [← hU, Hn.out] at h9
      rwa [← List.map_set] at h9
    have hwU : Chg fp w U := hcU.mono (fun x hx => .inl (by rw [List.mem_singleton.1 hx, Hfp.out]; simp [hgx]))
    have HU := hid (And.intro hbU (And.intro h1U (And.intro h2U h3U)))
    have HwU := hid hwU
    have hUU := hid hU
    clear hbU h1U h2U h3U hwU hst hb h1 h2 h3 h0 gX hcU hU
    subst hX
    clear hX'
    go_wp2_with fail
    go_quiet (fail)
    go_wp2_with fail
    refine wp_region_brk [11] (by kernel_rfl) ?_
    refine wpAnyB_now (fun w' => w'.cell? ⟨g, 1, none⟩ = some (.slice A n c) ∧ w'.cell? ⟨g, 3, none⟩ = some (.slice (some ⟨gx, 0, none⟩) p e)) (fun _ _ => trivial) _ _ _ _ ?_
    refine' wpAnyB_bulk [true, true, true, true, true, true, true, true, true, true, true] 81 (listed' := #[true, true, true, true, true, true, true, true, true, true, true, false]) rfl (by kernel_rfl) (by kernel_rfl) (by kernel_rfl) (by kernel_rfl) (by kernel_rfl) (by kernel_rfl) (by decide) (fun _ _ _ _ h => h) rfl ⟨c1, c3⟩ (fun wq hq => ?_) ?_; rotate_left 1
    · simp only [maskL]
      obtain ⟨q1, q3⟩ := hq
      repeat (go_big_quiet_step (fail))
      exact wpQuiet_nil rfl
    refine wpAnyB_brk [false, false, false, false, false, false, false, false, false, false, false, true] (fuel := 0) (by rfl) (by rfl) (by kernel_rfl) (by kernel_rfl) (fun QB hQB hQX => ?_)
    simp only [maskL]
    go_wp2_with fail
    refine hQB.out _ _ ?_
    refine wpAnyB_forget (by kernel_rfl) ?_
    refine wpAnyB_done (by kernel_rfl) ?_ _
    -- END
    go_wp2_with fail
    refine wp_region_brk [18, 21] (by kernel_rfl) ?_
    generalize hW0 : World.drew _ = W0
    have K : Chg [] U W0 := by rw [← hW0, hUU.out]; exact ⟨rfl, rfl, rfl, Nat.le_refl _, fun _ _ _ => rfl⟩
    clear hW0
    have en := Hn.out
    subst en
    obtain ⟨hbU, h1U, h2U, h3U⟩ := HU.out
    have gA : g ∉ fpV (.slice A L.addrs.length c) := row_blk_ne h1U hbU (by decide)
    have gV : g ∉ fpV (.slice V L.addrs.length d) := row_blk_ne h2U hbU (by decide)
    have nVA : ∀ k ∈ fpV (.slice V L.addrs.length d), k ∉ fpV (.slice A L.addrs.length c) := row_row_ne h2U h1U (by decide)
    have hbC := hbU.chg K (by simp)
    have hrA := row_chg h1U K (by simp)
    have hrV := row_chg h2U K (by simp)
    have d1 : W0.cell? ⟨g, 1, none⟩ = some (.slice A L.addrs.length c) := hbC.some_ rfl
    have d2 : W0.cell? ⟨g, 2, none⟩ = some (.slice V L.addrs.length d) := hbC.some_ rfl
    refine wpAnyB_now (fun w' => w'.cell? ⟨g, 1, none⟩ = some (.slice A L.addrs.length c) ∧ w'.cell? ⟨g, 2, none⟩ = some (.slice V L.addrs.length d)) (fun _ _ => trivial) _ _ _ _ ?_
    refine' wpAnyB_bulkT [true, true, true, true, true, false, true, false, false, true, true, true, false, true] 81 (listed' := #[true, true, true, true, true, false, true, false, false, true, true, true, false, true, false, false, false, false, false, false, false, false]) rfl (by kernel_rfl) (by kernel_rfl) (by kernel_rfl) (by kernel_rfl) (by kernel_rfl) (by decide) (fun _ _ _ _ h => h) rfl ⟨hbC.some_ rfl, hbC.some_ rfl⟩ (fun wq _ => ?_) ?_; rotate_left 1
    · simp only [maskL]
      repeat (go_big_quiet_step (fail))
      exact wpQuiet_nil rfl
    refine' wpAnyB_bulk [false, false, false, false, false, true, false, false, false, false, false, false, true] 81 (listed' := #[true, true, true, true, true, true, true, false, false, true, true, true, true, true, false, false, false, false, false, false, false, false]) rfl (by kernel_rfl) (by kernel_rfl) (by kernel_rfl) (by kernel_rfl) (by kernel_rfl) (by kernel_rfl) (by decide) (fun _ _ _ _ h => h) rfl ⟨d1, d2⟩ (fun wq hq => ?_) ?_; rotate_left 1
    · simp only [maskL]
      obtain ⟨q1, q3⟩ := hq
      repeat (go_big_quiet_step (fail))
      exact wpQuiet_nil rfl
    refine wpAnyB_two [false, false, false, false, false, false, false, true] [false, false, false, false, false, false, false, false, false, false, false, false, false, false, true] (fuel := 9) (by rfl) (by rfl) (by rfl) (by rfl) (by kernel_rfl) (fun QB hQB hQX => ?_) (fun QB hQB hQX => ?_)
    · simp only [maskL]
      go_wp2_with fail
      generalize hW7 : World.alloc _ (Obj.cells #[Value.int .i64 a] _) = W7
      have b7 := BoxAt.new K hW7
      try (replace b14 := b14.box hW7)
      replace K := K.box hW7
      clear hW7
      have hbC := hbU.chg K (by simp)
      refine hQB.out _ _ ⟨hbC.some_ rfl, hbC.some_ rfl⟩ ?_
      refine wpAnyB_two [false, false, false, false, false, false, false, false, true] [false, false, false, false, false, false, false, false, false, false, false, false, false, false, true] (fuel := 8) (by rfl) (by rfl) (by rfl) (by rfl) (by kernel_rfl) (fun QB hQB hQX => ?_) (fun QB hQB hQX => ?_)
      · simp only [maskL]
        go_wp2_with (at_builtin; refine wpList_append1b rfl _ _ 22 rfl 3 iI (.int .i64 0) 8 Try.underlying22 hiI hzI0 hzI1 hzI2 rfl (.slice A L.addrs.length c) L.addrs.length (L.addrs.map (Value.int .i64)) (.int .i64 a) _ rfl (row_chg h1U K (by simp)) rfl b7.cell rfl (by omega) (by decide) ?_)
        intro A' c' W3 o3 k0 f0
        have k3 := K.trans' k0
        have f3 := fun k hk => (f0 k hk).imp_right (fun h => Nat.le_trans K.size h)
        have K4 : Chg [] W3 W3 := Chg.refl _ _
        have hs3 := k3.size
        try (replace b14 := b14.chg k0 (row_lt h1U))
        have hbC := hbU.chg k3 gA
        clear k0 f0 K
        go_wp2_with fail
        refine hQB.out _ _ ⟨hbC.some_ rfl, hbC.some_ rfl⟩ ?_
        refine wpAnyB_bar [false, false, false, false, false, false, false, false, false, false, false, false, false, false, true] (fuel := 7) (by rfl) (by rfl) (by kernel_rfl) (fun QB hQB hQX => ?_)
        simp only [maskL]
        go_wp2_with fail
        generalize hW14 : World.alloc _ (Obj.cells #[Value.int .u64 v] _) = W14
        first | (have b14 := BoxAt.new' hs3 K4 hW14; replace K4 := K4.box hW14; have hbC := (hbU.chg k3 gA).chg K4 (by simp)) | (have b14 := BoxAt.new K hW14; (try (replace b7 := b7.box hW14)); replace K := K.box hW14; have hbC := hbU.chg K (by simp))
        clear hW14
        refine hQB.out _ _ ⟨hbC.some_ rfl, hbC.some_ rfl⟩ ?_
        refine wpAnyB_bar [false, false, false, false, false, false, false, false, false, false, false, false, false, false, false, true] (fuel := 6) (by rfl) (by rfl) (by kernel_rfl) (fun QB hQB hQX => ?_)
        simp only [maskL]
        go_wp2_with (at_builtin; refine wpList_append1b rfl _ _ 61 rfl 50 iU (.int .u64 0) 8 Try.underlying61 hiU hzU0 hzU1 hzU2 rfl (.slice V L.addrs.length d) L.addrs.length (L.vals.map (Value.int .u64)) (.int .u64 v) _ rfl (row_chg (row_chg h2U k3 nVA) K4 (by simp)) rfl b14.cell rfl (by omega) (by decide) ?_)
        intro V' d' W5 o5 k5 f5
        have hbC := ((hbU.chg k3 gA).chg K4 (by simp)).chg k5 gV
        obtain ⟨e1, z1, e2, z2, fp', hL, hC, hf⟩ := log_new (ixs := L.idx.set k L.addrs.length) (a := a) (v := v) hbU (by decide) (by decide) h1U h2U h3U H4.out Hfp.out (by simp) HwU.out k3 o3 f3 K4 k5 o5 f5
        have HF : Hid (PutPost 71 w fp g L a v (.returned (.bool true)) _) := hid ⟨by rw [hok.out], fp', by rw [hnew.out]; exact hL, hC, hf⟩
        clear hL hC hf o5 k5 f5
        go_wp2_with fail
        refine hQB.out _ _ ⟨hbC.some_ rfl, hbC.some_ rfl⟩ ?_
        refine' wpAnyB_bulkT [false, false, false, false, false, false, false, false, false, false, false, false, false, false, false, false, true, true] 81 (listed' := #[true, true, true, true, true, true, true, true, true, true, true, true, true, true, true, true, true, true, false, false, false, false]) rfl (by kernel_rfl) (by kernel_rfl) (by kernel_rfl) (by kernel_rfl) (by kernel_rfl) (by decide) (fun _ _ _ _ h => h) rfl ⟨hbC.some_ rfl, hbC.some_ rfl⟩ (fun wq _ => ?_) ?_; rotate_left 1
        · simp only [maskL]
          repeat (go_big_quiet_step (fail))
          exact wpQuiet_nil rfl
        refine wpAnyB_brk [false, false, false, false, false, false, false, false, false, false, false, false, false, false, false, false, false, false, true] (fuel := 3) (by rfl) (by rfl) (by kernel_rfl) (by kernel_rfl) (fun QB hQB hQX => ?_)
        simp only [maskL]
        go_wp2_with fail
        refine hQB.out _ _ ?_
        refine wpAnyB_forget (by kernel_rfl) ?_
        refine' wpAnyB_bulk [false, false, false, false, false, false, false, false, false, false, false, false, false, false, false, false, false, false, false, true, true] 81 (listed' := #[true, true, true, true, true, true, true, true, true, true, true, true, true, true, true, true, true, true, true, true, true, false]) rfl (by kernel_rfl) (by kernel_rfl) (by kernel_rfl) (by kernel_rfl) (by kernel_rfl) (by kernel_rfl) (by decide) (fun _ _ _ _ h => h) rfl trivial (fun wq hq => ?_) ?_; rotate_left 1
        · simp only [maskL]
          repeat (go_big_quiet_step (fail))
          exact wpQuiet_nil rfl
        refine wpAnyB_bar [false, false, false, false, false, false, false, false, false, false, false, false, false, false, false, false, false, false, false, false, false, true] (fuel := 0) (by rfl) (by rfl) (by kernel_rfl) (fun QB hQB hQX => ?_)
        simp only [maskL]
        go_wp2_with fail
        refine hQB.out _ _ trivial ?_
        refine wpAnyB_done (by kernel_rfl) ?_ _
        go_wp2_with fail
        go_ret
        exact HF.out
      · simp only [maskL]
        go_wp2_with fail
        generalize hW14 : World.alloc _ (Obj.cells #[Value.int .u64 v] _) = W14
        first | (have b14 := BoxAt.new' hs3 K4 hW14; replace K4 := K4.box hW14; have hbC := (hbU.chg k3 gA).chg K4 (by simp)) | (have b14 := BoxAt.new K hW14; (try (replace b7 := b7.box hW14)); replace K := K.box hW14; have hbC := hbU.chg K (by simp))
        clear hW14
        refine hQB.out _ _ ⟨hbC.some_ rfl, hbC.some_ rfl⟩ ?_
        refine wpAnyB_bar [false, false, false, false, false, false, false, false, true] (fuel := 7) (by rfl) (by rfl) (by kernel_rfl) (fun QB hQB hQX => ?_)
        simp only [maskL]
        go_wp2_with (at_builtin; refine wpList_append1b rfl _ _ 22 rfl 3 iI (.int .i64 0) 8 Try.underlying22 hiI hzI0 hzI1 hzI2 rfl (.slice A L.addrs.length c) L.addrs.length (L.addrs.map (Value.int .i64)) (.int .i64 a) _ rfl (row_chg h1U K (by simp)) rfl b7.cell rfl (by omega) (by decide) ?_)
        intro A' c' W3 o3 k0 f0
        have k3 := K.trans' k0
        have f3 := fun k hk => (f0 k hk).imp_right (fun h => Nat.le_trans K.size h)
        have K4 : Chg [] W3 W3 := Chg.refl _ _
        have hs3 := k3.size
        try (replace b14 := b14.chg k0 (row_lt h1U))
        have hbC := hbU.chg k3 gA
        clear k0 f0 K
        go_wp2_with fail
        refine hQB.out _ _ ⟨hbC.some_ rfl, hbC.some_ rfl⟩ ?_
        refine wpAnyB_bar [false, false, false, false, false, false, false, false, false, false, false, false, false, false, false, true] (fuel := 6) (by rfl) (by rfl) (by kernel_rfl) (fun QB hQB hQX => ?_)
        simp only [maskL]
        go_wp2_with (at_builtin; refine wpList_append1b rfl _ _ 61 rfl 50 iU (.int .u64 0) 8 Try.underlying61 hiU hzU0 hzU1 hzU2 rfl (.slice V L.addrs.length d) L.addrs.length (L.vals.map (Value.int .u64)) (.int .u64 v) _ rfl (row_chg (row_chg h2U k3 nVA) K4 (by simp)) rfl b14.cell rfl (by omega) (by decide) ?_)
        intro V' d' W5 o5 k5 f5
        have hbC := ((hbU.chg k3 gA).chg K4 (by simp)).chg k5 gV
        obtain ⟨e1, z1, e2, z2, fp', hL, hC, hf⟩ := log_new (ixs := L.idx.set k L.addrs.length) (a := a) (v := v) hbU (by decide) (by decide) h1U h2U h3U H4.out Hfp.out (by simp) HwU.out k3 o3 f3 K4 k5 o5 f5
        have HF : Hid (PutPost 71 w fp g L a v (.returned (.bool true)) _) := hid ⟨by rw [hok.out], fp', by rw [hnew.out]; exact hL, hC, hf⟩
        clear hL hC hf o5 k5 f5
        go_wp2_with fail
        refine hQB.out _ _ ⟨hbC.some_ rfl, hbC.some_ rfl⟩ ?_
        refine' wpAnyB_bulkT [false, false, false, false, false, false, false, false, false, false, false, false, false, false, false, false, true, true] 81 (listed' := #[true, true, true, true, true, true, true, true, true, true, true, true, true, true, true, true, true, true, false, false, false, false]) rfl (by kernel_rfl) (by kernel_rfl) (by kernel_rfl) (by kernel_rfl) (by kernel_rfl) (by decide) (fun _ _ _ _ h => h) rfl ⟨hbC.some_ rfl, hbC.some_ rfl⟩ (fun wq _ => ?_) ?_; rotate_left 1
        · simp only [maskL]
          repeat (go_big_quiet_step (fail))
          exact wpQuiet_nil rfl
        refine wpAnyB_brk [false, false, false, false, false, false, false, false, false, false, false, false, false, false, false, false, false, false, true] (fuel := 3) (by rfl) (by rfl) (by kernel_rfl) (by kernel_rfl) (fun QB hQB hQX => ?_)
        simp only [maskL]
        go_wp2_with fail
        refine hQB.out _ _ ?_
        refine wpAnyB_forget (by kernel_rfl) ?_
        refine' wpAnyB_bulk [false, false, false, false, false, false, false, false, false, false, false, false, false, false, false, false, false, false, false, true, true] 81 (listed' := #[true, true, true, true, true, true, true, true, true, true, true, true, true, true, true, true, true, true, true, true, true, false]) rfl (by kernel_rfl) (by kernel_rfl) (by kernel_rfl) (by kernel_rfl) (by kernel_rfl) (by kernel_rfl) (by decide) (fun _ _ _ _ h => h) rfl trivial (fun wq hq => ?_) ?_; rotate_left 1
        · simp only [maskL]
          repeat (go_big_quiet_step (fail))
          exact wpQuiet_nil rfl
        refine wpAnyB_bar [false, false, false, false, false, false, false, false, false, false, false, false, false, false, false, false, false, false, false, false, false, true] (fuel := 0) (by rfl) (by rfl) (by kernel_rfl) (fun QB hQB hQX => ?_)
        simp only [maskL]
        go_wp2_with fail
        refine hQB.out _ _ trivial ?_
        refine wpAnyB_done (by kernel_rfl) ?_ _
        go_wp2_with fail
        go_ret
        exact HF.out
    · simp only [maskL]
      go_wp2_with fail
      generalize hW14 : World.alloc _ (Obj.cells #[Value.int .u64 v] _) = W14
      first | (have b14 := BoxAt.new' hs3 K4 hW14; replace K4 := K4.box hW14; have hbC := (hbU.chg k3 gA).chg K4 (by simp)) | (have b14 := BoxAt.new K hW14; (try (replace b7 := b7.box hW14)); replace K := K.box hW14; have hbC := hbU.chg K (by simp))
      clear hW14
      refine hQB.out _ _ ⟨hbC.some_ rfl, hbC.some_ rfl⟩ ?_
      refine wpAnyB_bar [false, false, false, false, false, false, false, true] (fuel := 8) (by rfl) (by rfl) (by kernel_rfl) (fun QB hQB hQX => ?_)
      simp only [maskL]
      go_wp2_with fail
      generalize hW7 : World.alloc _ (Obj.cells #[Value.int .i64 a] _) = W7
      have b7 := BoxAt.new K hW7
      try (replace b14 := b14.box hW7)
      replace K := K.box hW7
      clear hW7
      have hbC := hbU.chg K (by simp)
      refine hQB.out _ _ ⟨hbC.some_ rfl, hbC.some_ rfl⟩ ?_
      refine wpAnyB_bar [false, false, false, false, false, false, false, false, true] (fuel := 7) (by rfl) (by rfl) (by kernel_rfl) (fun QB hQB hQX => ?_)
      simp only [maskL]
      go_wp2_with (at_builtin; refine wpList_append1b rfl _ _ 22 rfl 3 iI (.int .i64 0) 8 Try.underlying22 hiI hzI0 hzI1 hzI2 rfl (.slice A L.addrs.length c) L.addrs.length (L.addrs.map (Value.int .i64)) (.int .i64 a) _ rfl (row_chg h1U K (by simp)) rfl b7.cell rfl (by omega) (by decide) ?_)
      intro A' c' W3 o3 k0 f0
      have k3 := K.trans' k0
      have f3 := fun k hk => (f0 k hk).imp_right (fun h => Nat.le_trans K.size h)
      have K4 : Chg [] W3 W3 := Chg.refl _ _
      have hs3 := k3.size
      try (replace b14 := b14.chg k0 (row_lt h1U))
      have hbC := hbU.chg k3 gA
      clear k0 f0 K
      go_wp2_with fail
      refine hQB.out _ _ ⟨hbC.some_ rfl, hbC.some_ rfl⟩ ?_
      refine wpAnyB_bar [false, false, false, false, false, false, false, false, false, false, false, false, false, false, false, true] (fuel := 6) (by rfl) (by rfl) (by kernel_rfl) (fun QB hQB hQX => ?_)
      simp only [maskL]
      go_wp2_with (at_builtin; refine wpList_append1b rfl _ _ 61 rfl 50 iU (.int .u64 0) 8 Try.underlying61 hiU hzU0 hzU1 hzU2 rfl (.slice V L.addrs.length d) L.addrs.length (L.vals.map (Value.int .u64)) (.int .u64 v) _ rfl (row_chg (row_chg h2U k3 nVA) K4 (by simp)) rfl b14.cell rfl (by omega) (by decide) ?_)
      intro V' d' W5 o5 k5 f5
      have hbC := ((hbU.chg k3 gA).chg K4 (by simp)).chg k5 gV
      obtain ⟨e1, z1, e2, z2, fp', hL, hC, hf⟩ := log_new (ixs := L.idx.set k L.addrs.length) (a := a) (v := v) hbU (by decide) (by decide) h1U h2U h3U H4.out Hfp.out (by simp) HwU.out k3 o3 f3 K4 k5 o5 f5
      have HF : Hid (PutPost 71 w fp g L a v (.returned (.bool true)) _) := hid ⟨by rw [hok.out], fp', by rw [hnew.out]; exact hL, hC, hf⟩
      clear hL hC hf o5 k5 f5
      go_wp2_with fail
      refine hQB.out _ _ ⟨hbC.some_ rfl, hbC.some_ rfl⟩ ?_
      refine' wpAnyB_bulkT [false, false, false, false, false, false, false, false, false, false, false, false, false, false, false, false, true, true] 81 (listed' := #[true, true, true, true, true, true, true, true, true, true, true, true, true, true, true, true, true, true, false, false, false, false]) rfl (by kernel_rfl) (by kernel_rfl) (by kernel_rfl) (by kernel_rfl) (by kernel_rfl) (by decide) (fun _ _ _ _ h => h) rfl ⟨hbC.some_ rfl, hbC.some_ rfl⟩ (fun wq _ => ?_) ?_; rotate_left 1
      · simp only [maskL]
        repeat (go_big_quiet_step (fail))
        exact wpQuiet_nil rfl
      refine wpAnyB_brk [false, false, false, false, false, false, false, false, false, false, false, false, false, false, false, false, false, false, true] (fuel := 3) (by rfl) (by rfl) (by kernel_rfl) (by kernel_rfl) (fun QB hQB hQX => ?_)
      simp only [maskL]
      go_wp2_with fail
      refine hQB.out _ _ ?_
      refine wpAnyB_forget (by kernel_rfl) ?_
      refine' wpAnyB_bulk [false, false, false, false, false, false, false, false, false, false, false, false, false, false, false, false, false, false, false, true, true] 81 (listed' := #[true, true, true, true, true, true, true, true, true, true, true, true, true, true, true, true, true, true, true, true, true, false]) rfl (by kernel_rfl) (by kernel_rfl) (by kernel_rfl) (by kernel_rfl) (by kernel_rfl) (by kernel_rfl) (by decide) (fun _ _ _ _ h => h) rfl trivial (fun wq hq => ?_) ?_; rotate_left 1
      · simp only [maskL]
        repeat (go_big_quiet_step (fail))
        exact wpQuiet_nil rfl
      refine wpAnyB_bar [false, false, false, false, false, false, false, false, false, false, false, false, false, false, false, false, false, false, false, false, false, true] (fuel := 0) (by rfl) (by rfl) (by kernel_rfl) (fun QB hQB hQX => ?_)
      simp only [maskL]
      go_wp2_with fail
      refine hQB.out _ _ trivial ?_
      refine wpAnyB_done (by kernel_rfl) ?_ _
      go_wp2_with fail
      go_ret
      exact HF.out
  · have b6 : (n == cp) = true := by simp; omega
    have hfin : ∀ q', PutPost 71 w fp g L a v (.returned (.bool false)) (w.drewN q') := fun q' => by
      have hno : ¬ L.addrs.length < L.cap := by rw [← Hn.out, ← Hcp.out]; exact hfull
      have e : putOk L a = false := by unfold putOk; rw [decide_eq_true ha, decide_eq_false Hin.out, decide_eq_false hno]; rfl
      exact ⟨by rw [e], fp, by rw [putL_full ha Hin.out hno]; exact h0.drewN q', (Chg.refl _ _).drewN q', fun b hb => .inl hb⟩
    have HF := hid hfin
    clear hfin hb h1 h2 h3 h0 hst
    subst hX
    clear hX'
    go_wp2_with fail
    go_quiet (fail)
    go_wp2_with fail
    go_ret
    first | exact HF.out _ | (rw [World.drewN_drewN]; exact HF.out _)
end Go.Proofs.Ytponapjgajmdnaa
